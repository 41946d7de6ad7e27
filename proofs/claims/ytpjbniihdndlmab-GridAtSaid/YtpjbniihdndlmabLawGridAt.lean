/- The statement GridAt: for every input the law answers true: the walk of the printed texts, and the plain law. -/
import Derived.Test.YtpjbniihdndlmabRows
import Derived.Test.YtpjbniihdndlmabQx28
import Derived.Test.YtpjbniihdndlmabOpen
import Derived.Test.YtpjbniihdndlmabPureGridAt
import Derived.WalkKit
import Derived.ProofKit
import Derived.OpenShut
import Derived.ShutString
import Derived.ChangeOld
import Derived.Below
import Derived.SizedLaws
import Derived.Carry
namespace Go.Proofs.Ytpjbniihdndlmab.gridAt
open Go.ChangeShapes Go.WideShapes Go.ChangeAt Go.RowKit
set_option linter.unusedVariables false
theorem own : ownKnob Try.prog.godebug = none := by kernel_rfl
theorem laidOut : laidOutB Try.prog = true := by kernel_rfl
set_option maxRecDepth 100000 in
theorem lifted (os : Os) (started : os.Started) (H : Type) (enc : TypeId × Value → H) :
    ReturnsInHanded {} Try.checked os 9 .any (Rows.gridAtSpec.pre6 enc Try.prog Try.f9 Rows.gridAtRow.domain false) (Rows.gridAtSpec.post enc Try.prog Try.f9 false true false false) := by
  refine returnsInHanded_of_change_sized (C := Try.checked) own started (by kernel_rfl) Try.func9
    (ChangeSpec.witness6 (enc := enc) (C := Try.checked) false ⟨#[], #[.agg #[.int .i64 0, .int .u64 0, .int .i64 0, .int .u64 0], .agg #[.int .i64 0, .int .u64 0, .int .i64 0, .int .u64 0], .int .i64 0], []⟩ 8 (by kernel_rfl) (by kernel_rfl) (by kernel_rfl) (by kernel_rfl)) ?_
  intro W base args ds gs before hval0 hW hcnd hsz0 _
  have hval : ∀ (j : Nat) t v, Try.f9.params[j]? = some t → args[j]? = some v → Value.okWide Try.prog W .any base t v := hval0
  have hW' := hW
  obtain ⟨p, q, hA0, hV, rfl, hfz, hnd⟩ := hW
  have hA : DataW.TrodAll enc Try.prog W 0 (fun _ => true) true Try.f9.params.toList args.toList ds p := hA0
  rw [Try.params9] at hA hval
  obtain ⟨v0, vs0, d0, ds0, p0, q0, hargs, rfl, rfl, h0, r0⟩ := trodAll_cons hA
  obtain ⟨v1, vs1, d1, ds1, p1, q1, rfl, rfl, rfl, h1, r1⟩ := trodAll_cons r0
  obtain ⟨v2, vs2, d2, ds2, p2, q2, rfl, rfl, rfl, h2, r2⟩ := trodAll_cons r1
  obtain ⟨rfl, rfl, rfl⟩ := trodAll_nil r2
  obtain rfl : args = #[v0, v1, v2] := by cases args; simp_all
  obtain ⟨rfl, rfl⟩ := trodVars_none hV
  have lt0 : ∀ x ∈ p0, x.block < W.heap.size := by obtain ⟨m, hm⟩ := h0; exact DataW.trod_lt m _ _ _ hm
  obtain ⟨cs0, rfl, hl0, hc0⟩ := Opn.cells (n := 4) (ts := [2, 22, 2, 22]) (Or.inl ⟨_, Try.underlying26⟩) (by kernel_rfl) rfl (by kernel_rfl) (hval 0 26 v0 rfl rfl)
  obtain ⟨a0_0, e0_0, w0_0⟩ := Opn.at_int (i := 0) hc0 rfl Try.underlying2
  obtain ⟨a0_1, e0_1, w0_1⟩ := Opn.at_int (i := 1) hc0 rfl Try.underlying22
  obtain ⟨a0_2, e0_2, w0_2⟩ := Opn.at_int (i := 2) hc0 rfl Try.underlying2
  obtain ⟨a0_3, e0_3, w0_3⟩ := Opn.at_int (i := 3) hc0 rfl Try.underlying22
  obtain rfl := Opn.list4 hl0 e0_0 e0_1 e0_2 e0_3
  have lt1 : ∀ x ∈ p1, x.block < W.heap.size := by obtain ⟨m, hm⟩ := h1; exact DataW.trod_lt m _ _ _ hm
  obtain ⟨cs1, rfl, hl1, hc1⟩ := Opn.cells (n := 4) (ts := [2, 22, 2, 22]) (Or.inl ⟨_, Try.underlying26⟩) (by kernel_rfl) rfl (by kernel_rfl) (hval 1 26 v1 rfl rfl)
  obtain ⟨a1_0, e1_0, w1_0⟩ := Opn.at_int (i := 0) hc1 rfl Try.underlying2
  obtain ⟨a1_1, e1_1, w1_1⟩ := Opn.at_int (i := 1) hc1 rfl Try.underlying22
  obtain ⟨a1_2, e1_2, w1_2⟩ := Opn.at_int (i := 2) hc1 rfl Try.underlying2
  obtain ⟨a1_3, e1_3, w1_3⟩ := Opn.at_int (i := 3) hc1 rfl Try.underlying22
  obtain rfl := Opn.list4 hl1 e1_0 e1_1 e1_2 e1_3
  have lt2 : ∀ x ∈ p2, x.block < W.heap.size := by obtain ⟨m, hm⟩ := h2; exact DataW.trod_lt m _ _ _ hm
  obtain ⟨a2, rfl, w2⟩ := Opn.cell_int Try.underlying3 (show Cell.okWide Try.prog W .any base 3 v2 from by have := hval 2 3 v2 rfl rfl; simp only [Value.okWide, Try.underlying3] at this; exact this)
  obtain ⟨k, hk⟩ := Pure.GridAt a0_0 a0_1 a0_2 a0_3 a1_0 a1_1 a1_2 a1_3 a2 w0_0 w0_1 w0_2 w0_3 w1_0 w1_1 w1_2 w1_3 w2
  refine (Q.cobweblaw03_GridAt.calls k a0_0 a0_1 a0_2 a0_3 a1_0 a1_1 a1_2 a1_3 a2 true W hk).mono fun e W' ⟨he, bel⟩ => ?_
  subst he
  exact ⟨_, rfl, _, _, _, [], _, [], hW', trodAll_mk1 (shut_bool Try.underlying4 _), (trodAll_cons_mk (Below.trod laidOut (by kernel_rfl) (of_decide_eq_true (by kernel_rfl)) h0 bel lt0) (trodAll_cons_mk (Below.trod laidOut (by kernel_rfl) (of_decide_eq_true (by kernel_rfl)) h1 bel lt1) (trodAll_cons_mk (Below.trod laidOut (by kernel_rfl) (of_decide_eq_true (by kernel_rfl)) h2 bel lt2) trodAll_mk0))), rfl, bel.frame _, fun h => by cases h⟩
theorem over : Rows.gridAtRow.holds Try.pinned (OpenSpec.ofChange Rows.gridAtSpec) :=
  OpenClaim.holds_of_wide 9 Try.f9 rfl rfl rfl rfl rfl rfl rfl ⟨rfl, rfl, rfl, rfl, rfl⟩ rfl rfl rfl rfl rfl (by kernel_rfl) Try.func9 (by kernel_rfl)
    (of_decide_eq_true (by kernel_rfl)) (by unfold Func.isWrapper; first | (rw [if_pos (by decide +kernel)]; kernel_rfl) | (rw [if_neg (by decide +kernel)]; exact ⟨rfl, rfl⟩))
    (fun os started H enc _ => lifted os started H enc)
end Go.Proofs.Ytpjbniihdndlmab.gridAt
namespace Go.Proofs.Ytpjbniihdndlmab
/-- The statement. -/
theorem gridAt_holds : Rows.GridAtSaid := gridAt.over
#print axioms gridAt_holds
end Go.Proofs.Ytpjbniihdndlmab
