/- The statement GridOrders: for every input the law answers true: the walk of the printed texts, and the plain law. -/
import Derived.Test.YtpjbniihdndlmabRows
import Derived.Test.YtpjbniihdndlmabQx34
import Derived.Test.YtpjbniihdndlmabOpen
import Derived.Test.YtpjbniihdndlmabPureGridOrders
import Derived.WalkKit
import Derived.ProofKit
import Derived.OpenShut
import Derived.ShutString
import Derived.ChangeOld
import Derived.Below
import Derived.SizedLaws
import Derived.Carry
namespace Go.Proofs.Ytpjbniihdndlmab.gridOrders
open Go.ChangeShapes Go.WideShapes Go.ChangeAt Go.RowKit
set_option linter.unusedVariables false
theorem own : ownKnob Try.prog.godebug = none := by kernel_rfl
theorem laidOut : laidOutB Try.prog = true := by kernel_rfl
set_option maxRecDepth 100000 in
theorem lifted (os : Os) (started : os.Started) (H : Type) (enc : TypeId × Value → H) :
    ReturnsInHanded {} Try.checked os 12 .any (Rows.gridOrdersSpec.pre6 enc Try.prog Try.f12 Rows.gridOrdersRow.domain false) (Rows.gridOrdersSpec.post enc Try.prog Try.f12 false true false false) := by
  refine returnsInHanded_of_change_sized (C := Try.checked) own started (by kernel_rfl) Try.func12
    (ChangeSpec.witness6 (enc := enc) (C := Try.checked) false ⟨#[], #[.agg #[.int .i64 0, .int .i64 0], .agg #[.int .i64 0, .int .i64 0], .agg #[.int .i64 0, .int .i64 0]], []⟩ 8 (by kernel_rfl) (by kernel_rfl) (by kernel_rfl) (by kernel_rfl)) ?_
  intro W base args ds gs before hval0 hW hcnd hsz0 _
  have hval : ∀ (j : Nat) t v, Try.f12.params[j]? = some t → args[j]? = some v → Value.okWide Try.prog W .any base t v := hval0
  have hW' := hW
  obtain ⟨p, q, hA0, hV, rfl, hfz, hnd⟩ := hW
  have hA : DataW.TrodAll enc Try.prog W 0 (fun _ => true) true Try.f12.params.toList args.toList ds p := hA0
  rw [Try.params12] at hA hval
  obtain ⟨v0, vs0, d0, ds0, p0, q0, hargs, rfl, rfl, h0, r0⟩ := trodAll_cons hA
  obtain ⟨v1, vs1, d1, ds1, p1, q1, rfl, rfl, rfl, h1, r1⟩ := trodAll_cons r0
  obtain ⟨v2, vs2, d2, ds2, p2, q2, rfl, rfl, rfl, h2, r2⟩ := trodAll_cons r1
  obtain ⟨rfl, rfl, rfl⟩ := trodAll_nil r2
  obtain rfl : args = #[v0, v1, v2] := by cases args; simp_all
  obtain ⟨rfl, rfl⟩ := trodVars_none hV
  have lt0 : ∀ x ∈ p0, x.block < W.heap.size := by obtain ⟨m, hm⟩ := h0; exact DataW.trod_lt m _ _ _ hm
  obtain ⟨cs0, rfl, hl0, hc0⟩ := Opn.cells (n := 2) (ts := [3, 3]) (Or.inl ⟨_, Try.underlying60⟩) (by kernel_rfl) rfl (by kernel_rfl) (hval 0 60 v0 rfl rfl)
  obtain ⟨a0_0, e0_0, w0_0⟩ := Opn.at_int (i := 0) hc0 rfl Try.underlying3
  obtain ⟨a0_1, e0_1, w0_1⟩ := Opn.at_int (i := 1) hc0 rfl Try.underlying3
  obtain rfl := Opn.list2 hl0 e0_0 e0_1
  have lt1 : ∀ x ∈ p1, x.block < W.heap.size := by obtain ⟨m, hm⟩ := h1; exact DataW.trod_lt m _ _ _ hm
  obtain ⟨cs1, rfl, hl1, hc1⟩ := Opn.cells (n := 2) (ts := [3, 3]) (Or.inl ⟨_, Try.underlying60⟩) (by kernel_rfl) rfl (by kernel_rfl) (hval 1 60 v1 rfl rfl)
  obtain ⟨a1_0, e1_0, w1_0⟩ := Opn.at_int (i := 0) hc1 rfl Try.underlying3
  obtain ⟨a1_1, e1_1, w1_1⟩ := Opn.at_int (i := 1) hc1 rfl Try.underlying3
  obtain rfl := Opn.list2 hl1 e1_0 e1_1
  have lt2 : ∀ x ∈ p2, x.block < W.heap.size := by obtain ⟨m, hm⟩ := h2; exact DataW.trod_lt m _ _ _ hm
  obtain ⟨cs2, rfl, hl2, hc2⟩ := Opn.cells (n := 2) (ts := [3, 3]) (Or.inl ⟨_, Try.underlying60⟩) (by kernel_rfl) rfl (by kernel_rfl) (hval 2 60 v2 rfl rfl)
  obtain ⟨a2_0, e2_0, w2_0⟩ := Opn.at_int (i := 0) hc2 rfl Try.underlying3
  obtain ⟨a2_1, e2_1, w2_1⟩ := Opn.at_int (i := 1) hc2 rfl Try.underlying3
  obtain rfl := Opn.list2 hl2 e2_0 e2_1
  obtain ⟨k, hk⟩ := Pure.GridOrders a0_0 a0_1 a1_0 a1_1 a2_0 a2_1 w0_0 w0_1 w1_0 w1_1 w2_0 w2_1
  refine (Q.cobweblaw03_GridOrders.calls k a0_0 a0_1 a1_0 a1_1 a2_0 a2_1 true W hk).mono fun e W' ⟨he, bel⟩ => ?_
  subst he
  exact ⟨_, rfl, _, _, _, [], _, [], hW', trodAll_mk1 (shut_bool Try.underlying4 _), (trodAll_cons_mk (Below.trod laidOut (by kernel_rfl) (of_decide_eq_true (by kernel_rfl)) h0 bel lt0) (trodAll_cons_mk (Below.trod laidOut (by kernel_rfl) (of_decide_eq_true (by kernel_rfl)) h1 bel lt1) (trodAll_cons_mk (Below.trod laidOut (by kernel_rfl) (of_decide_eq_true (by kernel_rfl)) h2 bel lt2) trodAll_mk0))), rfl, bel.frame _, fun h => by cases h⟩
theorem over : Rows.gridOrdersRow.holds Try.pinned (OpenSpec.ofChange Rows.gridOrdersSpec) :=
  OpenClaim.holds_of_wide 12 Try.f12 rfl rfl rfl rfl rfl rfl rfl ⟨rfl, rfl, rfl, rfl, rfl⟩ rfl rfl rfl rfl rfl (by kernel_rfl) Try.func12 (by kernel_rfl)
    (of_decide_eq_true (by kernel_rfl)) (by unfold Func.isWrapper; first | (rw [if_pos (by decide +kernel)]; kernel_rfl) | (rw [if_neg (by decide +kernel)]; exact ⟨rfl, rfl⟩))
    (fun os started H enc _ => lifted os started H enc)
end Go.Proofs.Ytpjbniihdndlmab.gridOrders
namespace Go.Proofs.Ytpjbniihdndlmab
/-- The statement. -/
theorem gridOrders_holds : Rows.GridOrdersSaid := gridOrders.over
#print axioms gridOrders_holds
end Go.Proofs.Ytpjbniihdndlmab
