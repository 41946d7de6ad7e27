/- The plain law of GridSnaps: the number of a place's pixel is the reference's. -/
import Derived.Test.YtpjbniihdndlmabM8r
import Derived.Test.YtpjbniihdndlmabM12
import Derived.Test.YtpjbniihdndlmabM8
import Derived.Test.YtpjbniihdndlmabAlive3
import Derived.Test.YtpjbniihdndlmabQx25
import Derived.Test.YtpjbniihdndlmabQx28
namespace Go.Proofs.Ytpjbniihdndlmab.Pure
open Go.RowKit Go.Proofs.Ytpjbniihdndlmab.H Go.Proofs.Ytpjbniihdndlmab.Q Go.Proofs.Ytpjbniihdndlmab.M Go.Proofs.YtpjbniihdndlmabW.PrintWords Go.Proofs.YtpjbniihdndlmabW.PrintMore
set_option linter.unusedVariables false
theorem GridSnaps (a0 : Int) (a1 : Int) (a2 : Int) (w0 : IntKind.i64.has a0) (w1 : IntKind.i64.has a1) (w2 : IntKind.i64.has a2) : ∃ k, cobweblaw03_GridSnaps.f k a0 a1 a2 = some true := by
 have h0 := i64has w0
 have h1 := i64has w1
 obtain ⟨k, hk⟩ : ∃ k : Nat, k = 1010000 := ⟨_, rfl⟩
 refine ⟨k + 1, ?_⟩
 have al : cobweblaw03_alive.f k = some true := at_rounds cobweblaw03_alive.mono (show 1000 ≤ k by omega) alive3_at
 obtain ⟨j, hj, h28⟩ := rung_nat a2
 have si := snapG_i64 h0 j
 have l0 := len_mono (len_i64 h0) (show 5 ≤ 10 by omega)
 have ls := len_mono (len_i64 si) (show 5 ≤ 10 by omega)
 unfold cobweblaw03_GridSnaps.f
 rw [gsnap_eq a0 a2 j hj h0, Option.bind_some, ref_of _ si (k + 1) (by omega), Option.bind_some]
 unfold cobwebref03_Snap.f
 rw [ref_of a0 h0 (k + 1) (by omega), Option.bind_some, ref_of 1 (by decide) (k + 1) (by omega), Option.bind_some, rung3_eq, Option.bind_some, hj]
 dsimp only
 rw [ref_snap a0 1 l0 (len_mono (len_i64 (by decide)) (by omega)) (by omega) j (by omega) (k + 1) (by omega), Option.bind_some, Option.bind_some, snapG_snapI]
 dsimp only
 rw [ref_cmp _ _ 10 (k + 1) ls ls (by omega) (by omega), Option.bind_some, cmp_self, if_pos rfl]
 have rr : grid_Right.f a2 = some (decide (0 ≤ a2 ∧ a2 ≤ 28)) := by
  unfold grid_Right.f
  by_cases c : a2 ≥ 0
  ·rw [if_pos c]
   congr 1
   rw [decide_eq_decide]
   omega
  ·rw [if_neg c, decide_eq_false (by omega)]
 rw [rr, Option.bind_some, Option.bind_some]
 have eb : (decide (0 ≤ a2 ∧ a2 ≤ 28) != (a2 == (j : Int))) = false := by
  rw [← hj]
  have : (a2 == rungN a2) = decide (0 ≤ a2 ∧ a2 ≤ 28) := by
   rw [Bool.eq_iff_iff, beq_iff_eq, decide_eq_true_eq]
   unfold rungN
   repeat' split
   all_goals omega
  rw [this]
  simp
 rw [eb]
 simp only [cobweblaw03_GridSnaps.j0, Bool.false_eq_true, if_false]
 rw [gof_eq a0 a1 a2 j hj h0 h1, Option.bind_some, al, Option.bind_some, if_pos rfl, if_pos rfl, gsnap_eq a1 a2 j hj h1, Option.bind_some, if_pos rfl]
 by_cases c : a0 > a1
 ·rw [if_pos c]
 ·rw [if_neg c]
  congr 1
  rw [decide_eq_true_eq, ← snapG_snapI, ← snapG_snapI]
  exact snap_mono (by omega) (by omega) (by omega) j
end Go.Proofs.Ytpjbniihdndlmab.Pure
