/- The plain law of GridHolds: a point that is not too far is in its pixel. -/
import Derived.Test.YtpjbniihdndlmabM9
import Derived.Test.YtpjbniihdndlmabAlive3
import Derived.Test.YtpjbniihdndlmabQx32
namespace Go.Proofs.Ytpjbniihdndlmab.Pure
open Go.RowKit Go.Proofs.Ytpjbniihdndlmab.H Go.Proofs.Ytpjbniihdndlmab.Q Go.Proofs.Ytpjbniihdndlmab.M Go.Proofs.YtpjbniihdndlmabW.PrintWords Go.Proofs.YtpjbniihdndlmabW.PrintMore
set_option linter.unusedVariables false
theorem GridHolds (a0 : Int) (a1 : Int) (a2 : Int) (w0 : IntKind.i64.has a0) (w1 : IntKind.i64.has a1) (w2 : IntKind.i64.has a2) : ∃ k, cobweblaw03_GridHolds.f k a0 a1 a2 = some true := by
  obtain ⟨k, hk⟩ : ∃ k : Nat, k = 5000 := ⟨_, rfl⟩
  refine ⟨k + 2, ?_⟩
  have al : ∀ m, k ≤ m → cobweblaw03_alive.f m = some true := fun m hm => at_rounds cobweblaw03_alive.mono (show 1000 ≤ m by omega) alive3_at
  have bad : cobweblaw03_GridHolds.j0 (k + 2) a0 a1 a2 true = some true := by
    simp only [cobweblaw03_GridHolds.j0, if_true]
    rw [al _ (by omega)]
    rfl
  obtain ⟨j, hj, h28⟩ := rung_nat a2
  unfold cobweblaw03_GridHolds.f
  by_cases c1 : a0 < -67108864
  · rw [if_pos c1]; exact bad
  · rw [if_neg c1]
    by_cases c2 : a0 > 67108864
    · rw [if_pos c2]; exact bad
    · rw [if_neg c2]
      by_cases c3 : a1 < -67108864
      · rw [if_pos c3]; exact bad
      · rw [if_neg c3]
        by_cases c4 : a1 > 67108864
        · rw [decide_eq_true c4]; exact bad
        · rw [decide_eq_false c4]
          have hx : -67108864 ≤ a0 ∧ a0 ≤ 67108864 := by omega
          have hy : -67108864 ≤ a1 ∧ a1 ≤ 67108864 := by omega
          have hp := p28 h28
          have b1 := snapG_bounds a0 j
          have b2 := snapG_bounds a1 j
          have ins := points_in hx hy h28
          have s1 := far_abs ins.1
          have s2 := far_abs ins.2
          have k1 : 2 * 2 ^ j * snapG a0 j = 2 * (snapG a0 j * 2 ^ j) := by rw [Int.mul_assoc, Int.mul_comm (2 ^ j)]
          have k2 : 2 * 2 ^ j * snapG a1 j = 2 * (snapG a1 j * 2 ^ j) := by rw [Int.mul_assoc, Int.mul_comm (2 ^ j)]
          have f0 : Fit a0 := by unfold Fit; omega
          have f1 : Fit a1 := by unfold Fit; omega
          simp only [cobweblaw03_GridHolds.j0, Bool.false_eq_true, if_false]
          rw [gof_eq a0 a1 a2 j hj (by unfold I64; omega) (by unfold I64; omega), Option.bind_some]
          dsimp only
          rw [sides_eq _ _ a2 j hj, Option.bind_some, gin_eq _ _ a2 j hj, Option.bind_some, if_pos (decide_eq_true ins), if_pos ins]
          dsimp only
          rw [wid (v := 2 * a0) (by omega), wid (v := 2 * a1) (by omega), if_neg (by omega), if_neg (by omega), if_neg (by omega), decide_eq_false (by omega)]
          simp only [cobweblaw03_GridHolds.j1, Bool.false_eq_true, if_false]
          rw [frac_of_eq a0 (by omega), Option.bind_some, frac_of_eq a1 (by omega), Option.bind_some]
          dsimp only
          rw [gat_eq a0 1 a1 1 a2 j hj f0 fit_one f1 fit_one k (by omega), Option.bind_some, al _ (by omega), Option.bind_some, if_pos rfl, snapG_snapI, snapG_snapI, small_id s1, small_id s2, if_pos (show ((0 : Int) < 1 ∧ (0 : Int) < 1) ∧ inG (snapG a0 j) (snapG a1 j) j from ⟨⟨by omega, by omega⟩, ins⟩), if_pos rfl, if_pos (by simp)]
          by_cases c5 : a2 > 0
          · rw [if_pos c5]
          · rw [if_neg c5, center_eq _ _ a2 j hj, Option.bind_some, if_pos ins]
            have j0 : j = 0 := by
              unfold rungN at hj
              repeat' split at hj
              all_goals omega
            subst j0
            rw [snapG_zero, snapG_zero]
            simp
end Go.Proofs.Ytpjbniihdndlmab.Pure
