/- The plain law of GridMoves: a number that is moved by whole pixels is in a pixel that is moved by as many. -/
import Derived.Test.YtpjbniihdndlmaaM8
import Derived.Test.YtpjbniihdndlmaaAlive3
import Derived.Test.YtpjbniihdndlmaaQx26
namespace Go.Proofs.Ytpjbniihdndlmaa.Pure
open Go.RowKit Go.Proofs.Ytpjbniihdndlmaa.H Go.Proofs.Ytpjbniihdndlmaa.Q Go.Proofs.Ytpjbniihdndlmaa.M Go.Proofs.YtpjbniihdndlmaaW.PrintWords Go.Proofs.YtpjbniihdndlmaaW.PrintMore
set_option linter.unusedVariables false
theorem GridMoves (a0 : Int) (a1 : Int) (a2 : Int) (w0 : IntKind.i64.has a0) (w1 : IntKind.i64.has a1) (w2 : IntKind.i64.has a2) : ∃ k, cobweblaw03_GridMoves.f k a0 a1 a2 = some true := by
  obtain ⟨k, hk⟩ : ∃ k : Nat, k = 5000 := ⟨_, rfl⟩
  refine ⟨k + 1, ?_⟩
  have al : cobweblaw03_alive.f k = some true := at_rounds cobweblaw03_alive.mono (show 1000 ≤ k by omega) alive3_at
  have bad : cobweblaw03_GridMoves.j0 (k + 1) a0 a1 a2 true = some true := by
    simp only [cobweblaw03_GridMoves.j0, if_true]
    rw [al]
    rfl
  obtain ⟨j, hj, h28⟩ := rung_nat a2
  unfold cobweblaw03_GridMoves.f
  rw [rung3_eq, Option.bind_some]
  by_cases c0 : a2 = rungN a2
  · rw [if_pos c0]
    by_cases c1 : a0 > 1099511627776
    · rw [if_pos c1]; exact bad
    · rw [if_neg c1]
      by_cases c2 : a0 < -1099511627776
      · rw [if_pos c2]; exact bad
      · rw [if_neg c2]
        by_cases c3 : a1 > 1048576
        · rw [if_pos c3]; exact bad
        · rw [if_neg c3]
          by_cases c4 : a1 < -1048576
          · rw [decide_eq_true c4]; exact bad
          · rw [decide_eq_false c4]
            have hp := p28 h28
            have b := snapG_bounds a0 j
            have u1 : a1 * 2 ^ j ≤ 1048576 * 2 ^ j := Int.mul_le_mul_of_nonneg_right (by omega) (by omega)
            have u2 : -1048576 * 2 ^ j ≤ a1 * 2 ^ j := Int.mul_le_mul_of_nonneg_right (by omega) (by omega)
            have mv : snapG (a0 + a1 * 2 ^ j) j = snapG a0 j + a1 := by
              unfold snapG
              generalize (2 : Int) ^ j = K at *
              rw [show 2 * (a0 + a1 * K) + K = 2 * a0 + K + a1 * (2 * K) by rw [Int.mul_left_comm a1 2 K]; omega, Int.add_mul_ediv_right _ _ (by omega)]
            have si := snapG_i64 (v := a0) (by unfold I64; omega) j
            have sk : snapG a0 j * 2 ^ j * 2 = 2 * 2 ^ j * snapG a0 j := by rw [Int.mul_comm (snapG a0 j), Int.mul_comm, Int.mul_assoc]
            have sb : snapG a0 j ≤ 1099512000000 + 268435456 ∧ -1099512000000 - 268435456 ≤ snapG a0 j := by
              generalize snapG a0 j = s at *
              generalize (2 : Int) ^ j = K at *
              rw [Int.mul_assoc] at b
              constructor
              · apply Int.not_lt.mp
                intro c
                have := Int.mul_le_mul_of_nonneg_right hp.1 (show 0 ≤ s by omega)
                omega
              · apply Int.not_lt.mp
                intro c
                have := Int.mul_le_mul_of_nonneg_right hp.1 (show 0 ≤ -s by omega)
                rw [Int.mul_neg, Int.mul_neg] at this
                omega
            simp only [cobweblaw03_GridMoves.j0, Bool.false_eq_true, if_false]
            rw [gsnap_eq a0 a2 j hj (by unfold I64; omega), Option.bind_some, size3_eq a2 j hj k (by omega), Option.bind_some, al, Option.bind_some, if_pos rfl]
            rw [wid (v := a1 * 2 ^ j) (by omega), wid (v := a0 + a1 * 2 ^ j) (by omega), gsnap_eq _ a2 j hj (by unfold I64; omega), Option.bind_some, mv, wid (v := snapG a0 j + a1) (by omega), if_pos rfl]
            rw [wid (v := snapG a0 j * 2 ^ j) (by omega), wid (v := a0 - snapG a0 j * 2 ^ j) (by omega), wid (v := 2 * (a0 - snapG a0 j * 2 ^ j)) (by omega), wid (v := -(2 ^ j)) (by omega), if_pos (by omega)]
            congr 1
            rw [decide_eq_true_eq]
            omega
  · rw [if_neg c0]; exact bad
end Go.Proofs.Ytpjbniihdndlmaa.Pure
