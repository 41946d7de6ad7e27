/- The plain law of GridCenters: which pixels are not too far, their centers and corners. -/
import Derived.Test.YtpjbniihdndlmabM10
import Derived.Test.YtpjbniihdndlmabM9
import Derived.Test.YtpjbniihdndlmabAlive3
import Derived.Test.YtpjbniihdndlmabQx30
namespace Go.Proofs.Ytpjbniihdndlmab.Pure
open Go.RowKit Go.Proofs.Ytpjbniihdndlmab.H Go.Proofs.Ytpjbniihdndlmab.Q Go.Proofs.Ytpjbniihdndlmab.M Go.Proofs.YtpjbniihdndlmabW.PrintWords Go.Proofs.YtpjbniihdndlmabW.PrintMore
set_option linter.unusedVariables false
theorem GridCenters (a0 : Int) (a1 : Int) (a2 : Int) (w0 : IntKind.i64.has a0) (w1 : IntKind.i64.has a1) (w2 : IntKind.i64.has a2) : ∃ k, cobweblaw03_GridCenters.f k a0 a1 a2 = some true := by
  have h0 := i64has w0
  have h1 := i64has w1
  obtain ⟨k, hk⟩ : ∃ k : Nat, k = 40000 := ⟨_, rfl⟩
  refine ⟨k, ?_⟩
  have al : cobweblaw03_alive.f k = some true := at_rounds cobweblaw03_alive.mono (show 1000 ≤ k by omega) alive3_at
  obtain ⟨j, hj, h28⟩ := rung_nat a2
  have hp := p28 h28
  unfold cobweblaw03_GridCenters.f
  rw [center_eq a0 a1 a2 j hj, Option.bind_some, sides_eq a0 a1 a2 j hj, Option.bind_some, in3_eq a0 a1 a2 j hj h0 h1 k (by omega), Option.bind_some]
  by_cases c : inG a0 a1 j
  · have c' := c
    unfold inG at c'
    have d1 : 2 * 2 ^ j * a0 = 2 * (a0 * 2 ^ j) := by rw [Int.mul_assoc, Int.mul_comm (2 ^ j)]
    have d2 : 2 * 2 ^ j * a1 = 2 * (a1 * 2 ^ j) := by rw [Int.mul_assoc, Int.mul_comm (2 ^ j)]
    rw [if_pos (decide_eq_true c), size3_eq a2 j hj k (by omega), Option.bind_some, al, Option.bind_some, if_pos rfl, gin_eq a0 a1 a2 j hj, Option.bind_some, if_pos (decide_eq_true c), if_pos c, if_pos c]
    dsimp only
    rw [wid (v := 2 * 2 ^ j) (by omega), d1, d2, Int.mul_comm (2 ^ j) a0, Int.mul_comm (2 ^ j) a1, wid (v := a0 * 2 ^ j) (by omega), wid (v := a1 * 2 ^ j) (by omega), wid (v := 2 * (a0 * 2 ^ j)) (by omega), wid (v := 2 * (a1 * 2 ^ j)) (by omega)]
    rw [wid (v := 2 * (a0 * 2 ^ j) - 2 ^ j) (by omega), wid (v := 2 * (a1 * 2 ^ j) - 2 ^ j) (by omega), wid (v := 2 * (a0 * 2 ^ j) + 2 ^ j) (by omega), wid (v := 2 * (a1 * 2 ^ j) + 2 ^ j) (by omega)]
    rw [if_pos (by simp), if_pos (by simp), if_pos (by simp), gof_eq _ _ a2 j hj (by unfold I64; omega) (by unfold I64; omega), Option.bind_some, snap_back, snap_back]
    simp
  · rw [if_neg (by simpa using c), al, Option.bind_some, if_pos rfl, gin_eq a0 a1 a2 j hj, Option.bind_some, if_neg (by simpa using c), if_neg c, if_neg c]
    rfl
end Go.Proofs.Ytpjbniihdndlmab.Pure
