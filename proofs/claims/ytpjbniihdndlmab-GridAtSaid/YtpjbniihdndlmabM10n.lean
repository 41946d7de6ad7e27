/- The reference's test whether a number is not too far. -/
import Derived.Test.YtpjbniihdndlmabM5
import Derived.Test.YtpjbniihdndlmabM8r
import Derived.Test.YtpjbniihdndlmabQx26
namespace Go.Proofs.Ytpjbniihdndlmab.M
open Go.RowKit Go.Proofs.Ytpjbniihdndlmab.H Go.Proofs.Ytpjbniihdndlmab.Q Go.Proofs.YtpjbniihdndlmabW.PrintWords Go.Proofs.YtpjbniihdndlmabW.PrintMore
set_option linter.unusedVariables false
theorem p27 : (2 : Int) ^ 27 = 134217728 := by simp
theorem near3_eq (v : Int) (hv : Len 30 v) (j : Nat) (h28 : j ≤ 28) (k : Nat) (hk : 30000 ≤ k) : cobwebref03_near.f k (nb v) (nd v) (j : Int) = some (decide (-134217728 ≤ v * 2 ^ j ∧ v * 2 ^ j ≤ 134217728)) := by
 have pw := ref_power 27 (by omega) k (by omega)
 have lp := len_pow2 27 (by omega)
 rw [show ((27 : Nat) : Int) = 27 from rfl, p27] at pw
 rw [p27] at lp
 have lj := len_pow2 j (by omega)
 have lm := len_mul hv lj
 unfold cobwebref03_near.f
 rw [ref_power j (by omega) k (by omega), Option.bind_some]
 dsimp only
 rw [ref_mul v (2 ^ j) k (len_mono hv (by omega)) (len_mono lj (by omega)) hk, Option.bind_some, pw, Option.bind_some]
 dsimp only
 rw [ref_neg _ 40 k lp (by omega) (by omega), Option.bind_some]
 dsimp only
 rw [ref_cmp _ _ 70 k lm (len_mono (len_neg lp) (by omega)) (by omega) (by omega), Option.bind_some]
 by_cases c1 : v * 2 ^ j < -134217728
 ·rw [if_neg (by rw [cmpI_neg c1]; decide)]
  congr 1
  symm
  rw [decide_eq_false_iff_not]
  omega
 ·rw [if_pos (by unfold cmpI; rw [if_neg c1]; split <;> decide), Option.bind_some, ref_cmp _ _ 70 k lm (len_mono lp (by omega)) (by omega) (by omega), Option.bind_some]
  congr 1
  rw [decide_eq_decide]
  unfold cmpI
  repeat' split
  all_goals omega
end Go.Proofs.Ytpjbniihdndlmab.M
