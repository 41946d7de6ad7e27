/- The negative of a number of two words. -/
import Derived.Test.YtpjbniihdndlmaaM1
import Derived.Test.YtpjbniihdndlmaaQx32
namespace Go.Proofs.Ytpjbniihdndlmaa.M
open Go.RowKit Go.Proofs.Ytpjbniihdndlmaa.H Go.Proofs.Ytpjbniihdndlmaa.Q Go.Proofs.YtpjbniihdndlmaaW.PrintWords Go.Proofs.YtpjbniihdndlmaaW.PrintMore
set_option linter.unusedVariables false
theorem neg_eq (x : Int) (hx : Fit x) : wide_Neg.f (eH x) (eL x) = some (optI (-x)) := by
 unfold wide_Neg.f
 rw [turn_eq x hx]
 have q := eq_words x (-170141183460469231731687303715884105728)
 rw [show eH (-170141183460469231731687303715884105728) = -9223372036854775808 by decide, show eL (-170141183460469231731687303715884105728) = 0 by decide] at q
 have q2 : (!(eH x == -9223372036854775808) || (!(eL x == 0))) = !decide (x = -170141183460469231731687303715884105728) := by rw [← q, Bool.not_and]
 simp only [Option.bind_some, told_eq, wide_least.f]
 rw [q2]
 by_cases f : Fit (-x)
 ·have g : ¬ x = -170141183460469231731687303715884105728 := by unfold Fit at *; omega
  rw [optI_pos f, w128_id f]; simp [g]
 ·have g : x = -170141183460469231731687303715884105728 := by unfold Fit at *; omega
  rw [optI_neg f]; simp [g]

end Go.Proofs.Ytpjbniihdndlmaa.M
