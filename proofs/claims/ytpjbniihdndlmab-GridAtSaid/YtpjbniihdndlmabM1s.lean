/- Which numbers of two words are small ones. -/
import Derived.Test.YtpjbniihdndlmabM1
import Derived.Test.YtpjbniihdndlmabQx22
namespace Go.Proofs.Ytpjbniihdndlmab.M
open Go.RowKit Go.Proofs.Ytpjbniihdndlmab.H Go.Proofs.Ytpjbniihdndlmab.Q
theorem small_eq (x : Int) : wide_Small.f (eH x) (eL x) = some (if -9223372036854775808 ≤ x ∧ x ≤ 9223372036854775807 then (x, true) else (0, false)) := by
 unfold wide_Small.f
 have hr : -9223372036854775808 ≤ wrap64 (eL x) ∧ wrap64 (eL x) ≤ 9223372036854775807 := by unfold wrap64; omega
 rw [of_eq _ hr]
 simp only [Option.bind_some]
 have q : (!(eH (wrap64 (eL x)) == eH x) || (!(eL (wrap64 (eL x)) == eL x))) = !decide (wrap64 (eL x) = x) := by rw [← eq_words, Bool.not_and]
 rw [q]
 by_cases h : -9223372036854775808 ≤ x ∧ x ≤ 9223372036854775807
 ·have e : wrap64 (eL x) = x := by unfold wrap64 eL; omega
  rw [if_pos h]; simp [e]
 ·have e : ¬ wrap64 (eL x) = x := by intro e; rw [e] at hr; exact h hr
  rw [if_neg h]; simp [e]

end Go.Proofs.Ytpjbniihdndlmab.M
