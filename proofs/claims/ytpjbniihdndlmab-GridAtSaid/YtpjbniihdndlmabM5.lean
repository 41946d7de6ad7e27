/- Numbers of two words as the reference has them; whether one fits; whether an answer is the document's. -/
import Derived.Test.YtpjbniihdndlmabM4w
import Derived.Test.YtpjbniihdndlmabQx14
namespace Go.Proofs.Ytpjbniihdndlmab.M
open Go.RowKit Go.Proofs.Ytpjbniihdndlmab.H Go.Proofs.Ytpjbniihdndlmab.Q Go.Proofs.YtpjbniihdndlmabW.PrintWords Go.Proofs.YtpjbniihdndlmabW.PrintMore

theorem ref_num2 (x : Int) (hx : Fit x) (k : Nat) (hk : 30000 ≤ k) : cobweblaw02_num.f k (eH x) (eL x) = some (nb x, nd x) := by
 unfold cobweblaw02_num.f
 rw [ref_wide x hx k hk]
 rfl
end Go.Proofs.Ytpjbniihdndlmab.M
