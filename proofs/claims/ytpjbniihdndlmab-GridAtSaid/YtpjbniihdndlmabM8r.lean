/- The reference's nearest rung. -/
import Derived.Test.YtpjbniihdndlmabM8
import Derived.Test.YtpjbniihdndlmabQx24
namespace Go.Proofs.Ytpjbniihdndlmab.M
open Go.RowKit Go.Proofs.Ytpjbniihdndlmab.H Go.Proofs.Ytpjbniihdndlmab.Q Go.Proofs.YtpjbniihdndlmabW.PrintWords Go.Proofs.YtpjbniihdndlmabW.PrintMore
set_option linter.unusedVariables false
theorem rung3_eq (k : Int) : cobwebref03_Rung.f k = some (rungN k) := by
 unfold cobwebref03_Rung.f rungN
 repeat' split
 all_goals first | rfl | omega
end Go.Proofs.Ytpjbniihdndlmab.M
