/- Fractions as the reference has them; how it compares two. -/
import Derived.Test.YtpjbniihdndlmabM5
import Derived.Test.YtpjbniihdndlmabQx14
namespace Go.Proofs.Ytpjbniihdndlmab.M
open Go.RowKit Go.Proofs.Ytpjbniihdndlmab.H Go.Proofs.Ytpjbniihdndlmab.Q Go.Proofs.YtpjbniihdndlmabW.PrintWords Go.Proofs.YtpjbniihdndlmabW.PrintMore
theorem old_eq (n d : Int) (hn : Fit n) (hd : Fit d) (k : Nat) (hk : 30000 ≤ k) : cobweblaw02_Old.f k (eH n) (eL n) (eH d) (eL d) = some (nb n, nd n, nb d, nd d) := by
 unfold cobweblaw02_Old.f
 rw [ref_num2 n hn k hk, Option.bind_some, ref_num2 d hd k hk, Option.bind_some]
end Go.Proofs.Ytpjbniihdndlmab.M
