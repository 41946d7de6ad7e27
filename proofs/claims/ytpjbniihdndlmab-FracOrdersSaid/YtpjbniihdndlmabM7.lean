/- Fractions as the reference has them; how it compares two. -/
import Derived.Test.YtpjbniihdndlmabM5
import Derived.Test.YtpjbniihdndlmabM6
import Derived.Test.YtpjbniihdndlmabQx16
import Derived.Test.YtpjbniihdndlmabQx17
namespace Go.Proofs.Ytpjbniihdndlmab.M
open Go.RowKit Go.Proofs.Ytpjbniihdndlmab.H Go.Proofs.Ytpjbniihdndlmab.Q Go.Proofs.YtpjbniihdndlmabW.PrintWords Go.Proofs.YtpjbniihdndlmabW.PrintMore
theorem old_eq (n d : Int) (hn : Fit n) (hd : Fit d) (k : Nat) (hk : 30000 ≤ k) : cobweblaw02_Old.f k (eH n) (eL n) (eH d) (eL d) = some (nb n, nd n, nb d, nd d) := by
  unfold cobweblaw02_Old.f
  rw [ref_num2 n hn k hk, Option.bind_some, ref_num2 d hd k hk, Option.bind_some]
theorem ref02_cmp (n1 d1 n2 d2 : Int) (f1 : Fit n1) (f2 : Fit d1) (f3 : Fit n2) (f4 : Fit d2) (k : Nat) (hk : 30000 ≤ k) :
    cobwebref02_Cmp.f k (nb n1) (nd n1) (nb d1) (nd d1) (nb n2) (nd n2) (nb d2) (nd d2) = some (cmpI (n1 * d2) (n2 * d1)) := by
  have l1 := len_fit f1
  have l2 := len_fit f2
  have l3 := len_fit f3
  have l4 := len_fit f4
  unfold cobwebref02_Cmp.f
  rw [ref_mul n1 d2 k (len_mono l1 (by omega)) (len_mono l4 (by omega)) hk, Option.bind_some, ref_mul n2 d1 k (len_mono l3 (by omega)) (len_mono l2 (by omega)) hk, Option.bind_some]
  dsimp only
  rw [ref_cmp _ _ 20 k (len_mul l1 l4) (len_mul l3 l2) (by omega) (by omega), Option.bind_some]
end Go.Proofs.Ytpjbniihdndlmab.M
