/- The reference's nearest multiple of a power of two, and its whole part. -/
import Derived.Test.YtpjbniihdndlmabM6
import Derived.Test.YtpjbniihdndlmabM11
import Derived.Test.YtpjbniihdndlmabQx18
namespace Go.Proofs.Ytpjbniihdndlmab.M
open Go.RowKit Go.Proofs.Ytpjbniihdndlmab.H Go.Proofs.Ytpjbniihdndlmab.Q Go.Proofs.YtpjbniihdndlmabW.PrintWords Go.Proofs.YtpjbniihdndlmabW.PrintMore
set_option linter.unusedVariables false
theorem ref_snap (n d : Int) (hn : Len 10 n) (hd : Len 10 d) (d0 : 0 < d) (j : Nat) (hj : j ≤ 100) (k : Nat) (hk : 1003200 ≤ k) :
  cobwebref02_Snap.f k (nb n) (nd n) (nb d) (nd d) (j : Int) = some (nb (snapI n d j), nd (snapI n d j)) := by
 have lp := len_pow2 j (by omega)
 have lq := len_pow2 (j + 1) (by omega)
 have lm := len_mul hd lp
 have ln := len_mul hd lq
 have la := len_add hn hn
 have pp := pow_pos2 (j + 1)
 have ls := len_add (len_mono la (show 11 ≤ 50 by omega)) lm
 unfold cobwebref02_Snap.f
 rw [ref_add n n 10 k hn hn (by omega) (by omega), Option.bind_some, ref_power j (by omega) k (by omega), Option.bind_some]
 dsimp only
 rw [ref_mul d (2 ^ j) k (len_mono hd (by omega)) (len_mono lp (by omega)) (by omega), Option.bind_some]
 dsimp only
 rw [ref_add (n + n) (d * 2 ^ j) 50 k (len_mono la (by omega)) lm (by omega) (by omega), Option.bind_some, show wrap64 ((j : Int) + 1) = ((j + 1 : Nat) : Int) by unfold wrap64; omega, ref_power (j + 1) (by omega) k (by omega), Option.bind_some]
 dsimp only
 rw [ref_mul d (2 ^ (j + 1)) k (len_mono hd (by omega)) (len_mono lq (by omega)) (by omega), Option.bind_some]
 dsimp only
 rw [ref_div _ _ (len_mono ls (by omega)) (len_mono ln (by omega)) (Int.mul_pos d0 (by omega)) k hk, Option.bind_some]
 have e : (n + n + d * 2 ^ j) / (d * 2 ^ (j + 1)) = snapI n d j := by
  unfold snapI
  rw [Int.pow_succ, ← Int.mul_assoc, Int.mul_comm (d * 2 ^ j) 2]
  congr 1
  omega
 rw [e]
end Go.Proofs.Ytpjbniihdndlmab.M
