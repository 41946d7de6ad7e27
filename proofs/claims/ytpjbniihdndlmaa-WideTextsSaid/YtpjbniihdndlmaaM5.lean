/- Numbers of two words as the reference has them; whether one fits; whether an answer is the document's. -/
import Derived.Test.YtpjbniihdndlmaaM4w
import Derived.Test.YtpjbniihdndlmaaQx13
import Derived.Test.YtpjbniihdndlmaaQx16
import Derived.Test.YtpjbniihdndlmaaQx17
import Derived.Test.YtpjbniihdndlmaaQx37
namespace Go.Proofs.Ytpjbniihdndlmaa.M
open Go.RowKit Go.Proofs.Ytpjbniihdndlmaa.H Go.Proofs.Ytpjbniihdndlmaa.Q Go.Proofs.YtpjbniihdndlmaaW.PrintWords Go.Proofs.YtpjbniihdndlmaaW.PrintMore

theorem ref_num (x : Int) (hx : Fit x) (k : Nat) (hk : 30000 ≤ k) : cobweblaw01_num.f k (eH x) (eL x) = some (nb x, nd x) := by
 unfold cobweblaw01_num.f
 rw [ref_wide x hx k hk]
 rfl
theorem ref_num2 (x : Int) (hx : Fit x) (k : Nat) (hk : 30000 ≤ k) : cobweblaw02_num.f k (eH x) (eL x) = some (nb x, nd x) := by
 unfold cobweblaw02_num.f
 rw [ref_wide x hx k hk]
 rfl
theorem p127 : (2 : Int) ^ 127 = 170141183460469231731687303715884105728 := by simp
theorem ref_fits (v : Int) (h : Len 100 v) (k : Nat) (hk : 30000 ≤ k) : cobwebref01_Fits.f k (nb v) (nd v) = some (decide (Fit v)) := by
 have pw := ref_power 127 (by omega) k (by omega)
 have lp := len_mono (len_pow2 127 (by omega)) (show 40 ≤ 100 by omega)
 rw [show ((127 : Nat) : Int) = 127 from rfl, p127] at pw
 rw [p127] at lp
 unfold cobwebref01_Fits.f
 rw [pw, Option.bind_some]
 dsimp only
 rw [ref_neg _ 100 k lp (by omega) (by omega), Option.bind_some]
 dsimp only
 rw [ref_cmp _ _ 100 k h (len_neg lp) (by omega) (by omega), Option.bind_some]
 by_cases c1 : v < -170141183460469231731687303715884105728
 ·rw [if_neg (by unfold cmpI; rw [if_pos c1]; decide)]
  congr 1
  symm
  rw [decide_eq_false_iff_not]
  unfold Fit
  omega
 ·rw [if_pos (by unfold cmpI; rw [if_neg c1]; split <;> decide), Option.bind_some]
  dsimp only
  rw [ref_cmp _ _ 100 k h lp (by omega) (by omega), Option.bind_some]
  congr 1
  rw [decide_eq_decide]
  unfold cmpI Fit
  repeat' split
  all_goals omega

theorem same_eq (v : Int) (h : Len 100 v) (k : Nat) (hk : 30000 ≤ k) : cobweblaw01_same.f k (optI v).1 (optI v).2.1 (optI v).2.2 (nb v) (nd v) = some true := by
 unfold cobweblaw01_same.f
 rw [ref_fits v h k hk, Option.bind_some]
 by_cases f : Fit v
 ·rw [optI_pos f, if_pos (decide_eq_true f)]
  dsimp only
  rw [if_pos rfl, ref_num v f k hk, Option.bind_some]
  dsimp only
  rw [ref_cmp v v 100 k h h (by omega) (by omega), Option.bind_some]
  unfold cmpI
  rw [if_neg (by omega), if_neg (by omega)]
  rfl
 ·rw [optI_neg f, if_neg (by simpa using f)]
  rfl
theorem same_fit (v : Int) (f : Fit v) (k : Nat) (hk : 30000 ≤ k) : cobweblaw01_same.f k (eH v) (eL v) true (nb v) (nd v) = some true := by
 have h := same_eq v (len_mono (len_fit f) (by omega)) k hk
 rw [optI_pos f] at h
 exact h
end Go.Proofs.Ytpjbniihdndlmaa.M
