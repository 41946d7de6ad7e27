/- Points that are not too far: their pixels. -/
import Derived.Test.YtpjbniihdndlmabM8
namespace Go.Proofs.Ytpjbniihdndlmab.M
open Go.RowKit Go.Proofs.Ytpjbniihdndlmab.H Go.Proofs.Ytpjbniihdndlmab.Q Go.Proofs.YtpjbniihdndlmabW.PrintWords Go.Proofs.YtpjbniihdndlmabW.PrintMore
set_option linter.unusedVariables false
theorem point_in {x : Int} (h : -67108864 ≤ x ∧ x ≤ 67108864) {j : Nat} (hj : j ≤ 28) : -134217728 ≤ snapG x j * 2 ^ j ∧ snapG x j * 2 ^ j ≤ 134217728 := by
 have b := snapG_bounds x j
 by_cases c : j = 28
 ·subst c
  rw [show (2 : Int) ^ 28 = 268435456 by simp] at *
  omega
 ·have pl := pow_le j 27 (by omega)
  have pp := pow_pos2 j
  rw [show (2 : Int) ^ 27 = 134217728 by simp] at pl
  have sk : snapG x j * 2 ^ j * 2 = 2 * 2 ^ j * snapG x j := by rw [Int.mul_comm (snapG x j), Int.mul_comm, Int.mul_assoc]
  omega
theorem points_in {x y : Int} (hx : -67108864 ≤ x ∧ x ≤ 67108864) (hy : -67108864 ≤ y ∧ y ≤ 67108864) {j : Nat} (hj : j ≤ 28) : inG (snapG x j) (snapG y j) j :=
 ⟨point_in hx hj, point_in hy hj⟩
theorem far_abs {s : Int} {j : Nat} (h : -134217728 ≤ s * 2 ^ j ∧ s * 2 ^ j ≤ 134217728) : -134217728 ≤ s ∧ s ≤ 134217728 := by
 have pp := pow_pos2 j
 generalize (2 : Int) ^ j = K at *
 constructor
 ·apply Int.not_lt.mp
  intro c
  have := Int.mul_le_mul_of_nonneg_left pp (show 0 ≤ -s by omega)
  rw [Int.neg_mul, Int.neg_mul] at this
  omega
 ·apply Int.not_lt.mp
  intro c
  have := Int.mul_le_mul_of_nonneg_left pp (show 0 ≤ s by omega)
  omega
theorem small_id {s : Int} (h : -134217728 ≤ s ∧ s ≤ 134217728) : smallG s = s := by unfold smallG; rw [if_pos h]
theorem snap_back (x : Int) (j : Nat) : snapG (x * 2 ^ j) j = x := by rw [← snapG_snapI]; exact snap_whole x j
end Go.Proofs.Ytpjbniihdndlmab.M
