/- The plain law of WideSmall: which numbers are small ones, and what small ones are, is the reference's. -/
import Derived.Test.YtpjbniihdndlmaaM5
import Derived.Test.YtpjbniihdndlmaaAlive1
import Derived.Test.YtpjbniihdndlmaaQx28
namespace Go.Proofs.Ytpjbniihdndlmaa.Pure
open Go.RowKit Go.Proofs.Ytpjbniihdndlmaa.H Go.Proofs.Ytpjbniihdndlmaa.Q Go.Proofs.Ytpjbniihdndlmaa.M Go.Proofs.YtpjbniihdndlmaaW.PrintWords Go.Proofs.YtpjbniihdndlmaaW.PrintMore
theorem p63 : (2 : Int) ^ 63 = 9223372036854775808 := by simp
theorem WideSmall_end (x n : Int) (hx : Fit x) (hn : -9223372036854775808 ≤ n ∧ n ≤ 9223372036854775807) (k : Nat) (hk : 40001 ≤ k) :
    cobweblaw01_WideSmall.j0 k n (if -9223372036854775808 ≤ x ∧ x ≤ 9223372036854775807 then (x, true) else (0, false)).1 (if -9223372036854775808 ≤ x ∧ x ≤ 9223372036854775807 then (x, true) else (0, false)).2 (decide (-9223372036854775808 ≤ x ∧ x ≤ 9223372036854775807)) (eH x) (eL x) = some true := by
  obtain ⟨k, rfl⟩ : ∃ m, k = m + 1 := ⟨k - 1, by omega⟩
  have al : cobweblaw01_alive.f k = some true := at_rounds cobweblaw01_alive.mono (show 1000 ≤ k by omega) alive1_at
  have fn : Fit n := by unfold Fit; omega
  simp only [cobweblaw01_WideSmall.j0]
  rw [of_eq n hn, Option.bind_some]
  dsimp only
  rw [small_eq n, if_pos hn, Option.bind_some, al, Option.bind_some, if_pos rfl]
  by_cases c : -9223372036854775808 ≤ x ∧ x ≤ 9223372036854775807
  · simp only [if_pos c, decide_eq_true c]
    simp only [beq_self_eq_true, if_true]
    rw [ref_of x c k (by omega), Option.bind_some, ref_num x hx k (by omega), Option.bind_some]
    dsimp only
    rw [ref_cmp x x 10 k (len_fit hx) (len_fit hx) (by omega) (by omega), Option.bind_some, cmp_self, if_pos rfl, Option.bind_some, ref_num n fn k (by omega), Option.bind_some, ref_of n hn k (by omega), Option.bind_some]
    dsimp only
    rw [ref_cmp n n 10 k (len_fit fn) (len_fit fn) (by omega) (by omega), Option.bind_some, cmp_self]
    rfl
  · simp only [if_neg c, decide_eq_false c]
    simp only [beq_self_eq_true, if_true, Bool.false_eq_true, if_false]
    rw [Option.bind_some, ref_num n fn k (by omega), Option.bind_some, ref_of n hn k (by omega), Option.bind_some]
    dsimp only
    rw [ref_cmp n n 10 k (len_fit fn) (len_fit fn) (by omega) (by omega), Option.bind_some, cmp_self]
    rfl
theorem WideSmall (a0_0 : Int) (a0_1 : Int) (a1 : Int) (w0_0 : IntKind.i64.has a0_0) (w0_1 : IntKind.u64.has a0_1) (w1 : IntKind.i64.has a1) : ∃ k, cobweblaw01_WideSmall.f k a0_0 a0_1 a1 = some true := by
  obtain ⟨x, hx, rfl, rfl⟩ := of_words w0_0 w0_1
  have hn := i64has w1
  obtain ⟨k, hk⟩ : ∃ k : Nat, k = 40001 := ⟨_, rfl⟩
  refine ⟨k, ?_⟩
  have en := WideSmall_end x a1 hx hn k (by omega)
  have pw := ref_power 63 (by omega) k (by omega)
  have lp := len_pow2 63 (by omega)
  rw [show ((63 : Nat) : Int) = 63 from rfl, p63] at pw
  rw [p63] at lp
  have lx := len_mono (len_fit hx) (show 10 ≤ 40 by omega)
  unfold cobweblaw01_WideSmall.f
  rw [small_eq x, Option.bind_some, pw, Option.bind_some]
  dsimp only
  rw [ref_neg _ 40 k lp (by omega) (by omega), Option.bind_some, Option.bind_some, ref_num x hx k (by omega), Option.bind_some]
  dsimp only
  rw [ref_cmp _ _ 40 k lx (len_neg lp) (by omega) (by omega), Option.bind_some]
  by_cases c1 : x < -9223372036854775808
  · rw [if_neg (by unfold cmpI; rw [if_pos c1]; decide)]
    rw [decide_eq_false (show ¬ (-9223372036854775808 ≤ x ∧ x ≤ 9223372036854775807) by omega)] at en
    exact en
  · rw [if_pos (by unfold cmpI; rw [if_neg c1]; split <;> decide), Option.bind_some, ref_cmp _ _ 40 k lx lp (by omega) (by omega), Option.bind_some]
    rw [show decide (cmpI x 9223372036854775808 < 0) = decide (-9223372036854775808 ≤ x ∧ x ≤ 9223372036854775807) by
      rw [decide_eq_decide]; unfold cmpI; repeat' split
      all_goals omega]
    exact en
end Go.Proofs.Ytpjbniihdndlmaa.Pure
