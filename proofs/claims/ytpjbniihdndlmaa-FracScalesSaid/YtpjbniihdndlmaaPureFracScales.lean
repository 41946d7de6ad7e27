/- The plain law of FracScales: a fraction whose two numbers are multiplied by one number above 0 is as great. -/
import Derived.Test.YtpjbniihdndlmaaM6
import Derived.Test.YtpjbniihdndlmaaAlive2
import Derived.Test.YtpjbniihdndlmaaQx34
namespace Go.Proofs.Ytpjbniihdndlmaa.Pure
open Go.RowKit Go.Proofs.Ytpjbniihdndlmaa.H Go.Proofs.Ytpjbniihdndlmaa.Q Go.Proofs.Ytpjbniihdndlmaa.M Go.Proofs.YtpjbniihdndlmaaW.PrintWords Go.Proofs.YtpjbniihdndlmaaW.PrintMore
theorem i32has {a : Int} (h : IntKind.i32.has a) : -2147483648 ≤ a ∧ a ≤ 2147483647 := by
  simpa [IntKind.has, IntKind.min, IntKind.max, IntKind.bits, IntKind.signed] using h
theorem FracScales (a0_0 : Int) (a0_1 : Int) (a1 : Int) (a2 : Int) (w0_0 : IntKind.i32.has a0_0) (w0_1 : IntKind.i32.has a0_1) (w1 : IntKind.i32.has a1) (w2 : IntKind.i64.has a2) :
    ∃ k, cobweblaw02_FracScales.f k a0_0 a0_1 a1 a2 = some true := by
  have h0 := i32has w0_0
  have h1 := i32has w0_1
  have h2 := i32has w1
  have h3 := i64has w2
  obtain ⟨k, hk⟩ : ∃ k : Nat, k = 680564733841876926926749214863536424000 := ⟨_, rfl⟩
  have B0 : Big k := by unfold Big; omega
  refine ⟨k + 1, ?_⟩
  have al : cobweblaw02_alive.f k = some true := at_rounds cobweblaw02_alive.mono (show 1000 ≤ k by omega) alive2_at
  have bad : cobweblaw02_FracScales.j0 (k + 1) a1 a2 a0_0 a0_1 true = some true := by
    simp only [cobweblaw02_FracScales.j0, if_true]
    rw [al]
    rfl
  unfold cobweblaw02_FracScales.f
  by_cases c1 : a0_1 ≤ 0
  · rw [if_pos c1]; exact bad
  · rw [if_neg c1]
    by_cases c2 : a1 ≤ 0
    · rw [if_pos c2]; exact bad
    · rw [if_neg c2]
      by_cases c3 : a2 < 0
      · rw [if_pos c3]; exact bad
      · rw [if_neg c3]
        by_cases c4 : a2 > 100
        · rw [decide_eq_true c4]; exact bad
        · rw [decide_eq_false c4]
          simp only [cobweblaw02_FracScales.j0, Bool.false_eq_true, if_false]
          have t1 := times_eq a0_0 a1 (by omega) (by omega) k (by omega)
          have t2 := times_eq a0_1 a1 (by omega) (by omega) k (by omega)
          have f1 : Fit a0_0 := by unfold Fit; omega
          have f2 : Fit a0_1 := by unfold Fit; omega
          have p2 : 0 < a0_1 * a1 := Int.mul_pos (by omega) (by omega)
          rw [show wrap64 a0_0 = a0_0 by unfold wrap64; omega, show wrap64 a0_1 = a0_1 by unfold wrap64; omega, show wrap64 a1 = a1 by unfold wrap64; omega]
          rw [of_eq a0_0 (by omega), Option.bind_some, of_eq a0_1 (by omega), Option.bind_some, t1.2, Option.bind_some, t2.2, Option.bind_some]
          dsimp only
          rw [snap_eq a0_0 a0_1 a2 f1 f2 k (by omega), Option.bind_some, snap_eq (a0_0 * a1) (a0_1 * a1) a2 t1.1 t2.1 k (by omega), Option.bind_some, if_pos (show 0 < a0_1 ∧ 0 ≤ a2 ∧ a2 ≤ 100 by omega), if_pos (show 0 < a0_1 * a1 ∧ 0 ≤ a2 ∧ a2 ≤ 100 by omega), snap_scale _ _ _ (by omega), al, Option.bind_some, if_pos rfl]
          rw [fcmp_pos _ _ _ _ f1 f2 t1.1 t2.1 k B0 (by omega) p2, Option.bind_some, if_pos ((cmp_zero _ _).2 (by rw [Int.mul_assoc a0_0 a1 a0_1, Int.mul_comm a1 a0_1])), if_pos rfl, if_pos rfl, if_pos (by simp)]
          rw [floor_eq _ _ f1 f2 k (by omega), Option.bind_some, floor_eq _ _ t1.1 t2.1 k (by omega), Option.bind_some, if_pos (show 0 < a0_1 by omega), if_pos p2, Int.mul_ediv_mul_of_pos_left _ _ (by omega)]
          simp
end Go.Proofs.Ytpjbniihdndlmaa.Pure
