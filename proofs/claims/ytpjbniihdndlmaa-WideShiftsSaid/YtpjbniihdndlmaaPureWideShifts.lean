/- The plain law of WideShifts: any number times any power of two, or that it is none, is the reference's. -/
import Derived.Test.YtpjbniihdndlmaaM5
import Derived.Test.YtpjbniihdndlmaaAlive1
import Derived.Test.YtpjbniihdndlmaaQx24
namespace Go.Proofs.Ytpjbniihdndlmaa.Pure
open Go.RowKit Go.Proofs.Ytpjbniihdndlmaa.H Go.Proofs.Ytpjbniihdndlmaa.Q Go.Proofs.Ytpjbniihdndlmaa.M Go.Proofs.YtpjbniihdndlmaaW.PrintWords Go.Proofs.YtpjbniihdndlmaaW.PrintMore
theorem WideShifts (a0_0 : Int) (a0_1 : Int) (a1 : Int) (w0_0 : IntKind.i64.has a0_0) (w0_1 : IntKind.u64.has a0_1) (w1 : IntKind.i64.has a1) : ∃ k, cobweblaw01_WideShifts.f k a0_0 a0_1 a1 = some true := by
  obtain ⟨x, hx, rfl, rfl⟩ := of_words w0_0 w0_1
  have h1 := i64has w1
  obtain ⟨k, hk⟩ : ∃ k : Nat, k = 40000 := ⟨_, rfl⟩
  refine ⟨k + 1, ?_⟩
  have al : cobweblaw01_alive.f k = some true := at_rounds cobweblaw01_alive.mono (show 1000 ≤ k by omega) alive1_at
  unfold cobweblaw01_WideShifts.f
  rw [shl_eq x a1 (k + 1) (by omega) hx h1, Option.bind_some]
  by_cases c : a1 < 0
  · rw [if_pos c, if_pos c]
    simp only [cobweblaw01_WideShifts.j0, if_true]
    rw [al, Option.bind_some, if_pos rfl, if_neg (by omega), if_pos (by decide)]
    rfl
  · rw [if_neg c, if_neg c]
    by_cases d : a1 > 300
    · have e : optI (x * 2 ^ a1.toNat) = if x = 0 then (0, 0, true) else (0, 0, false) := by
        by_cases z : x = 0
        · subst z; rw [if_pos rfl, Int.zero_mul]; rfl
        · rw [if_neg z]
          apply optI_neg
          have e : (2 : Int) ^ a1.toNat = 340282366920938463463374607431768211456 * 2 ^ (a1.toNat - 128) := by
            rw [← p128, ← Int.pow_add, show 128 + (a1.toNat - 128) = a1.toNat by omega]
          have hq := pow_pos2 (a1.toNat - 128)
          have e2 : (x * 2 ^ a1.toNat).natAbs = x.natAbs * (2 ^ a1.toNat : Int).natAbs := Int.natAbs_mul _ _
          have e3 : 340282366920938463463374607431768211456 ≤ (2 : Int) ^ a1.toNat := by
            rw [e]
            have := Int.mul_le_mul_of_nonneg_left hq (show (0 : Int) ≤ 340282366920938463463374607431768211456 by decide)
            omega
          have e4 : x.natAbs * (2 ^ a1.toNat : Int).natAbs ≥ 1 * 340282366920938463463374607431768211456 := Nat.mul_le_mul (by omega) (by omega)
          unfold Fit; omega
      rw [e]
      simp only [cobweblaw01_WideShifts.j0, d, decide_true, if_true]
      rw [al, Option.bind_some, if_pos rfl, eq_zero]
      by_cases z : x = 0
      · simp [z]
      · simp [z]
    · simp only [cobweblaw01_WideShifts.j0, d, decide_false, Bool.false_eq_true, if_false]
      obtain ⟨n, rfl⟩ : ∃ n : Nat, a1 = n := ⟨a1.toNat, by omega⟩
      rw [al, Option.bind_some, if_pos rfl, ref_num x hx k (by omega), Option.bind_some, ref_power n (by omega) k (by omega), Option.bind_some]
      dsimp only
      rw [ref_mul x _ k (len_mono (len_fit hx) (by omega)) (len_mono (len_pow2 n (by omega)) (by omega)) (by omega), Option.bind_some]
      dsimp only
      rw [Int.toNat_natCast, same_eq _ (len_mono (len_mul (len_fit hx) (len_pow2 n (by omega))) (by omega)) k (by omega)]
      rfl
end Go.Proofs.Ytpjbniihdndlmaa.Pure
