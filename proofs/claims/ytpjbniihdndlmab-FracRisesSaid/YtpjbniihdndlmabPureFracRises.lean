/- The plain law of FracRises: of two fractions the greater one snaps to no lesser number. -/
import Derived.Test.YtpjbniihdndlmabM6
import Derived.Test.YtpjbniihdndlmabAlive2
import Derived.Test.YtpjbniihdndlmabQx58
namespace Go.Proofs.Ytpjbniihdndlmab.Pure
open Go.RowKit Go.Proofs.Ytpjbniihdndlmab.H Go.Proofs.Ytpjbniihdndlmab.Q Go.Proofs.Ytpjbniihdndlmab.M Go.Proofs.YtpjbniihdndlmabW.PrintWords Go.Proofs.YtpjbniihdndlmabW.PrintMore
theorem i32has {a : Int} (h : IntKind.i32.has a) : -2147483648 ≤ a ∧ a ≤ 2147483647 := by
  simpa [IntKind.has, IntKind.min, IntKind.max, IntKind.bits, IntKind.signed] using h
theorem FracRises (a0_0 : Int) (a0_1 : Int) (a0_2 : Int) (a0_3 : Int) (a0_4 : Int) (a0_5 : Int) (a0_6 : Int) (a0_7 : Int) (a1 : Int) (a2 : Int) (w0_0 : IntKind.i64.has a0_0) (w0_1 : IntKind.u64.has a0_1) (w0_2 : IntKind.i64.has a0_2) (w0_3 : IntKind.u64.has a0_3) (w0_4 : IntKind.i64.has a0_4) (w0_5 : IntKind.u64.has a0_5) (w0_6 : IntKind.i64.has a0_6) (w0_7 : IntKind.u64.has a0_7) (w1 : IntKind.i32.has a1) (w2 : IntKind.i64.has a2) :
    ∃ k, cobweblaw02_FracRises.f k a0_0 a0_1 a0_2 a0_3 a0_4 a0_5 a0_6 a0_7 a1 a2 = some true := by
  obtain ⟨n1, f1, rfl, rfl⟩ := of_words w0_0 w0_1
  obtain ⟨d1, f2, rfl, rfl⟩ := of_words w0_2 w0_3
  obtain ⟨n2, f3, rfl, rfl⟩ := of_words w0_4 w0_5
  obtain ⟨d2, f4, rfl, rfl⟩ := of_words w0_6 w0_7
  have h1 := i32has w1
  have h2 := i64has w2
  obtain ⟨k, hk⟩ : ∃ k : Nat, k = 680564733841876926926749214863536424000 := ⟨_, rfl⟩
  have B0 : Big k := by unfold Big; omega
  refine ⟨k + 2, ?_⟩
  have al : ∀ j, k ≤ j → cobweblaw02_alive.f j = some true := fun j hj => at_rounds cobweblaw02_alive.mono (show 1000 ≤ j by omega) alive2_at
  have bad : ∀ a b c d e f g h : Int, cobweblaw02_FracRises.j0 (k + 2) a1 a2 true a b c d e f g h = some true := fun a b c d e f g h => by
    simp only [cobweblaw02_FracRises.j0, if_true]
    rw [al _ (by omega)]
    rfl
  unfold cobweblaw02_FracRises.f
  by_cases c1 : a2 < 0
  · rw [if_pos c1]; exact bad _ _ _ _ _ _ _ _
  · rw [if_neg c1]
    by_cases c2 : a2 > 90
    · rw [decide_eq_true c2]; exact bad _ _ _ _ _ _ _ _
    · rw [decide_eq_false c2]
      obtain ⟨j, rfl⟩ : ∃ j : Nat, a2 = (j : Int) := ⟨a2.toNat, by omega⟩
      have pj := pow_fit j (by omega)
      have pl := pow_le j 90 (by omega)
      rw [show (2 : Int) ^ 90 = 1237940039285380274899124224 by simp] at pl
      have fn : Fit a1 := by unfold Fit; omega
      have fm : Fit (a1 * 2 ^ j) := by
        have u1 : a1 * 2 ^ j ≤ 2147483647 * 2 ^ j := Int.mul_le_mul_of_nonneg_right h1.2 (by omega)
        have u2 : -2147483648 * 2 ^ j ≤ a1 * 2 ^ j := Int.mul_le_mul_of_nonneg_right h1.1 (by omega)
        unfold Fit; omega
      simp only [cobweblaw02_FracRises.j0, Bool.false_eq_true, if_false]
      rw [snap_eq n1 d1 j f1 f2 (k + 1) (by omega), Option.bind_some, snap_eq n2 d2 j f3 f4 (k + 1) (by omega), Option.bind_some]
      rw [show wrap64 a1 = a1 by unfold wrap64; omega, of_eq a1 (by omega), Option.bind_some]
      dsimp only
      rw [shl_eq a1 j (k + 1) (by omega) fn (by omega), Option.bind_some, if_neg (show ¬ (j : Int) < 0 by omega), Int.toNat_natCast, optI_pos fm, of_one, Option.bind_some]
      dsimp only
      rw [snap_eq (a1 * 2 ^ j) 1 j fm fit_one (k + 1) (by omega), Option.bind_some, if_pos (show (0 : Int) < 1 ∧ 0 ≤ (j : Int) ∧ (j : Int) ≤ 100 by omega), if_pos rfl, if_pos rfl, Int.toNat_natCast, snap_whole, Option.bind_some]
      dsimp only
      rw [show (!(eH a1 == eH a1) || (!(eL a1 == eL a1))) = false by simp]
      simp only [cobweblaw02_FracRises.j1, Bool.false_eq_true, if_false]
      rw [al _ (by omega), Option.bind_some, if_pos rfl]
      by_cases c3 : 0 < d1
      · rw [if_pos (show 0 < d1 ∧ 0 ≤ (j : Int) ∧ (j : Int) ≤ 100 by omega), if_pos rfl]
        by_cases c4 : 0 < d2
        · rw [if_pos (show 0 < d2 ∧ 0 ≤ (j : Int) ∧ (j : Int) ≤ 100 by omega), if_pos rfl, fcmp_pos n1 d1 n2 d2 f1 f2 f3 f4 k B0 c3 c4, Option.bind_some]
          by_cases c5 : n1 * d2 ≤ n2 * d1
          · rw [if_neg (by unfold cmpI; rw [if_neg (show ¬ n2 * d1 < n1 * d2 by omega)]; split <;> decide)]
            have sm := snap_mono c3 c4 c5 j
            rw [cmp_eq _ _ k (by omega), Option.bind_some]
            congr 1
            rw [decide_eq_true_eq]
            unfold cmpI
            rw [if_neg (show ¬ snapI n2 d2 j < snapI n1 d1 j by omega)]
            split <;> decide
          · rw [if_pos (by rw [cmpI_pos (by omega)]; decide)]
        · rw [if_neg (show ¬ (0 < d2 ∧ 0 ≤ (j : Int) ∧ (j : Int) ≤ 100) by omega), if_neg (by decide)]
      · rw [if_neg (show ¬ (0 < d1 ∧ 0 ≤ (j : Int) ∧ (j : Int) ≤ 100) by omega), if_neg (by decide)]
end Go.Proofs.Ytpjbniihdndlmab.Pure
