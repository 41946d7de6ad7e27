/- The plain law of WideDivs: quotient and rest are the reference's; put together they are the first number. -/
import Derived.Test.YtpjbniihdndlmaaM5
import Derived.Test.YtpjbniihdndlmaaM11
import Derived.Test.YtpjbniihdndlmaaAlive1
import Derived.Test.YtpjbniihdndlmaaQx22
namespace Go.Proofs.Ytpjbniihdndlmaa.Pure
open Go.RowKit Go.Proofs.Ytpjbniihdndlmaa.H Go.Proofs.Ytpjbniihdndlmaa.Q Go.Proofs.Ytpjbniihdndlmaa.M Go.Proofs.YtpjbniihdndlmaaW.PrintWords Go.Proofs.YtpjbniihdndlmaaW.PrintMore
set_option linter.unusedVariables false
theorem div_bd {x y : Int} (hx : Fit x) (y0 : 0 < y) : Fit (x / y) := by
  unfold Fit at *
  have h1 : x / y ≤ 170141183460469231731687303715884105727 := by
    by_cases h : 0 ≤ x
    · have := Int.ediv_le_self y h; omega
    · have := Int.ediv_neg_of_neg_of_pos (a := x) (by omega) y0; omega
  have h2 : -170141183460469231731687303715884105728 ≤ x / y := by
    rw [Int.le_ediv_iff_mul_le y0]
    have : (170141183460469231731687303715884105728 : Int) * 1 ≤ 170141183460469231731687303715884105728 * y := Int.mul_le_mul_of_nonneg_left (by omega) (by omega)
    rw [Int.neg_mul]; omega
  omega
theorem WideDivs_end (x y : Int) (hx : Fit x) (hy : Fit y) (y0 : 0 < y) (k : Nat) (hk : 1010000 ≤ k) (fits : Bool) (hf : fits = true ∨ x < 0) :
    cobweblaw01_WideDivs.j0 k true fits true (eH x) (eL x) (eH y) (eL y) (eH (x / y)) (eL (x / y)) (eH (x % y)) (eL (x % y)) (nb (x / y)) (nd (x / y)) (nb (x % y)) (nd (x % y)) = some true := by
  obtain ⟨k, rfl⟩ : ∃ m, k = m + 2 := ⟨k - 2, by omega⟩
  have al : cobweblaw01_alive.f (k + 1) = some true := at_rounds cobweblaw01_alive.mono (show 1000 ≤ k + 1 by omega) alive1_at
  have m1 := Int.emod_nonneg x (show y ≠ 0 by omega)
  have m2 := Int.emod_lt_of_pos x y0
  have hq := div_bd hx y0
  have hr : Fit (x % y) := by unfold Fit at *; omega
  simp only [cobweblaw01_WideDivs.j0]
  rw [al, Option.bind_some, if_pos rfl]
  simp only [if_true]
  rw [ref_num _ hq (k + 1) (by omega), Option.bind_some]
  dsimp only
  rw [ref_cmp _ _ 10 (k + 1) (len_fit hq) (len_fit hq) (by omega) (by omega), Option.bind_some, cmp_self, if_pos rfl, ref_num _ hr (k + 1) (by omega), Option.bind_some]
  dsimp only
  rw [ref_cmp _ _ 10 (k + 1) (len_fit hr) (len_fit hr) (by omega) (by omega), Option.bind_some, cmp_self, if_pos rfl, sign_eq _ hr, Option.bind_some, if_pos (by rw [if_neg (by omega)]; split <;> decide), cmp_eq _ _ (k + 1) (by omega), Option.bind_some]
  rw [show cmpI (x % y) y = -1 by unfold cmpI; rw [if_pos m2], if_pos (by decide)]
  cases fits with
  | true => rw [if_pos rfl]; simp only [cobweblaw01_WideDivs.j1]
  | false =>
    have hn : x < 0 := by simpa using hf
    rw [if_neg (by decide), decide_eq_true (show eH x < 0 by unfold eH; omega)]
    simp only [cobweblaw01_WideDivs.j1]
theorem WideDivs (a0_0 : Int) (a0_1 : Int) (a1_0 : Int) (a1_1 : Int) (w0_0 : IntKind.i64.has a0_0) (w0_1 : IntKind.u64.has a0_1) (w1_0 : IntKind.i64.has a1_0) (w1_1 : IntKind.u64.has a1_1) : ∃ k, cobweblaw01_WideDivs.f k a0_0 a0_1 a1_0 a1_1 = some true := by
  obtain ⟨x, hx, rfl, rfl⟩ := of_words w0_0 w0_1
  obtain ⟨y, hy, rfl, rfl⟩ := of_words w1_0 w1_1
  obtain ⟨k, hk⟩ : ∃ k : Nat, k = 1010000 := ⟨_, rfl⟩
  refine ⟨k, ?_⟩
  have al : cobweblaw01_alive.f k = some true := at_rounds cobweblaw01_alive.mono (show 1000 ≤ k by omega) alive1_at
  unfold cobweblaw01_WideDivs.f
  rw [Div_eq x y hx hy k (by omega), Option.bind_some, sign_eq y hy, Option.bind_some]
  by_cases y0 : 0 < y
  · have m1 := Int.emod_nonneg x (show y ≠ 0 by omega)
    have m2 := Int.emod_lt_of_pos x y0
    have hq := div_bd hx y0
    have hr : Fit (x % y) := by unfold Fit at *; omega
    have es := ediv_split x y
    rw [if_neg (show ¬ (if y < 0 then (-1 : Int) else if y = 0 then 0 else 1) ≤ 0 by rw [if_neg (by omega), if_neg (by omega)]; decide), if_pos y0]
    dsimp only
    rw [ref_num x hx k (by omega), Option.bind_some, ref_num y hy k (by omega), Option.bind_some]
    dsimp only
    rw [ref_div x y (len_mono (len_fit hx) (by omega)) (len_mono (len_fit hy) (by omega)) y0 k (by omega), Option.bind_some, mul_eq _ _ hq hy k (by omega), Option.bind_some]
    by_cases g : Fit (x / y * y)
    · rw [optI_pos g]
      dsimp only
      rw [add_eq _ _ g hr, Option.bind_some, ← es, optI_pos hx, if_pos rfl, if_pos rfl]
      dsimp only
      rw [show (eH x == eH x && eL x == eL x) = true by simp]
      exact WideDivs_end x y hx hy y0 k (by omega) true (.inl rfl)
    · rw [optI_neg g]
      dsimp only
      have z := add_eq 0 (x % y) (by decide) hr
      rw [show eH 0 = 0 from rfl, show eL 0 = 0 from rfl] at z
      rw [z, Option.bind_some, if_neg (by decide)]
      refine WideDivs_end x y hx hy y0 k (by omega) false (.inr ?_)
      apply Int.not_le.mp
      intro h0
      apply g
      have q0 := Int.ediv_nonneg h0 (show 0 ≤ y by omega)
      have := Int.mul_nonneg q0 (show 0 ≤ y by omega)
      unfold Fit at *
      omega
  · rw [if_pos (show (if y < 0 then (-1 : Int) else if y = 0 then 0 else 1) ≤ 0 by split <;> (try split) <;> omega), if_neg y0, al]
    rfl
end Go.Proofs.Ytpjbniihdndlmaa.Pure
