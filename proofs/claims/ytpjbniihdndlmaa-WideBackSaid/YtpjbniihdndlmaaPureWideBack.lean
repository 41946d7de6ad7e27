/- The plain law of WideBack: what was added is taken away again; a number that is turned twice is itself. -/
import Derived.Test.YtpjbniihdndlmaaM2
import Derived.Test.YtpjbniihdndlmaaAlive1
import Derived.Test.YtpjbniihdndlmaaQx48
namespace Go.Proofs.Ytpjbniihdndlmaa.Pure
open Go.RowKit Go.Proofs.Ytpjbniihdndlmaa.H Go.Proofs.Ytpjbniihdndlmaa.Q Go.Proofs.Ytpjbniihdndlmaa.M Go.Proofs.YtpjbniihdndlmaaW.PrintWords Go.Proofs.YtpjbniihdndlmaaW.PrintMore
theorem WideBack_neg (x : Int) (hx : Fit x) (k : Nat) (hk : 1001 ≤ k) : cobweblaw01_WideBack.j0 k (eH x) (eL x) = some true := by
  obtain ⟨k, rfl⟩ : ∃ m, k = m + 1 := ⟨k - 1, by omega⟩
  have al : cobweblaw01_alive.f k = some true := at_rounds cobweblaw01_alive.mono (show 1000 ≤ k by omega) alive1_at
  simp only [cobweblaw01_WideBack.j0]
  rw [neg_eq x hx, Option.bind_some]
  by_cases f : Fit (-x)
  · rw [optI_pos f]
    dsimp only
    rw [if_pos rfl, neg_eq _ f, Int.neg_neg, optI_pos hx, Option.bind_some]
    dsimp only
    rw [if_pos rfl, if_neg (by simp), al]
    rfl
  · rw [optI_neg f]
    dsimp only
    rw [if_neg (by decide), al]
    rfl
theorem WideBack (a0_0 : Int) (a0_1 : Int) (a1_0 : Int) (a1_1 : Int) (w0_0 : IntKind.i64.has a0_0) (w0_1 : IntKind.u64.has a0_1) (w1_0 : IntKind.i64.has a1_0) (w1_1 : IntKind.u64.has a1_1) : ∃ k, cobweblaw01_WideBack.f k a0_0 a0_1 a1_0 a1_1 = some true := by
  obtain ⟨x, hx, rfl, rfl⟩ := of_words w0_0 w0_1
  obtain ⟨y, hy, rfl, rfl⟩ := of_words w1_0 w1_1
  refine ⟨1001, ?_⟩
  unfold cobweblaw01_WideBack.f
  rw [add_eq x y hx hy, Option.bind_some]
  by_cases f : Fit (x + y)
  · rw [optI_pos f]
    dsimp only
    rw [if_pos rfl, sub_eq _ y f hy, show x + y - y = x by omega, optI_pos hx, Option.bind_some]
    dsimp only
    rw [if_pos rfl, if_neg (by simp)]
    exact WideBack_neg x hx 1001 (by omega)
  · rw [optI_neg f]
    dsimp only
    rw [if_neg (by decide)]
    exact WideBack_neg x hx 1001 (by omega)
end Go.Proofs.Ytpjbniihdndlmaa.Pure
