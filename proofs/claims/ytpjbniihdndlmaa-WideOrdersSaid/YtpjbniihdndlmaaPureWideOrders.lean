/- The plain law of WideOrders: how two numbers compare, and their signs, are the reference's; they are equal just if they are the same. -/
import Derived.Test.YtpjbniihdndlmaaM5
import Derived.Test.YtpjbniihdndlmaaAlive1
import Derived.Test.YtpjbniihdndlmaaQx25
namespace Go.Proofs.Ytpjbniihdndlmaa.Pure
open Go.RowKit Go.Proofs.Ytpjbniihdndlmaa.H Go.Proofs.Ytpjbniihdndlmaa.Q Go.Proofs.Ytpjbniihdndlmaa.M Go.Proofs.YtpjbniihdndlmaaW.PrintWords Go.Proofs.YtpjbniihdndlmaaW.PrintMore
theorem WideOrders (a0_0 : Int) (a0_1 : Int) (a1_0 : Int) (a1_1 : Int) (w0_0 : IntKind.i64.has a0_0) (w0_1 : IntKind.u64.has a0_1) (w1_0 : IntKind.i64.has a1_0) (w1_1 : IntKind.u64.has a1_1) : ∃ k, cobweblaw01_WideOrders.f k a0_0 a0_1 a1_0 a1_1 = some true := by
  obtain ⟨x, hx, rfl, rfl⟩ := of_words w0_0 w0_1
  obtain ⟨y, hy, rfl, rfl⟩ := of_words w1_0 w1_1
  obtain ⟨k, hk⟩ : ∃ k : Nat, k = 40000 := ⟨_, rfl⟩
  refine ⟨k, ?_⟩
  have al : cobweblaw01_alive.f k = some true := at_rounds cobweblaw01_alive.mono (show 1000 ≤ k by omega) alive1_at
  have lx := len_fit hx
  have ly := len_fit hy
  have r := cmp_rng x y
  unfold cobweblaw01_WideOrders.f
  rw [cmp_eq x y k (by omega), Option.bind_some, al, Option.bind_some, if_pos rfl, ref_num x hx k (by omega), Option.bind_some, ref_num y hy k (by omega), Option.bind_some]
  dsimp only
  rw [ref_cmp x y 10 k lx ly (by omega) (by omega), Option.bind_some, if_pos rfl, cmp_eq y x k (by omega), Option.bind_some, if_pos (by rw [cmp_swap]; unfold wrap64; omega)]
  rw [eq_words, if_pos (by
    have := cmp_zero x y
    rw [beq_iff_eq, Bool.eq_iff_iff, beq_iff_eq, decide_eq_true_eq]
    exact this), sign_eq x hx, Option.bind_some, ref_of 0 (by decide) k (by omega), Option.bind_some, Option.bind_some]
  dsimp only
  rw [ref_cmp x 0 10 k lx (len_fit (by decide)) (by omega) (by omega), Option.bind_some]
  congr 1
  rw [beq_iff_eq]
  unfold cmpI
  repeat' split
  all_goals omega
end Go.Proofs.Ytpjbniihdndlmaa.Pure
