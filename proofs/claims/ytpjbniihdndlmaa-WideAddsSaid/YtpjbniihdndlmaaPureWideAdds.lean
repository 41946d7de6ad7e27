/- The plain law of WideAdds: the sum, the difference, and the negative of any numbers, or that they are none, are the reference's. -/
import Derived.Test.YtpjbniihdndlmaaM5
import Derived.Test.YtpjbniihdndlmaaAlive1
import Derived.Test.YtpjbniihdndlmaaQx47
namespace Go.Proofs.Ytpjbniihdndlmaa.Pure
open Go.RowKit Go.Proofs.Ytpjbniihdndlmaa.H Go.Proofs.Ytpjbniihdndlmaa.Q Go.Proofs.Ytpjbniihdndlmaa.M Go.Proofs.YtpjbniihdndlmaaW.PrintWords Go.Proofs.YtpjbniihdndlmaaW.PrintMore
theorem WideAdds (a0_0 : Int) (a0_1 : Int) (a1_0 : Int) (a1_1 : Int) (w0_0 : IntKind.i64.has a0_0) (w0_1 : IntKind.u64.has a0_1) (w1_0 : IntKind.i64.has a1_0) (w1_1 : IntKind.u64.has a1_1) : ∃ k, cobweblaw01_WideAdds.f k a0_0 a0_1 a1_0 a1_1 = some true := by
  obtain ⟨x, hx, rfl, rfl⟩ := of_words w0_0 w0_1
  obtain ⟨y, hy, rfl, rfl⟩ := of_words w1_0 w1_1
  obtain ⟨k, hk⟩ : ∃ k : Nat, k = 40000 := ⟨_, rfl⟩
  refine ⟨k, ?_⟩
  have al : cobweblaw01_alive.f k = some true := at_rounds cobweblaw01_alive.mono (show 1000 ≤ k by omega) alive1_at
  have lx := len_fit hx
  have ly := len_fit hy
  unfold cobweblaw01_WideAdds.f
  rw [ref_num x hx k (by omega), Option.bind_some, ref_num y hy k (by omega), Option.bind_some, add_eq x y hx hy, Option.bind_some, sub_eq x y hx hy, Option.bind_some, neg_eq x hx, Option.bind_some, al, Option.bind_some, if_pos rfl]
  dsimp only
  rw [ref_add x y 10 k lx ly (by omega) (by omega), Option.bind_some]
  dsimp only
  rw [same_eq _ (len_mono (len_add lx ly) (by omega)) k (by omega), Option.bind_some, if_pos rfl, ref_neg y 10 k ly (by omega) (by omega), Option.bind_some]
  dsimp only
  rw [ref_add x (-y) 10 k lx (len_neg ly) (by omega) (by omega), Option.bind_some]
  dsimp only
  rw [Int.sub_eq_add_neg, same_eq _ (len_mono (len_add lx (len_neg ly)) (by omega)) k (by omega), Option.bind_some, if_pos rfl, ref_neg x 10 k lx (by omega) (by omega), Option.bind_some]
  dsimp only
  rw [same_eq _ (len_mono (len_neg lx) (by omega)) k (by omega)]
  rfl
end Go.Proofs.Ytpjbniihdndlmaa.Pure
