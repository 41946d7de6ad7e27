/- The plain law of WideMuls: the product of any numbers, or that it is none, and of any small ones, are the reference's. -/
import Derived.Test.YtpjbniihdndlmaaM5
import Derived.Test.YtpjbniihdndlmaaAlive1
import Derived.Test.YtpjbniihdndlmaaQx23
namespace Go.Proofs.Ytpjbniihdndlmaa.Pure
open Go.RowKit Go.Proofs.Ytpjbniihdndlmaa.H Go.Proofs.Ytpjbniihdndlmaa.Q Go.Proofs.Ytpjbniihdndlmaa.M Go.Proofs.YtpjbniihdndlmaaW.PrintWords Go.Proofs.YtpjbniihdndlmaaW.PrintMore
theorem WideMuls (a0_0 : Int) (a0_1 : Int) (a1_0 : Int) (a1_1 : Int) (a2_0 : Int) (a2_1 : Int) (w0_0 : IntKind.i64.has a0_0) (w0_1 : IntKind.u64.has a0_1) (w1_0 : IntKind.i64.has a1_0) (w1_1 : IntKind.u64.has a1_1) (w2_0 : IntKind.i64.has a2_0) (w2_1 : IntKind.i64.has a2_1) : ∃ k, cobweblaw01_WideMuls.f k a0_0 a0_1 a1_0 a1_1 a2_0 a2_1 = some true := by
  obtain ⟨x, hx, rfl, rfl⟩ := of_words w0_0 w0_1
  obtain ⟨y, hy, rfl, rfl⟩ := of_words w1_0 w1_1
  have hc := i64has w2_0
  have hd := i64has w2_1
  obtain ⟨k, hk⟩ : ∃ k : Nat, k = 40000 := ⟨_, rfl⟩
  refine ⟨k, ?_⟩
  have al : cobweblaw01_alive.f k = some true := at_rounds cobweblaw01_alive.mono (show 1000 ≤ k by omega) alive1_at
  have lx := len_fit hx
  have ly := len_fit hy
  have tm := times_eq a2_0 a2_1 hc hd k (by omega)
  unfold cobweblaw01_WideMuls.f
  rw [mul_eq x y hx hy k (by omega), Option.bind_some, al, Option.bind_some, if_pos rfl, ref_num x hx k (by omega), Option.bind_some, ref_num y hy k (by omega), Option.bind_some]
  dsimp only
  rw [ref_mul x y k (len_mono lx (by omega)) (len_mono ly (by omega)) (by omega), Option.bind_some]
  dsimp only
  rw [same_eq _ (len_mono (len_mul lx ly) (by omega)) k (by omega), Option.bind_some, if_pos rfl, tm.2, Option.bind_some, ref_of _ hc k (by omega), Option.bind_some, ref_of _ hd k (by omega), Option.bind_some]
  dsimp only
  rw [ref_mul a2_0 a2_1 k (len_mono (len_i64 hc) (by omega)) (len_mono (len_i64 hd) (by omega)) (by omega), Option.bind_some]
  dsimp only
  rw [same_fit _ tm.1 k (by omega)]
  rfl
end Go.Proofs.Ytpjbniihdndlmaa.Pure
