/- The plain law of WideTexts: the digits of any number are the reference's. -/
import Derived.Test.YtpjbniihdndlmaaM5
import Derived.Test.YtpjbniihdndlmaaM13
import Derived.Test.YtpjbniihdndlmaaAlive1
import Derived.Test.YtpjbniihdndlmaaQx29
namespace Go.Proofs.Ytpjbniihdndlmaa.Pure
open Go.RowKit Go.Proofs.Ytpjbniihdndlmaa.H Go.Proofs.Ytpjbniihdndlmaa.Q Go.Proofs.Ytpjbniihdndlmaa.M Go.Proofs.YtpjbniihdndlmaaW.PrintWords Go.Proofs.YtpjbniihdndlmaaW.PrintMore
set_option linter.unusedVariables false
theorem WideTexts (a0_0 : Int) (a0_1 : Int) (w0_0 : IntKind.i64.has a0_0) (w0_1 : IntKind.u64.has a0_1) : ∃ k, cobweblaw01_WideTexts.f k a0_0 a0_1 = some true := by
 obtain ⟨x, hx, rfl, rfl⟩ := of_words w0_0 w0_1
 obtain ⟨k, hk⟩ : ∃ k : Nat, k = 40000 := ⟨_, rfl⟩
 refine ⟨k, ?_⟩
 have al : cobweblaw01_alive.f k = some true := at_rounds cobweblaw01_alive.mono (show 1000 ≤ k by omega) alive1_at
 unfold cobweblaw01_WideTexts.f
 rw [text_eq x hx k (by omega), Option.bind_some, ref_num x hx k (by omega), Option.bind_some]
 dsimp only
 rw [ref_text x (len_mono (len_fit hx) (by omega)) k (by omega), Option.bind_some, if_pos rfl, al]
 rfl
end Go.Proofs.Ytpjbniihdndlmaa.Pure
