/- The plain law of FracSnaps: the nearest multiple of a power of two is the reference's. -/
import Derived.Test.YtpjbniihdndlmabM7
import Derived.Test.YtpjbniihdndlmabM12
import Derived.Test.YtpjbniihdndlmabAlive2
import Derived.Test.YtpjbniihdndlmabQx22
namespace Go.Proofs.Ytpjbniihdndlmab.Pure
open Go.RowKit Go.Proofs.Ytpjbniihdndlmab.H Go.Proofs.Ytpjbniihdndlmab.Q Go.Proofs.Ytpjbniihdndlmab.M Go.Proofs.YtpjbniihdndlmabW.PrintWords Go.Proofs.YtpjbniihdndlmabW.PrintMore
set_option linter.unusedVariables false
theorem FracSnaps (a0_0 : Int) (a0_1 : Int) (a0_2 : Int) (a0_3 : Int) (a1 : Int) (w0_0 : IntKind.i64.has a0_0) (w0_1 : IntKind.u64.has a0_1) (w0_2 : IntKind.i64.has a0_2) (w0_3 : IntKind.u64.has a0_3) (w1 : IntKind.i64.has a1) :
  ∃ k, cobweblaw02_FracSnaps.f k a0_0 a0_1 a0_2 a0_3 a1 = some true := by
 obtain ⟨n, f1, rfl, rfl⟩ := of_words w0_0 w0_1
 obtain ⟨d, f2, rfl, rfl⟩ := of_words w0_2 w0_3
 obtain ⟨k, hk⟩ : ∃ k : Nat, k = 1010000 := ⟨_, rfl⟩
 refine ⟨k + 1, ?_⟩
 have al : cobweblaw02_alive.f k = some true := at_rounds cobweblaw02_alive.mono (show 1000 ≤ k by omega) alive2_at
 have bad : ∀ a b c e : Int, cobweblaw02_FracSnaps.j0 (k + 1) a1 false true a b c e 0 0 = some true := fun a b c e => by
  simp only [cobweblaw02_FracSnaps.j0, if_true]
  rw [al]
  rfl
 unfold cobweblaw02_FracSnaps.f
 rw [snap_eq n d a1 f1 f2 (k + 1) (by omega), Option.bind_some, sign_eq d f2, Option.bind_some]
 by_cases c1 : 0 < d
 ·rw [if_neg (show ¬ (if d < 0 then (-1 : Int) else if d = 0 then 0 else 1) ≤ 0 by rw [if_neg (by omega), if_neg (by omega)]; decide)]
  by_cases c2 : a1 < 0
  ·rw [if_pos c2, if_neg (show ¬ (0 < d ∧ 0 ≤ a1 ∧ a1 ≤ 100) by omega)]
   exact bad _ _ _ _
  ·rw [if_neg c2]
   by_cases c3 : a1 > 100
   ·rw [decide_eq_true c3, if_neg (show ¬ (0 < d ∧ 0 ≤ a1 ∧ a1 ≤ 100) by omega)]
    exact bad _ _ _ _
   ·rw [decide_eq_false c3, if_pos (show 0 < d ∧ 0 ≤ a1 ∧ a1 ≤ 100 by omega)]
    obtain ⟨j, rfl⟩ : ∃ j : Nat, a1 = (j : Int) := ⟨a1.toNat, by omega⟩
    have sf := snap_fit n d f1 c1 j
    simp only [cobweblaw02_FracSnaps.j0, Bool.false_eq_true, if_false, Int.toNat_natCast]
    rw [al, Option.bind_some, if_pos rfl, if_pos trivial, ref_num2 _ sf k (by omega), Option.bind_some, old_eq n d f1 f2 k (by omega), Option.bind_some]
    dsimp only
    rw [ref_snap n d (len_fit f1) (len_fit f2) c1 j (by omega) k (by omega), Option.bind_some]
    dsimp only
    rw [ref_cmp _ _ 10 k (len_fit sf) (len_fit sf) (by omega) (by omega), Option.bind_some, cmp_self]
    rfl
 ·rw [if_pos (show (if d < 0 then (-1 : Int) else if d = 0 then 0 else 1) ≤ 0 by split <;> (try split) <;> omega), if_neg (show ¬ (0 < d ∧ 0 ≤ a1 ∧ a1 ≤ 100) by omega)]
  exact bad _ _ _ _
end Go.Proofs.Ytpjbniihdndlmab.Pure
