/- The plain law of FracFloors: the whole part is the reference's: not above the fraction, and above it with one more. -/
import Derived.Test.YtpjbniihdndlmabM6c
import Derived.Test.YtpjbniihdndlmabM7
import Derived.Test.YtpjbniihdndlmabM11
import Derived.Test.YtpjbniihdndlmabAlive2
import Derived.Test.YtpjbniihdndlmabQx20
namespace Go.Proofs.Ytpjbniihdndlmab.Pure
open Go.RowKit Go.Proofs.Ytpjbniihdndlmab.H Go.Proofs.Ytpjbniihdndlmab.Q Go.Proofs.Ytpjbniihdndlmab.M Go.Proofs.YtpjbniihdndlmabW.PrintWords Go.Proofs.YtpjbniihdndlmabW.PrintMore
set_option linter.unusedVariables false
theorem FracFloors (a0_0 : Int) (a0_1 : Int) (a0_2 : Int) (a0_3 : Int) (w0_0 : IntKind.i64.has a0_0) (w0_1 : IntKind.u64.has a0_1) (w0_2 : IntKind.i64.has a0_2) (w0_3 : IntKind.u64.has a0_3) :
  ∃ k, cobweblaw02_FracFloors.f k a0_0 a0_1 a0_2 a0_3 = some true := by
 obtain ⟨n, f1, rfl, rfl⟩ := of_words w0_0 w0_1
 obtain ⟨d, f2, rfl, rfl⟩ := of_words w0_2 w0_3
 obtain ⟨k, hk⟩ : ∃ k : Nat, k = 680564733841876926926749214863536424000 := ⟨_, rfl⟩
 have B0 : Big k := by unfold Big; omega
 have B1 : Big (k + 1) := by unfold Big; omega
 refine ⟨k + 1, ?_⟩
 have al : ∀ m, k ≤ m → cobweblaw02_alive.f m = some true := fun m hm => at_rounds cobweblaw02_alive.mono (show 1000 ≤ m by omega) alive2_at
 unfold cobweblaw02_FracFloors.f
 rw [floor_eq n d f1 f2 (k + 1) (by omega), Option.bind_some, sign_eq d f2, Option.bind_some]
 by_cases c1 : 0 < d
 ·rw [if_neg (show ¬ (if d < 0 then (-1 : Int) else if d = 0 then 0 else 1) ≤ 0 by rw [if_neg (by omega), if_neg (by omega)]; decide), if_pos c1]
  have hq := fit_div f1 c1
  have es := ediv_split n d
  have m1 := Int.emod_nonneg n (show d ≠ 0 by omega)
  have m2 := Int.emod_lt_of_pos n c1
  dsimp only
  rw [ref_num2 _ hq (k + 1) (by omega), Option.bind_some, old_eq n d f1 f2 (k + 1) (by omega), Option.bind_some]
  dsimp only
  unfold cobwebref02_Floor.f
  rw [ref_div n d (len_mono (len_fit f1) (by omega)) (len_mono (len_fit f2) (by omega)) c1 (k + 1) (by omega), Option.bind_some, Option.bind_some]
  dsimp only
  rw [ref_cmp _ _ 10 (k + 1) (len_fit hq) (len_fit hq) (by omega) (by omega), Option.bind_some, cmp_self, if_pos rfl, of_one, Option.bind_some]
  dsimp only
  rw [fcmp_pos (n / d) 1 n d hq fit_one f1 f2 (k + 1) B1 (by omega) c1, Option.bind_some, decide_eq_false (show ¬ cmpI (n / d * d) (n * 1) > 0 by unfold cmpI; rw [Int.mul_one]; split <;> (try split) <;> omega)]
  simp only [cobweblaw02_FracFloors.j0, Bool.false_eq_true, if_false]
  rw [of_one, Option.bind_some]
  dsimp only
  rw [add_eq _ 1 hq fit_one, Option.bind_some, al _ (by omega), Option.bind_some, if_pos rfl]
  by_cases g : Fit (n / d + 1)
  ·rw [optI_pos g]
   dsimp only
   rw [if_pos rfl, Option.bind_some]
   dsimp only
   rw [fcmp_pos (n / d + 1) 1 n d g fit_one f1 f2 k B0 (by omega) c1, Option.bind_some, cmpI_pos (by rw [Int.mul_one, Int.add_mul]; omega)]
   rfl
  ·rw [optI_neg g, if_neg (by decide)]
 ·rw [if_pos (show (if d < 0 then (-1 : Int) else if d = 0 then 0 else 1) ≤ 0 by split <;> (try split) <;> omega), if_neg c1, al _ (by omega), Option.bind_some, if_pos rfl, if_pos (by decide), right_eq n d f2, Option.bind_some, decide_eq_false c1]
  rfl
end Go.Proofs.Ytpjbniihdndlmab.Pure
