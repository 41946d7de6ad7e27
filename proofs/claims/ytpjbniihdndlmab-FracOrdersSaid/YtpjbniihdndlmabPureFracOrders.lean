/- The plain law of FracOrders: how two fractions compare is the reference's. -/
import Derived.Test.YtpjbniihdndlmabM7
import Derived.Test.YtpjbniihdndlmabAlive2
import Derived.Test.YtpjbniihdndlmabQx16
namespace Go.Proofs.Ytpjbniihdndlmab.Pure
open Go.RowKit Go.Proofs.Ytpjbniihdndlmab.H Go.Proofs.Ytpjbniihdndlmab.Q Go.Proofs.Ytpjbniihdndlmab.M Go.Proofs.YtpjbniihdndlmabW.PrintWords Go.Proofs.YtpjbniihdndlmabW.PrintMore
theorem FracOrders (a0_0 : Int) (a0_1 : Int) (a0_2 : Int) (a0_3 : Int) (a1_0 : Int) (a1_1 : Int) (a1_2 : Int) (a1_3 : Int) (w0_0 : IntKind.i64.has a0_0) (w0_1 : IntKind.u64.has a0_1) (w0_2 : IntKind.i64.has a0_2) (w0_3 : IntKind.u64.has a0_3) (w1_0 : IntKind.i64.has a1_0) (w1_1 : IntKind.u64.has a1_1) (w1_2 : IntKind.i64.has a1_2) (w1_3 : IntKind.u64.has a1_3) :
    ∃ k, cobweblaw02_FracOrders.f k a0_0 a0_1 a0_2 a0_3 a1_0 a1_1 a1_2 a1_3 = some true := by
  obtain ⟨n1, f1, rfl, rfl⟩ := of_words w0_0 w0_1
  obtain ⟨d1, f2, rfl, rfl⟩ := of_words w0_2 w0_3
  obtain ⟨n2, f3, rfl, rfl⟩ := of_words w1_0 w1_1
  obtain ⟨d2, f4, rfl, rfl⟩ := of_words w1_2 w1_3
  obtain ⟨k, hk⟩ : ∃ k : Nat, k = 680564733841876926926749214863536424000 := ⟨_, rfl⟩
  have B0 : Big k := by unfold Big; omega
  have B1 : Big (k + 1) := by unfold Big; omega
  refine ⟨k + 1, ?_⟩
  have al : cobweblaw02_alive.f k = some true := at_rounds cobweblaw02_alive.mono (show 1000 ≤ k by omega) alive2_at
  have bad : ∀ a b c d e f g h : Int, cobweblaw02_FracOrders.j0 (k + 1) 0 true a b c d e f g h = some true := fun a b c d e f g h => by
    simp only [cobweblaw02_FracOrders.j0, if_true]
    rw [al]
    rfl
  unfold cobweblaw02_FracOrders.f
  rw [fcmp_eq n1 d1 n2 d2 f1 f2 f3 f4 (k + 1) B1, Option.bind_some, sign_eq d1 f2, Option.bind_some]
  by_cases c1 : 0 < d1
  · rw [if_neg (show ¬ (if d1 < 0 then (-1 : Int) else if d1 = 0 then 0 else 1) ≤ 0 by rw [if_neg (by omega), if_neg (by omega)]; decide), sign_eq d2 f4, Option.bind_some]
    by_cases c2 : 0 < d2
    · rw [show decide ((if d2 < 0 then (-1 : Int) else if d2 = 0 then 0 else 1) ≤ 0) = false by rw [if_neg (by omega), if_neg (by omega)]; rfl, if_pos ⟨c1, c2⟩]
      have r := cmp_rng (n1 * d2) (n2 * d1)
      simp only [cobweblaw02_FracOrders.j0, Bool.false_eq_true, if_false]
      rw [al, Option.bind_some, if_pos rfl, old_eq n1 d1 f1 f2 k (by omega), Option.bind_some, old_eq n2 d2 f3 f4 k (by omega), Option.bind_some]
      dsimp only
      rw [ref02_cmp n1 d1 n2 d2 f1 f2 f3 f4 k (by omega), Option.bind_some, if_pos rfl, fcmp_pos n2 d2 n1 d1 f3 f4 f1 f2 k B0 c2 c1, Option.bind_some, if_pos (by rw [cmp_swap]; unfold wrap64; omega)]
      rw [fcmp_pos n1 d1 n1 d1 f1 f2 f1 f2 k B0 c1 c1, Option.bind_some, cmp_self]
      rfl
    · rw [show decide ((if d2 < 0 then (-1 : Int) else if d2 = 0 then 0 else 1) ≤ 0) = true by rw [decide_eq_true_eq]; split <;> (try split) <;> omega, if_neg (by omega)]
      exact bad _ _ _ _ _ _ _ _
  · rw [if_pos (show (if d1 < 0 then (-1 : Int) else if d1 = 0 then 0 else 1) ≤ 0 by split <;> (try split) <;> omega), if_neg (by omega)]
    exact bad _ _ _ _ _ _ _ _
end Go.Proofs.Ytpjbniihdndlmab.Pure
