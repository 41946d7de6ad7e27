/- The plain law of FracTurned: negatives stand the other way round. -/
import Derived.Test.YtpjbniihdndlmabM6
import Derived.Test.YtpjbniihdndlmabAlive2
import Derived.Test.YtpjbniihdndlmabQx59
namespace Go.Proofs.Ytpjbniihdndlmab.Pure
open Go.RowKit Go.Proofs.Ytpjbniihdndlmab.H Go.Proofs.Ytpjbniihdndlmab.Q Go.Proofs.Ytpjbniihdndlmab.M Go.Proofs.YtpjbniihdndlmabW.PrintWords Go.Proofs.YtpjbniihdndlmabW.PrintMore
theorem FracTurned_end (k : Nat) (hk : Big k) (n d v : Int) (fn : Fit n) (fd : Fit d) (p : 0 < d) (hv : v = -(-n / d)) (f1 : Fit v) (f2 : Fit (v - 1)) :
    cobweblaw02_FracTurned.j1 (k + 1) false (eH n) (eL n) (eH d) (eL d) (eH v) (eL v) (eH (v - 1)) (eL (v - 1)) = some true := by
  have al : cobweblaw02_alive.f k = some true := at_rounds cobweblaw02_alive.mono (show 1000 ≤ k by unfold Big at hk; omega) alive2_at
  have e := ediv_split (-n) d
  have m1 := Int.emod_nonneg (-n) (show d ≠ 0 by omega)
  have m2 := Int.emod_lt_of_pos (-n) p
  have g : v * d = n + -n % d := by rw [hv, Int.neg_mul]; omega
  simp only [cobweblaw02_FracTurned.j1, Bool.false_eq_true, if_false]
  rw [al, Option.bind_some, if_pos rfl, of_one, Option.bind_some]
  dsimp only
  rw [fcmp_pos v 1 n d f1 fit_one fn fd k hk (by omega) p, Option.bind_some, if_pos (by
    unfold cmpI
    rw [if_neg (by omega)]
    split <;> omega), Option.bind_some]
  rw [fcmp_pos (v - 1) 1 n d f2 fit_one fn fd k hk (by omega) p, Option.bind_some, cmpI_neg (by rw [Int.sub_mul]; omega)]
  rfl
theorem FracTurned (a0_0 : Int) (a0_1 : Int) (a0_2 : Int) (a0_3 : Int) (a1_0 : Int) (a1_1 : Int) (a1_2 : Int) (a1_3 : Int) (w0_0 : IntKind.i64.has a0_0) (w0_1 : IntKind.u64.has a0_1) (w0_2 : IntKind.i64.has a0_2) (w0_3 : IntKind.u64.has a0_3) (w1_0 : IntKind.i64.has a1_0) (w1_1 : IntKind.u64.has a1_1) (w1_2 : IntKind.i64.has a1_2) (w1_3 : IntKind.u64.has a1_3) :
    ∃ k, cobweblaw02_FracTurned.f k a0_0 a0_1 a0_2 a0_3 a1_0 a1_1 a1_2 a1_3 = some true := by
  obtain ⟨n1, f1, rfl, rfl⟩ := of_words w0_0 w0_1
  obtain ⟨d1, f2, rfl, rfl⟩ := of_words w0_2 w0_3
  obtain ⟨n2, f3, rfl, rfl⟩ := of_words w1_0 w1_1
  obtain ⟨d2, f4, rfl, rfl⟩ := of_words w1_2 w1_3
  obtain ⟨k, hk⟩ : ∃ k : Nat, k = 680564733841876926926749214863536424000 := ⟨_, rfl⟩
  have B0 : Big k := by unfold Big; omega
  have B1 : Big (k + 1) := by unfold Big; omega
  refine ⟨k + 2, ?_⟩
  have al : ∀ j, k ≤ j → cobweblaw02_alive.f j = some true := fun j hj => at_rounds cobweblaw02_alive.mono (show 1000 ≤ j by omega) alive2_at
  have bad : ∀ a b c d e f g h i j l m : Int, cobweblaw02_FracTurned.j0 (k + 2) true a b c d e f g h i j l m = some true := fun a b c d e f g h i j l m => by
    simp only [cobweblaw02_FracTurned.j0, if_true]
    rw [al _ (by omega)]
    rfl
  have bad1 : ∀ a b c d e f g h : Int, cobweblaw02_FracTurned.j1 (k + 1) true a b c d e f g h = some true := fun a b c d e f g h => by
    simp only [cobweblaw02_FracTurned.j1, if_true]
    rw [al _ (by omega)]
    rfl
  unfold cobweblaw02_FracTurned.f
  rw [neg_eq n1 f1, Option.bind_some, neg_eq n2 f3, Option.bind_some]
  by_cases g1 : Fit (-n1)
  · rw [optI_pos g1]
    dsimp only
    rw [if_pos rfl]
    by_cases g2 : Fit (-n2)
    · rw [optI_pos g2]
      dsimp only
      rw [if_pos rfl, right_eq n1 d1 f2, Option.bind_some]
      by_cases c1 : 0 < d1
      · rw [if_pos (decide_eq_true c1), right_eq n2 d2 f4, Option.bind_some]
        by_cases c2 : 0 < d2
        · rw [decide_eq_true c2]
          simp only [cobweblaw02_FracTurned.j0, Bool.not_true, Bool.false_eq_true, if_false]
          rw [fcmp_pos (-n1) d1 (-n2) d2 g1 f2 g2 f4 (k + 1) B1 c1 c2, Option.bind_some, fcmp_pos n2 d2 n1 d1 f3 f4 f1 f2 (k + 1) B1 c2 c1, Option.bind_some]
          rw [if_pos (cmpI_sub (by rw [Int.neg_mul, Int.neg_mul]; omega)), floor_eq (-n1) d1 g1 f2 (k + 1) (by omega), Option.bind_some, if_pos c1]
          dsimp only
          rw [neg_eq _ (fit_div g1 c1), Option.bind_some]
          by_cases h1 : Fit (-(-n1 / d1))
          · rw [optI_pos h1, of_one, Option.bind_some]
            dsimp only
            rw [sub_eq _ 1 h1 fit_one, Option.bind_some, if_pos rfl]
            by_cases h2 : Fit (-(-n1 / d1) - 1)
            · rw [optI_pos h2]
              exact FracTurned_end k B0 n1 d1 _ f1 f2 c1 rfl h1 h2
            · rw [optI_neg h2]
              exact bad1 _ _ _ _ _ _ _ _
          · rw [optI_neg h1, of_one, Option.bind_some]
            dsimp only
            obtain ⟨z, hz⟩ : ∃ z, wide_Sub.f 0 0 (eH 1) (eL 1) = some z := ⟨_, sub_eq 0 1 (by decide) fit_one⟩
            rw [hz, Option.bind_some, if_neg (by decide)]
            exact bad1 _ _ _ _ _ _ _ _
        · rw [decide_eq_false c2]
          exact bad _ _ _ _ _ _ _ _ _ _ _ _
      · rw [if_neg (by simpa using c1)]
        exact bad _ _ _ _ _ _ _ _ _ _ _ _
    · rw [optI_neg g2, if_neg (by decide)]
      exact bad _ _ _ _ _ _ _ _ _ _ _ _
  · rw [optI_neg g1, if_neg (by decide)]
    exact bad _ _ _ _ _ _ _ _ _ _ _ _
end Go.Proofs.Ytpjbniihdndlmab.Pure
