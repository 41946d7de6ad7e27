/- How two fractions compare: whole parts first, then what is left, the other way round. -/
import Derived.Test.YtpjbniihdndlmabM6
import Derived.Test.YtpjbniihdndlmabQx12
namespace Go.Proofs.Ytpjbniihdndlmab.M
open Go.RowKit Go.Proofs.Ytpjbniihdndlmab.H Go.Proofs.Ytpjbniihdndlmab.Q Go.Proofs.YtpjbniihdndlmabW.PrintWords Go.Proofs.YtpjbniihdndlmabW.PrintMore
set_option linter.unusedVariables false
/-! The order -/
theorem cross_lt {n1 d1 n2 d2 : Int} (h1 : 0 < d1) (h2 : 0 < d2) (h : n1 / d1 < n2 / d2) : n1 * d2 < n2 * d1 := by
 have e1 := ediv_split n1 d1
 have e2 := ediv_split n2 d2
 have r1 := Int.emod_lt_of_pos n1 h1
 have r2 := Int.emod_nonneg n2 (show d2 ≠ 0 by omega)
 have a : n1 + 1 ≤ n2 / d2 * d1 := by
  have : (n1 / d1 + 1) * d1 ≤ n2 / d2 * d1 := Int.mul_le_mul_of_nonneg_right (by omega) (by omega)
  rw [Int.add_mul] at this; omega
 have b := Int.mul_le_mul_of_nonneg_right a (show 0 ≤ d2 by omega)
 have c : n2 / d2 * d2 * d1 ≤ n2 * d1 := Int.mul_le_mul_of_nonneg_right (by omega) (by omega)
 rw [Int.mul_right_comm] at b
 rw [Int.add_mul] at b
 omega
theorem cross_eq {n1 d1 n2 d2 : Int} (h : n1 / d1 = n2 / d2) : n1 * d2 - n2 * d1 = n1 % d1 * d2 - n2 % d2 * d1 := by
 have e1 := ediv_split n1 d1
 have e2 := ediv_split n2 d2
 rw [h] at e1
 generalize n1 % d1 = r at *
 generalize n2 % d2 = s at *
 generalize n2 / d2 = q at *
 rw [e1, e2, Int.add_mul, Int.add_mul, Int.mul_right_comm q d2 d1]
 omega
theorem cmpI_sub {x y z w : Int} (h : x - y = z - w) : cmpI x y = cmpI z w := by
 unfold cmpI
 repeat' split
 all_goals omega
theorem frac_loop (m : Nat) : ∀ (k : Nat) (n1 n2 d1 d2 : Int), d1.toNat + d2.toNat ≤ m → 2 * m + 310 ≤ k → Fit n1 → Fit n2 → Fit d1 → Fit d2 → 0 < d1 → 0 < d2 →
  frac_Cmp.l0 k (eH n1) (eL n1) (eH n2) (eL n2) (eH d1) (eL d1) (eH d2) (eL d2) = some (cmpI (n1 * d2) (n2 * d1)) := by
 induction m with
 | zero => intro k n1 n2 d1 d2 hm; omega
 | succ m ih =>
  intro k n1 n2 d1 d2 hm hk f1 f2 f3 f4 p1 p2
  obtain ⟨k, rfl⟩ : ∃ j, k = j + 2 := ⟨k - 2, by omega⟩
  have m1 := Int.emod_nonneg n1 (show d1 ≠ 0 by omega)
  have m2 := Int.emod_lt_of_pos n1 p1
  have m3 := Int.emod_nonneg n2 (show d2 ≠ 0 by omega)
  have m4 := Int.emod_lt_of_pos n2 p2
  have g1 := fit_mod (n := n1) f3 p1
  have g2 := fit_mod (n := n2) f4 p2
  simp only [frac_Cmp.l0]
  rw [Div_eq n1 d1 f1 f3 (k + 1) (by omega), Option.bind_some, if_pos p1]
  dsimp only
  rw [Div_eq n2 d2 f2 f4 (k + 1) (by omega), Option.bind_some, if_pos p2]
  dsimp only
  rw [cmp_eq _ _ (k + 1) (by omega), Option.bind_some]
  by_cases c : n1 / d1 = n2 / d2
  ·rw [if_pos ((cmp_zero _ _).2 c), cmpI_sub (cross_eq c), sign_eq _ g1, Option.bind_some]
   have last : frac_Cmp.j2 (k + 1) true (eH d1) (eL d1) (eH d2) (eL d2) (eH (n1 % d1)) (eL (n1 % d1)) (eH (n2 % d2)) (eL (n2 % d2)) = some (cmpI (n1 % d1) 0 - cmpI (n2 % d2) 0) := by
    simp only [frac_Cmp.j2, if_true]
    rw [sign_eq _ g1, Option.bind_some, sign_eq _ g2, Option.bind_some]
    congr 1
    unfold cmpI wrap64
    repeat' split
    all_goals omega
   by_cases z1 : n1 % d1 = 0
   ·rw [if_pos (by rw [z1]; rfl), last, z1, Int.zero_mul]
    congr 1
    by_cases z2 : n2 % d2 = 0
    ·rw [z2, Int.zero_mul]; rfl
    ·have := Int.mul_pos (show 0 < n2 % d2 by omega) p1
     rw [cmpI_neg this, cmpI_pos (show 0 < n2 % d2 by omega), cmp_self]; rfl
   ·rw [if_neg (by rw [if_neg (by omega), if_neg z1]; decide), sign_eq _ g2, Option.bind_some]
    by_cases z2 : n2 % d2 = 0
    ·rw [show ((if n2 % d2 < 0 then (-1 : Int) else if n2 % d2 = 0 then 0 else 1) == 0) = true by rw [z2]; rfl, last, z2, Int.zero_mul]
     have := Int.mul_pos (show 0 < n1 % d1 by omega) p2
     rw [cmpI_pos this, cmpI_pos (show 0 < n1 % d1 by omega), cmp_self]; rfl
    ·rw [show ((if n2 % d2 < 0 then (-1 : Int) else if n2 % d2 = 0 then 0 else 1) == 0) = false by rw [if_neg (by omega), if_neg z2]; rfl]
     simp only [frac_Cmp.j2, Bool.false_eq_true, if_false]
     rw [ih k d2 d1 (n2 % d2) (n1 % d1) (by omega) (by omega) f4 f3 g2 g1 (by omega) (by omega), Int.mul_comm d2, Int.mul_comm d1]
  ·rw [if_neg (by rw [cmp_zero]; exact c)]
   congr 1
   by_cases l : n1 / d1 < n2 / d2
   ·rw [cmpI_neg l, cmpI_neg (cross_lt p1 p2 l)]
   ·have l' : n2 / d2 < n1 / d1 := by omega
    rw [cmpI_pos l', cmpI_pos (cross_lt p2 p1 l')]
/-- Fuel that is enough for any two fractions. -/
def Big (k : Nat) : Prop := 680564733841876926926749214863536424000 ≤ k
theorem fcmp_eq (n1 d1 n2 d2 : Int) (f1 : Fit n1) (f3 : Fit d1) (f2 : Fit n2) (f4 : Fit d2) (k : Nat) (hk : Big k) :
  frac_Cmp.f k (eH n1) (eL n1) (eH d1) (eL d1) (eH n2) (eL n2) (eH d2) (eL d2) = some (if 0 < d1 ∧ 0 < d2 then cmpI (n1 * d2) (n2 * d1) else 0) := by
 unfold Big at hk
 obtain ⟨k, rfl⟩ : ∃ j, k = j + 1 := ⟨k - 1, by omega⟩
 have bad : ∀ a b c d e f g h : Int, frac_Cmp.j0 (k + 1) true a b c d e f g h = some 0 := fun a b c d e f g h => by simp only [frac_Cmp.j0]; rfl
 unfold frac_Cmp.f
 rw [right_eq n1 d1 f3, Option.bind_some]
 by_cases c1 : 0 < d1
 ·rw [if_pos (decide_eq_true c1), right_eq n2 d2 f4, Option.bind_some]
  by_cases c2 : 0 < d2
  ·rw [decide_eq_true c2, if_pos ⟨c1, c2⟩]
   simp only [frac_Cmp.j0, Bool.not_true, Bool.false_eq_true, if_false]
   unfold Fit at f3 f4
   exact frac_loop (d1.toNat + d2.toNat) k n1 n2 d1 d2 (by omega) (by omega) f1 f2 (by unfold Fit; omega) (by unfold Fit; omega) c1 c2
  ·rw [decide_eq_false c2, if_neg (by omega)]
   exact bad _ _ _ _ _ _ _ _
 ·rw [if_neg (by simpa using c1), bad, if_neg (by omega)]
theorem fcmp_pos (n1 d1 n2 d2 : Int) (f1 : Fit n1) (f3 : Fit d1) (f2 : Fit n2) (f4 : Fit d2) (k : Nat) (hk : Big k) (p1 : 0 < d1) (p2 : 0 < d2) :
  frac_Cmp.f k (eH n1) (eL n1) (eH d1) (eL d1) (eH n2) (eL n2) (eH d2) (eL d2) = some (cmpI (n1 * d2) (n2 * d1)) := by rw [fcmp_eq n1 d1 n2 d2 f1 f3 f2 f4 k hk, if_pos ⟨p1, p2⟩]
end Go.Proofs.Ytpjbniihdndlmab.M
