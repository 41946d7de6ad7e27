/- The plain law of GridOrders: how two pixels compare, by the first number and then by the second. -/
import Derived.Test.YtpjbniihdndlmabM2
import Derived.Test.YtpjbniihdndlmabAlive3
import Derived.Test.YtpjbniihdndlmabQx26
import Derived.Test.YtpjbniihdndlmabQx33
import Derived.Test.YtpjbniihdndlmabQx34
namespace Go.Proofs.Ytpjbniihdndlmab.Pure
open Go.RowKit Go.Proofs.Ytpjbniihdndlmab.H Go.Proofs.Ytpjbniihdndlmab.Q Go.Proofs.Ytpjbniihdndlmab.M Go.Proofs.YtpjbniihdndlmabW.PrintWords Go.Proofs.YtpjbniihdndlmabW.PrintMore
set_option linter.unusedVariables false
/-- How two pixels compare. -/
def pix (a b c d : Int) : Int := if a < c ∨ (a = c ∧ b < d) then -1 else if c < a ∨ (c = a ∧ d < b) then 1 else 0
theorem pix_cases (a b c d : Int) : (pix a b c d = -1 ∧ (a < c ∨ (a = c ∧ b < d))) ∨ (pix a b c d = 1 ∧ (c < a ∨ (c = a ∧ d < b))) ∨ (pix a b c d = 0 ∧ a = c ∧ b = d) := by
 unfold pix
 split
 ·exact .inl ⟨rfl, by assumption⟩
 ·split
  ·exact .inr (.inl ⟨rfl, by assumption⟩)
  ·exact .inr (.inr ⟨rfl, by omega, by omega⟩)
theorem compare_int (a b : Int) : cmp_Compare_int.f a b = some (cmpI a b) := by
 unfold cmp_Compare_int.f cmp_isNaN_int.f cmpI
 simp only [bne_self_eq_false, Option.bind_some, Bool.false_eq_true, if_false, gt_iff_lt]
 split
 ·rfl
 ·split <;> rfl
theorem gcmp_eq (a b c d : Int) (k : Nat) (hk : 3 ≤ k) : grid_Cmp.f k a b c d = some (pix a b c d) := by
 unfold grid_Cmp.f
 rw [compare_int, compare_int, Option.bind_some, Option.bind_some, or_int _ _ k hk, Option.bind_some]
 congr 1
 unfold cmpI pix
 by_cases h1 : a < c
 ·rw [if_pos h1, if_neg (by decide), if_pos (.inl h1)]
 ·rw [if_neg h1]
  by_cases h2 : c < a
  ·rw [if_pos h2, if_neg (by decide), if_neg (by omega), if_pos (.inl h2)]
  ·rw [if_neg h2, if_pos rfl]
   by_cases h3 : b < d
   ·rw [if_pos h3, if_pos (.inr ⟨by omega, h3⟩)]
   ·rw [if_neg h3]
    by_cases h4 : d < b
    ·rw [if_pos h4, if_neg (by omega), if_pos (.inr ⟨by omega, h4⟩)]
    ·rw [if_neg h4, if_neg (by omega), if_neg (by omega)]
theorem less_eq (a b c d : Int) : cobweblaw03_GridOrders_1.f a b c d = some (decide (a < c ∨ (a = c ∧ b < d))) := by
 unfold cobweblaw03_GridOrders_1.f
 by_cases h1 : a < c
 ·rw [if_pos h1, decide_eq_true (.inl h1)]
 ·rw [if_neg h1]
  by_cases h2 : a = c
  ·rw [if_pos h2]
   congr 1
   exact decide_eq_decide.mpr ⟨fun h => .inr ⟨h2, h⟩, fun h => by omega⟩
  ·rw [if_neg h2, decide_eq_false (by omega)]
theorem GridOrders (a0_0 : Int) (a0_1 : Int) (a1_0 : Int) (a1_1 : Int) (a2_0 : Int) (a2_1 : Int) (w0_0 : IntKind.i64.has a0_0) (w0_1 : IntKind.i64.has a0_1) (w1_0 : IntKind.i64.has a1_0) (w1_1 : IntKind.i64.has a1_1) (w2_0 : IntKind.i64.has a2_0) (w2_1 : IntKind.i64.has a2_1) :
  ∃ k, cobweblaw03_GridOrders.f k a0_0 a0_1 a1_0 a1_1 a2_0 a2_1 = some true := by
 obtain ⟨k, hk⟩ : ∃ k : Nat, k = 1000 := ⟨_, rfl⟩
 refine ⟨k + 2, ?_⟩
 have al : cobweblaw03_alive.f k = some true := at_rounds cobweblaw03_alive.mono (show 1000 ≤ k by omega) alive3_at
 have ab := pix_cases a0_0 a0_1 a1_0 a1_1
 have ba := pix_cases a1_0 a1_1 a0_0 a0_1
 have bc := pix_cases a1_0 a1_1 a2_0 a2_1
 have ac := pix_cases a0_0 a0_1 a2_0 a2_1
 have last : ∀ v : Int, v = pix a0_0 a0_1 a1_0 a1_1 → cobweblaw03_GridOrders.j1 (k + 1) v a0_0 a0_1 a1_0 a1_1 a2_0 a2_1 = some true := by
  intro v hv
  simp only [cobweblaw03_GridOrders.j1]
  rw [gcmp_eq _ _ _ _ k (by omega), gcmp_eq _ _ _ _ k (by omega), gcmp_eq _ _ _ _ k (by omega), gcmp_eq _ _ _ _ k (by omega), al]
  simp only [Option.bind_some, if_true]
  rw [if_pos hv.symm, if_pos (by unfold wrap64; omega)]
  by_cases c1 : pix a0_0 a0_1 a1_0 a1_1 > 0
  ·rw [if_pos c1]
  ·rw [if_neg c1]
   by_cases c2 : pix a1_0 a1_1 a2_0 a2_1 > 0
   ·rw [if_pos c2]
   ·rw [if_neg c2, decide_eq_true (by omega)]
 have mid : ∀ v : Int, (v = if a0_0 < a1_0 ∨ (a0_0 = a1_0 ∧ a0_1 < a1_1) then -1 else 0) → cobweblaw03_GridOrders.j0 (k + 2) v a0_0 a0_1 a1_0 a1_1 a2_0 a2_1 = some true := by
  intro v hv
  simp only [cobweblaw03_GridOrders.j0]
  rw [less_eq, Option.bind_some]
  by_cases c : a1_0 < a0_0 ∨ (a1_0 = a0_0 ∧ a1_1 < a0_1)
  ·rw [if_pos (decide_eq_true c)]
   exact last 1 (by omega)
  ·rw [if_neg (by simpa using c)]
   refine last v ?_
   rw [hv]
   split <;> omega
 unfold cobweblaw03_GridOrders.f
 rw [less_eq, Option.bind_some]
 by_cases c : a0_0 < a1_0 ∨ (a0_0 = a1_0 ∧ a0_1 < a1_1)
 ·rw [if_pos (decide_eq_true c)]
  exact mid (-1) (by rw [if_pos c])
 ·rw [if_neg (by simpa using c)]
  exact mid 0 (by rw [if_neg c])
end Go.Proofs.Ytpjbniihdndlmab.Pure
