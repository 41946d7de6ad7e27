/- Pixels: rungs, the nearest multiple, which are not too far, centers and corners. -/
import Derived.Test.YtpjbniihdndlmabM6
import Derived.Test.YtpjbniihdndlmabM1s
import Derived.Test.YtpjbniihdndlmabQx22
namespace Go.Proofs.Ytpjbniihdndlmab.M
open Go.RowKit Go.Proofs.Ytpjbniihdndlmab.H Go.Proofs.Ytpjbniihdndlmab.Q Go.Proofs.YtpjbniihdndlmabW.PrintWords Go.Proofs.YtpjbniihdndlmabW.PrintMore
set_option linter.unusedVariables false

theorem and1_i64 {a : Int} (h : -9223372036854775808 ≤ a ∧ a ≤ 9223372036854775807) : Go.bits .and .i64 a 1 = a % 2 := by
 have e : ∀ b : BitVec 64, b.toInt = a → IntKind.i64.wrap ((b &&& BitVec.ofInt 64 1).toNat : Int) = a % 2 := by
  intro b hb
  have h1 : (BitVec.ofInt 64 1).toNat = 1 := by decide
  rw [BitVec.toNat_and, h1, show b.toNat &&& 1 = b.toNat % 2 from Nat.and_two_pow_sub_one_eq_mod b.toNat 1]
  have h2 := b.isLt
  have h3 : (b.toInt : Int) = if 2 * b.toNat < 2 ^ 64 then (b.toNat : Int) else (b.toNat : Int) - (2 ^ 64 : Nat) := BitVec.toInt_eq_toNat_cond b
  rw [hb] at h3
  simp only [IntKind.wrap, IntKind.bits, IntKind.signed]
  split at h3 <;> simp <;> omega
 refine e (BitVec.ofInt 64 a) ?_
 rw [BitVec.toInt_ofInt]
 unfold Int.bmod
 dsimp only
 split <;> omega
theorem rung_eq (k : Int) : grid_rung.f k = some (rungN k) := by
 unfold grid_rung.f mn mx rungN
 congr 1
 repeat' split
 all_goals omega
theorem rung_nat (k : Int) : ∃ j : Nat, rungN k = j ∧ j ≤ 28 := ⟨(rungN k).toNat, by have := rungN_lo k; omega, by have := rungN_hi k; omega⟩
def I64 (v : Int) : Prop := -9223372036854775808 ≤ v ∧ v ≤ 9223372036854775807
/-- The nearest multiple, halves up. -/
def snapG (v : Int) (j : Nat) : Int := (2 * v + 2 ^ j) / (2 * 2 ^ j)
theorem snapG_snapI (v : Int) (j : Nat) : snapI v 1 j = snapG v j := by unfold snapI snapG; rw [Int.one_mul]
theorem snapG_zero (v : Int) : snapG v 0 = v := by unfold snapG; omega
theorem p28 {j : Nat} (h : j ≤ 28) : (1 : Int) ≤ 2 ^ j ∧ (2 : Int) ^ j ≤ 268435456 := by
 have := pow_le j 28 h
 rw [show (2 : Int) ^ 28 = 268435456 by simp] at this
 exact ⟨pow_pos2 j, this⟩
theorem snapG_bounds (v : Int) (j : Nat) : 2 * 2 ^ j * snapG v j ≤ 2 * v + 2 ^ j ∧ 2 * v + 2 ^ j < 2 * 2 ^ j * snapG v j + 2 * 2 ^ j := by
 have hp := pow_pos2 j
 unfold snapG
 generalize (2 : Int) ^ j = K at *
 have e := Int.mul_ediv_add_emod (2 * v + K) (2 * K)
 have r1 := Int.emod_nonneg (2 * v + K) (show 2 * K ≠ 0 by omega)
 have r2 := Int.emod_lt_of_pos (2 * v + K) (show 0 < 2 * K by omega)
 omega
theorem snapG_i64 {v : Int} (h : I64 v) (j : Nat) : I64 (snapG v j) := by
 have b := snapG_bounds v j
 have hp := pow_pos2 j
 generalize (2 : Int) ^ j = K at *
 generalize snapG v j = s at *
 unfold I64 at *
 constructor
 ·apply Int.not_lt.mp
  intro c
  have m : K * (s + 1) ≤ K * (-9223372036854775808) := Int.mul_le_mul_of_nonneg_left (by omega) (by omega)
  rw [Int.mul_add] at m
  rw [Int.mul_assoc] at b
  have : K * 9223372036854775808 ≥ 1 * 9223372036854775808 := Int.mul_le_mul_of_nonneg_right hp (by omega)
  omega
 ·apply Int.not_lt.mp
  intro c
  have m : K * 9223372036854775808 ≤ K * s := Int.mul_le_mul_of_nonneg_left (by omega) (by omega)
  rw [Int.mul_assoc] at b
  have : 1 * 9223372036854775807 ≤ K * 9223372036854775807 := Int.mul_le_mul_of_nonneg_right hp (by omega)
  omega
theorem shr64 (v : Int) (j : Nat) (h : j ≤ 64) : shr .i64 v (j : Int) = v / 2 ^ j := by
 unfold shr
 rw [Int.toNat_natCast, Nat.min_eq_left (show j ≤ IntKind.i64.bits from h)]
theorem gsnap_eq (v k : Int) (j : Nat) (hj : rungN k = j) (hv : I64 v) : grid_Snap.f v k = some (snapG v j) := by
 have h28 := rungN_hi k
 have si := snapG_i64 hv j
 unfold grid_Snap.f
 rw [rung_eq, Option.bind_some, hj]
 cases j with
 | zero => rw [if_pos (show ((0 : Nat) : Int) = 0 from rfl), snapG_zero]
 | succ i =>
  rw [if_neg (by omega), if_pos (by omega), show wrap64 ((i + 1 : Nat) - 1 : Int) = (i : Int) by unfold wrap64; omega, if_pos (by omega), shr64 v (i + 1) (by omega), shr64 v i (by omega)]
  congr 1
  have hp := pow_pos2 i
  have e1 : v / 2 ^ (i + 1) = v / 2 ^ i / 2 := by rw [Int.pow_succ, Int.ediv_ediv_of_nonneg (by omega)]
  have e2 : snapG v (i + 1) = (v / 2 ^ i + 1) / 2 := by
   unfold snapG
   rw [Int.pow_succ]
   generalize (2 : Int) ^ i = H at *
   rw [show 2 * v + H * 2 = 2 * (v + H) by omega, Int.mul_ediv_mul_of_pos _ _ (by omega), ← Int.ediv_ediv_of_nonneg (by omega)]
   congr 1
   have := Int.add_mul_ediv_right v 1 (show H ≠ 0 by omega)
   rw [Int.one_mul] at this
   exact this
  have b : -9223372036854775808 ≤ v / 2 ^ i ∧ v / 2 ^ i ≤ 9223372036854775807 := by
   have := ediv_split v (2 ^ i)
   have q1 : v / 2 ^ i ≤ 9223372036854775807 := by
    by_cases c : 0 ≤ v
    ·have := Int.ediv_le_self (2 ^ i) c; unfold I64 at hv; omega
    ·have := Int.ediv_neg_of_neg_of_pos (a := v) (b := 2 ^ i) (by omega) (by omega); omega
   refine ⟨?_, q1⟩
   rw [Int.le_ediv_iff_mul_le (by omega)]
   have : (9223372036854775808 : Int) * 1 ≤ 9223372036854775808 * 2 ^ i := Int.mul_le_mul_of_nonneg_left hp (by omega)
   rw [Int.neg_mul]
   unfold I64 at hv
   omega
  rw [and1_i64 b, e1, e2]
  unfold wrap64
  omega
theorem gof_eq (x y k : Int) (j : Nat) (hj : rungN k = j) (hx : I64 x) (hy : I64 y) : grid_Of.f x y k = some (snapG x j, snapG y j) := by
 unfold grid_Of.f
 rw [gsnap_eq x k j hj hx, Option.bind_some, gsnap_eq y k j hj hy, Option.bind_some]
theorem far_split {j : Nat} (h : j ≤ 28) : ∃ F : Int, 134217728 / 2 ^ j = F ∧ 0 ≤ F ∧ F * 2 ^ j ≤ 134217728 ∧ 134217728 < F * 2 ^ j + 2 ^ j := by
 have hp := p28 h
 refine ⟨_, rfl, Int.ediv_nonneg (by omega) (by omega), Int.ediv_mul_le _ (by omega), ?_⟩
 have := Int.lt_ediv_add_one_mul_self 134217728 (show (0 : Int) < 2 ^ j by omega)
 rw [Int.add_mul] at this
 omega
theorem near_iff (n k : Int) (j : Nat) (hj : rungN k = j) : nearN n k = decide (-134217728 ≤ n * 2 ^ j ∧ n * 2 ^ j ≤ 134217728) := by
 have h28 := rungN_hi k
 obtain ⟨F, hF, f0, f1, f2⟩ := far_split (show j ≤ 28 by omega)
 have hp := p28 (show j ≤ 28 by omega)
 unfold nearN farN
 rw [hj, Int.toNat_natCast, hF, ← Bool.decide_and, decide_eq_decide]
 generalize (2 : Int) ^ j = K at *
 constructor
 ·rintro ⟨a, b⟩
  have a' := Int.mul_le_mul_of_nonneg_right a (show 0 ≤ K by omega)
  have b' := Int.mul_le_mul_of_nonneg_right b (show 0 ≤ K by omega)
  rw [Int.neg_mul] at a'
  omega
 ·rintro ⟨a, b⟩
  constructor
  ·apply Int.not_lt.mp
   intro c
   have := Int.mul_le_mul_of_nonneg_right (show n + 1 ≤ -F by omega) (show 0 ≤ K by omega)
   rw [Int.add_mul, Int.neg_mul] at this
   omega
  ·apply Int.not_lt.mp
   intro c
   have := Int.mul_le_mul_of_nonneg_right (show F + 1 ≤ n by omega) (show 0 ≤ K by omega)
   rw [Int.add_mul] at this
   omega
/-- Both not too far. -/
def inG (x y : Int) (j : Nat) : Prop := (-134217728 ≤ x * 2 ^ j ∧ x * 2 ^ j ≤ 134217728) ∧ -134217728 ≤ y * 2 ^ j ∧ y * 2 ^ j ≤ 134217728
instance (x y : Int) (j : Nat) : Decidable (inG x y j) := by unfold inG; infer_instance
theorem gin_eq (x y k : Int) (j : Nat) (hj : rungN k = j) : grid_In.f x y k = some (decide (inG x y j)) := by
 unfold grid_In.f
 rw [near_iff x k j hj, near_iff y k j hj, ← Bool.decide_and]
 rfl
theorem shl64 (v : Int) (j : Nat) (h : j ≤ 64) : shl .i64 v (j : Int) = wrap64 (v * 2 ^ j) := by
 unfold shl
 rw [Int.toNat_natCast, Nat.min_eq_left (show j ≤ IntKind.i64.bits from h)]
 unfold wrap64
 simp [IntKind.wrap, IntKind.bits, IntKind.signed]
 split <;> omega
theorem wid {v : Int} (h : -9223372036854775808 ≤ v ∧ v ≤ 9223372036854775807) : wrap64 v = v := by unfold wrap64; omega
theorem center_eq (x y k : Int) (j : Nat) (hj : rungN k = j) : grid_Center.f x y k = some (if inG x y j then (x * 2 ^ j, y * 2 ^ j) else (0, 0)) := by
 have h28 := rungN_hi k
 unfold grid_Center.f
 rw [gin_eq x y k j hj, Option.bind_some]
 by_cases c : inG x y j
 ·have c' := c
  unfold inG at c'
  rw [if_pos (decide_eq_true c), rung_eq, Option.bind_some, hj, if_pos (by omega), Option.bind_some, if_pos (by omega), if_pos c, shl64 x j (by omega), shl64 y j (by omega), wid (by omega), wid (by omega)]
 ·rw [if_neg (by simpa using c), if_neg c]
theorem sides_eq (x y k : Int) (j : Nat) (hj : rungN k = j) : grid_Sides.f x y k = some (if inG x y j then (2 * (x * 2 ^ j) - 2 ^ j, 2 * (y * 2 ^ j) - 2 ^ j, 2 * (x * 2 ^ j) + 2 ^ j, 2 * (y * 2 ^ j) + 2 ^ j) else (0, 0, 0, 0)) := by
 have h28 := rungN_hi k
 unfold grid_Sides.f
 rw [gin_eq x y k j hj, Option.bind_some]
 by_cases c : inG x y j
 ·have c' := c
  unfold inG at c'
  have hp := p28 (show j ≤ 28 by omega)
  rw [if_pos (decide_eq_true c), center_eq x y k j hj, Option.bind_some, rung_eq, Option.bind_some, hj, if_pos (by omega), if_pos c, if_pos c]
  dsimp only
  rw [shl64 1 j (by omega), Int.one_mul, wid (v := 2 ^ j) (by omega), wid (v := 2 * (x * 2 ^ j)) (by omega), wid (v := 2 * (y * 2 ^ j)) (by omega)]
  rw [wid (by omega), wid (by omega), wid (by omega), wid (by omega)]
 ·rw [if_neg (by simpa using c), if_neg c]
/-- A whole number that is not too far, or one that is. -/
def smallG (v : Int) : Int := if -134217728 ≤ v ∧ v ≤ 134217728 then v else 134217729
theorem gsmall_eq (v : Int) : grid_small.f (eH v) (eL v) = some (smallG v) := by
 unfold grid_small.f smallG
 rw [small_eq v, Option.bind_some]
 by_cases c : -9223372036854775808 ≤ v ∧ v ≤ 9223372036854775807
 ·rw [if_pos c]
  dsimp only
  rw [if_pos rfl]
  repeat' split
  all_goals first | rfl | omega
 ·rw [if_neg c, if_neg (by decide), if_neg (by omega)]
/-- A pixel that is not too far, by its two numbers. -/
theorem gat_eq (n1 d1 n2 d2 k : Int) (j : Nat) (hj : rungN k = j) (f1 : Fit n1) (f2 : Fit d1) (f3 : Fit n2) (f4 : Fit d2) (f : Nat) (hf : 402 ≤ f) :
  grid_At.f f (eH n1) (eL n1) (eH d1) (eL d1) (eH n2) (eL n2) (eH d2) (eL d2) k =
   some (if (0 < d1 ∧ 0 < d2) ∧ inG (smallG (snapI n1 d1 j)) (smallG (snapI n2 d2 j)) j then (smallG (snapI n1 d1 j), smallG (snapI n2 d2 j), true) else (0, 0, false)) := by
 have h28 := rungN_hi k
 obtain ⟨f, rfl⟩ : ∃ m, f = m + 1 := ⟨f - 1, by omega⟩
 have bad : ∀ a b : Int, grid_At.j0 (f + 1) true a b = some (0, 0, false) := fun a b => by simp only [grid_At.j0]; rfl
 have z : ∃ s, grid_small.f 0 0 = some s := ⟨_, gsmall_eq 0⟩
 obtain ⟨s, z⟩ := z
 unfold grid_At.f
 rw [rung_eq, Option.bind_some, hj, snap_eq n1 d1 j f1 f2 (f + 1) (by omega), Option.bind_some, snap_eq n2 d2 j f3 f4 (f + 1) (by omega), Option.bind_some, Int.toNat_natCast]
 by_cases c1 : 0 < d1
 ·rw [if_pos (show 0 < d1 ∧ 0 ≤ (j : Int) ∧ (j : Int) ≤ 100 by omega)]
  dsimp only
  rw [gsmall_eq, Option.bind_some]
  by_cases c2 : 0 < d2
  ·rw [if_pos (show 0 < d2 ∧ 0 ≤ (j : Int) ∧ (j : Int) ≤ 100 by omega)]
   dsimp only
   have hj2 : rungN (j : Int) = (j : Int) := by unfold rungN; rw [if_neg (by omega), if_neg (by omega)]
   rw [gsmall_eq, Option.bind_some, if_pos rfl, if_pos rfl, gin_eq _ _ _ j hj2, Option.bind_some]
   by_cases c3 : inG (smallG (snapI n1 d1 j)) (smallG (snapI n2 d2 j)) j
   ·rw [decide_eq_true c3, if_pos ⟨⟨c1, c2⟩, c3⟩]
    simp only [grid_At.j0, Bool.not_true, Bool.false_eq_true, if_false]
   ·rw [decide_eq_false c3, if_neg (show ¬ ((0 < d1 ∧ 0 < d2) ∧ inG (smallG (snapI n1 d1 j)) (smallG (snapI n2 d2 j)) j) from fun h => c3 h.2)]
    exact bad _ _
  ·rw [if_neg (show ¬ (0 < d2 ∧ 0 ≤ (j : Int) ∧ (j : Int) ≤ 100) by omega)]
   dsimp only
   rw [z, Option.bind_some, if_pos rfl, if_neg (by decide), bad, if_neg (show ¬ ((0 < d1 ∧ 0 < d2) ∧ inG (smallG (snapI n1 d1 j)) (smallG (snapI n2 d2 j)) j) from fun h => c2 h.1.2)]
 ·rw [if_neg (show ¬ (0 < d1 ∧ 0 ≤ (j : Int) ∧ (j : Int) ≤ 100) by omega)]
  dsimp only
  rw [z, Option.bind_some]
  rw [if_neg (show ¬ ((0 < d1 ∧ 0 < d2) ∧ inG (smallG (snapI n1 d1 j)) (smallG (snapI n2 d2 j)) j) from fun h => c1 h.1.1)]
  have z2 : ∃ s, grid_small.f (if 0 < d2 ∧ 0 ≤ (j : Int) ∧ (j : Int) ≤ 100 then (eH (snapI n2 d2 j), eL (snapI n2 d2 j), true) else (0, 0, false)).1 (if 0 < d2 ∧ 0 ≤ (j : Int) ∧ (j : Int) ≤ 100 then (eH (snapI n2 d2 j), eL (snapI n2 d2 j), true) else (0, 0, false)).2.1 = some s := by
   split
   ·exact ⟨_, gsmall_eq _⟩
   ·exact ⟨s, z⟩
  obtain ⟨s2, z2⟩ := z2
  rw [z2, Option.bind_some, if_neg (by decide)]
  exact bad _ _
end Go.Proofs.Ytpjbniihdndlmab.M
