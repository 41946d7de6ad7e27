/- The plain law of WideScales: a number times a power of two is its product with that; the product of two numbers has the sign of both. -/
import Derived.Test.YtpjbniihdndlmaaM2
import Derived.Test.YtpjbniihdndlmaaAlive1
import Derived.Test.YtpjbniihdndlmaaQx46
namespace Go.Proofs.Ytpjbniihdndlmaa.Pure
open Go.RowKit Go.Proofs.Ytpjbniihdndlmaa.H Go.Proofs.Ytpjbniihdndlmaa.Q Go.Proofs.Ytpjbniihdndlmaa.M Go.Proofs.YtpjbniihdndlmaaW.PrintWords Go.Proofs.YtpjbniihdndlmaaW.PrintMore
theorem u8has {a : Int} (h : IntKind.u8.has a) : 0 ≤ a ∧ a ≤ 255 := by
  simpa [IntKind.has, IntKind.min, IntKind.max, IntKind.bits, IntKind.signed] using h
theorem pow_lt (n : Nat) (h : n ≤ 126) : (2 : Int) ^ n ≤ 85070591730234615865843651857942052864 := by
  have h1 : (2 : Int) ^ n * 2 ^ (126 - n) = 2 ^ 126 := by rw [← Int.pow_add, show n + (126 - n) = 126 by omega]
  have h2 : (2 : Int) ^ 126 = 85070591730234615865843651857942052864 := by simp
  have h3 := Int.mul_le_mul_of_nonneg_left (pow_pos2 (126 - n)) (show (0 : Int) ≤ 2 ^ n by have := pow_pos2 n; omega)
  omega
def sg (x : Int) : Int := if x < 0 then -1 else if x = 0 then 0 else 1
theorem sg_mul (x y : Int) : sg (x * y) = wrap64 (sg x * sg y) := by
  have h : sg (x * y) = sg x * sg y := by
    unfold sg
    rcases Int.lt_trichotomy x 0 with hx | hx | hx <;> rcases Int.lt_trichotomy y 0 with hy | hy | hy
    · have := Int.mul_pos_of_neg_of_neg hx hy
      rw [if_pos hx, if_pos hy, if_neg (by omega), if_neg (by omega)]; rfl
    · subst hy; simp
    · have := Int.mul_neg_of_neg_of_pos hx hy
      rw [if_pos hx, if_pos this, if_neg (by omega), if_neg (by omega)]; rfl
    · subst hx; simp
    · subst hx; simp
    · subst hx; simp
    · have := Int.mul_neg_of_pos_of_neg hx hy
      rw [if_pos hy, if_pos this, if_neg (by omega), if_neg (by omega)]; rfl
    · subst hy; simp
    · have := Int.mul_pos hx hy
      rw [if_neg (by omega), if_neg (by omega), if_neg (by omega), if_neg (by omega), if_neg (by omega), if_neg (by omega)]; rfl
  rw [h]
  unfold wrap64 sg
  repeat' split
  all_goals decide
theorem WideScales (a0_0 : Int) (a0_1 : Int) (a1_0 : Int) (a1_1 : Int) (a2 : Int) (w0_0 : IntKind.i64.has a0_0) (w0_1 : IntKind.u64.has a0_1) (w1_0 : IntKind.i64.has a1_0) (w1_1 : IntKind.u64.has a1_1) (w2 : IntKind.u8.has a2) : ∃ k, cobweblaw01_WideScales.f k a0_0 a0_1 a1_0 a1_1 a2 = some true := by
  obtain ⟨x, hx, rfl, rfl⟩ := of_words w0_0 w0_1
  obtain ⟨y, hy, rfl, rfl⟩ := of_words w1_0 w1_1
  have h2 := u8has w2
  refine ⟨1000, ?_⟩
  have al : cobweblaw01_alive.f 1000 = some true := alive1_at
  obtain ⟨n, hn, hn2⟩ : ∃ n : Nat, (n : Int) = Int.tmod (wrap64 a2) 127 ∧ n ≤ 126 := by
    refine ⟨(a2 % 127).toNat, ?_, by omega⟩
    rw [show wrap64 a2 = a2 by unfold wrap64; omega, Int.tmod_eq_emod_of_nonneg (by omega)]
    omega
  have p1 := pow_pos2 n
  have p2 := pow_lt n hn2
  have fp : Fit (1 * 2 ^ (n : Int).toNat) := by rw [Int.toNat_natCast, Int.one_mul]; unfold Fit; omega
  have fp' : Fit (2 ^ n) := by unfold Fit; omega
  unfold cobweblaw01_WideScales.f
  rw [← hn, of_eq 1 (by decide), Option.bind_some]
  dsimp only
  rw [shl_eq 1 n 1000 (by omega) (by decide) (by omega), if_neg (by omega), optI_pos fp, Option.bind_some]
  dsimp only
  rw [shl_eq x n 1000 (by omega) hx (by omega), if_neg (by omega), Option.bind_some, Int.toNat_natCast, Int.one_mul, mul_eq x _ hx fp' 1000 (by omega), Option.bind_some, mul_eq x y hx hy 1000 (by omega), Option.bind_some, mul_eq y x hy hx 1000 (by omega), Option.bind_some, Int.mul_comm y x, al, Option.bind_some]
  rw [if_pos rfl, if_pos (by simp), if_pos (by simp), if_pos (by simp), if_pos (by simp)]
  by_cases f : Fit (x * y)
  · rw [optI_pos f]
    dsimp only
    rw [if_pos rfl, sign_eq _ f, Option.bind_some, sign_eq x hx, Option.bind_some, sign_eq y hy, Option.bind_some]
    have := sg_mul x y
    unfold sg at this
    rw [this]; simp
  · rw [optI_neg f]
    rfl
end Go.Proofs.Ytpjbniihdndlmaa.Pure
