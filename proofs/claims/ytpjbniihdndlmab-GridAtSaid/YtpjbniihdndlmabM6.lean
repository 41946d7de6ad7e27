/- Fractions: whole part, order, the nearest multiple of a power of two. -/
import Derived.Test.YtpjbniihdndlmabM2
import Derived.Test.YtpjbniihdndlmabQx5
import Derived.Test.YtpjbniihdndlmabQx6
import Derived.Test.YtpjbniihdndlmabQx7
namespace Go.Proofs.Ytpjbniihdndlmab.M
open Go.RowKit Go.Proofs.Ytpjbniihdndlmab.H Go.Proofs.Ytpjbniihdndlmab.Q Go.Proofs.YtpjbniihdndlmabW.PrintWords Go.Proofs.YtpjbniihdndlmabW.PrintMore

theorem right_eq (n d : Int) (hd : Fit d) : frac_Right.f (eH n) (eL n) (eH d) (eL d) = some (decide (0 < d)) := by
  unfold frac_Right.f
  rw [sign_eq d hd, Option.bind_some]
  congr 1
  rw [decide_eq_decide]
  repeat' split
  all_goals omega
theorem fit_one : Fit 1 := by decide
theorem of_one : wide_Of.f 1 = some (eH 1, eL 1) := of_eq 1 (by omega)
theorem fit_div {n d : Int} (hn : Fit n) (hd : 0 < d) : Fit (n / d) := by
  unfold Fit at *
  have h1 : n / d ≤ 170141183460469231731687303715884105727 := by
    by_cases h : 0 ≤ n
    · have := Int.ediv_le_self d h; omega
    · have := Int.ediv_neg_of_neg_of_pos (a := n) (by omega) hd; omega
  have h2 : -170141183460469231731687303715884105728 ≤ n / d := by
    rw [Int.le_ediv_iff_mul_le hd]
    have : (170141183460469231731687303715884105728 : Int) * 1 ≤ 170141183460469231731687303715884105728 * d := Int.mul_le_mul_of_nonneg_left (by omega) (by omega)
    rw [Int.neg_mul]; omega
  omega
theorem fit_mod {n d : Int} (hd : Fit d) (h : 0 < d) : Fit (n % d) := by
  have h1 := Int.emod_nonneg n (show d ≠ 0 by omega)
  have h2 := Int.emod_lt_of_pos n h
  unfold Fit at *; omega
theorem floor_eq (n d : Int) (hn : Fit n) (hd : Fit d) (k : Nat) (hk : 302 ≤ k) :
    frac_Floor.f k (eH n) (eL n) (eH d) (eL d) = some (if 0 < d then (eH (n / d), eL (n / d)) else (0, 0)) := by
  unfold frac_Floor.f
  rw [Div_eq n d hn hd k hk, Option.bind_some]
  split <;> rfl
theorem up_eq (q r w : Int) (hq : Fit q) (hw : Fit w) (r0 : 0 ≤ r) (rw_ : r < w) (hf : w ≤ 2 * r → Fit (q + 1)) (k : Nat) (hk : 3 ≤ k) :
    frac_up.f k (eH q) (eL q) (eH r) (eL r) (eH w) (eL w) = some (eH (q + (if w ≤ 2 * r then 1 else 0)), eL (q + (if w ≤ 2 * r then 1 else 0))) := by
  have hr : Fit r := by unfold Fit at *; omega
  have hs : Fit (w - r) := by unfold Fit at *; omega
  unfold frac_up.f
  rw [sub_eq w r hw hr, Option.bind_some, optI_pos hs]
  dsimp only
  rw [cmp_eq r (w - r) k hk, Option.bind_some]
  by_cases c : w ≤ 2 * r
  · rw [if_pos (by unfold cmpI; repeat' split
                   all_goals omega), of_one, Option.bind_some]
    dsimp only
    rw [add_eq q 1 hq fit_one, Option.bind_some, optI_pos (hf c), if_pos c]
  · rw [if_neg (by unfold cmpI; rw [if_pos (by omega)]; omega), if_neg c, Int.add_zero]
/-- The nearest multiple, halves up. -/
def snapI (n d : Int) (k : Nat) : Int := (2 * n + d * 2 ^ k) / (2 * (d * 2 ^ k))
theorem round_div (m w : Int) (hw : 0 < w) : m / w + (if w ≤ 2 * (m % w) then 1 else 0) = (2 * m + w) / (2 * w) := by
  have e := ediv_split m w
  have h1 := Int.emod_nonneg m (show w ≠ 0 by omega)
  have h2 := Int.emod_lt_of_pos m hw
  generalize m / w = q at *
  generalize m % w = r at *
  symm
  split
  · exact (div_unique (n := 2 * m + w) (d := 2 * w) (q := q + 1) (r := 2 * r - w) (by rw [e, Int.add_mul, Int.mul_left_comm]; omega) (by omega) (by omega)).1
  · exact (div_unique (n := 2 * m + w) (d := 2 * w) (q := q + 0) (r := 2 * r + w) (by rw [e, Int.add_zero, Int.mul_left_comm]; omega) (by omega) (by omega)).1
theorem snapI_zero (n d : Int) : snapI n d 0 = (2 * n + d) / (2 * d) := by unfold snapI; simp
theorem snapI_succ (n d : Int) (hd : 0 < d) (j : Nat) : (2 * (n / d) + 2 ^ (j + 1)) / (2 * 2 ^ (j + 1)) = snapI n d (j + 1) := by
  have hp := pow_pos2 j
  unfold snapI
  rw [Int.pow_succ]
  generalize (2 : Int) ^ j = h at *
  rw [show 2 * (n / d) + h * 2 = 2 * (n / d + h) by omega, Int.mul_ediv_mul_of_pos _ _ (by omega)]
  rw [show n / d + h = (n + h * d) / d by rw [Int.add_mul_ediv_right _ _ (by omega)], Int.ediv_ediv_of_nonneg (by omega)]
  rw [show 2 * n + d * (h * 2) = 2 * (n + h * d) by rw [← Int.mul_assoc, Int.mul_comm d h]; omega, Int.mul_ediv_mul_of_pos _ _ (by omega)]
theorem fit_half {n w : Int} (hn : Fit n) (h : 2 ≤ w) : Fit (n / w + 1) := by
  unfold Fit at *
  have h1 : n / w ≤ 85070591730234615865843651857942052864 := by
    by_cases c : 0 ≤ n
    · have : n / w ≤ n / 2 := by
        rw [Int.le_ediv_iff_mul_le (by omega)]
        have e := Int.ediv_mul_le n (show w ≠ 0 by omega)
        have f := Int.ediv_nonneg c (show 0 ≤ w by omega)
        have := Int.mul_le_mul_of_nonneg_left h f
        omega
      omega
    · have := Int.ediv_neg_of_neg_of_pos (a := n) (b := w) (by omega) (by omega); omega
  have h2 := (fit_div (n := n) (d := w) (by unfold Fit; omega) (by omega))
  unfold Fit at h2
  omega
theorem pow_le (i j : Nat) (h : i ≤ j) : (2 : Int) ^ i ≤ 2 ^ j := by
  obtain ⟨t, rfl⟩ : ∃ t, j = i + t := ⟨j - i, by omega⟩
  rw [Int.pow_add]
  have := Int.mul_le_mul_of_nonneg_left (pow_pos2 t) (show (0 : Int) ≤ 2 ^ i by have := pow_pos2 i; omega)
  omega
theorem pow_fit (j : Nat) (h : j ≤ 126) : Fit (2 ^ j) ∧ (1 : Int) ≤ 2 ^ j := by
  have hp := pow_pos2 j
  have : (2 : Int) ^ j ≤ 2 ^ 126 := pow_le _ _ h
  rw [show (2 : Int) ^ 126 = 85070591730234615865843651857942052864 by simp] at this
  unfold Fit; omega
/-- A number of a fraction is not rounded past its words. -/
theorem snap_fit (n d : Int) (hn : Fit n) (hd : 0 < d) (k : Nat) : Fit (snapI n d k) := by
  cases k with
  | zero =>
    rw [snapI_zero, ← round_div n d hd]
    split
    · have h1 := Int.emod_lt_of_pos n hd
      exact fit_half hn (by
        by_cases c : d = 1
        · subst c; omega
        · omega)
    · rw [Int.add_zero]; exact fit_div hn hd
  | succ j =>
    have hp := pow_pos2 j
    rw [← snapI_succ n d hd j, ← round_div (n / d) (2 ^ (j + 1)) (by rw [Int.pow_succ]; omega)]
    split
    · exact fit_half (fit_div hn hd) (by rw [Int.pow_succ]; omega)
    · rw [Int.add_zero]; exact fit_div (fit_div hn hd) (by rw [Int.pow_succ]; omega)
theorem snap_eq (n d k : Int) (hn : Fit n) (hd : Fit d) (f : Nat) (hf : 400 ≤ f) :
    frac_Snap.f f (eH n) (eL n) (eH d) (eL d) k = some (if 0 < d ∧ 0 ≤ k ∧ k ≤ 100 then (eH (snapI n d k.toNat), eL (snapI n d k.toNat), true) else (0, 0, false)) := by
  obtain ⟨f, rfl⟩ : ∃ m, f = m + 1 := ⟨f - 1, by omega⟩
  have bad : ∀ x y z w : Int, frac_Snap.j0 (f + 1) k true x y z w = some (0, 0, false) := fun x y z w => by simp only [frac_Snap.j0]; rfl
  unfold frac_Snap.f
  rw [right_eq n d hd, Option.bind_some]
  by_cases c : 0 < d
  · rw [if_pos (decide_eq_true c)]
    by_cases c1 : k < 0
    · rw [if_pos c1, bad, if_neg (by omega)]
    · rw [if_neg c1]
      by_cases c2 : k > 100
      · rw [decide_eq_true c2, bad, if_neg (by omega)]
      · rw [decide_eq_false c2, if_pos (by omega)]
        simp only [frac_Snap.j0, Bool.false_eq_true, if_false]
        by_cases c3 : k = 0
        · rw [if_pos c3, Div_eq n d hn hd f (by omega), Option.bind_some, if_pos c]
          dsimp only
          subst c3
          have sf := snap_fit n d hn c 0
          rw [show (0 : Int).toNat = 0 from rfl, snapI_zero, ← round_div n d c] at *
          rw [up_eq (n / d) (n % d) d (fit_div hn c) hd (Int.emod_nonneg _ (by omega)) (Int.emod_lt_of_pos _ c) (fun h => by rw [if_pos h] at sf; exact sf) f (by omega), Option.bind_some]
        · rw [if_neg c3, of_one, Option.bind_some]
          obtain ⟨j, hj⟩ : ∃ j, k.toNat = j + 1 := ⟨k.toNat - 1, by omega⟩
          have pf := pow_fit (j + 1) (by omega)
          have p2 : (2 : Int) ≤ 2 ^ (j + 1) := by have := pow_pos2 j; rw [Int.pow_succ]; omega
          rw [shl_eq 1 k f (by omega) fit_one (by omega), Option.bind_some, if_neg c1, hj, Int.one_mul, optI_pos pf.1, floor_eq n d hn hd f (by omega), Option.bind_some, if_pos c]
          dsimp only
          rw [Div_eq (n / d) (2 ^ (j + 1)) (fit_div hn c) pf.1 f (by omega), Option.bind_some, if_pos (by omega)]
          dsimp only
          have sf := snap_fit n d hn c (j + 1)
          rw [← snapI_succ n d c j, ← round_div (n / d) (2 ^ (j + 1)) (by omega)] at *
          rw [up_eq _ _ _ (fit_div (fit_div hn c) (by omega)) pf.1 (Int.emod_nonneg _ (by omega)) (Int.emod_lt_of_pos _ (by omega)) (fun h => by rw [if_pos h] at sf; exact sf) f (by omega), Option.bind_some]
  · rw [if_neg (by simpa using c), bad, if_neg (by omega)]

theorem cmpI_pos {x y : Int} (h : y < x) : cmpI x y = 1 := by unfold cmpI; rw [if_neg (by omega), if_pos h]
theorem cmpI_neg {x y : Int} (h : x < y) : cmpI x y = -1 := by unfold cmpI; rw [if_pos h]
theorem frac_of_eq (n : Int) (h : -9223372036854775808 ≤ n ∧ n ≤ 9223372036854775807) : frac_Of.f n = some (eH n, eL n, eH 1, eL 1) := by
  unfold frac_Of.f
  rw [of_eq n h, Option.bind_some, of_one, Option.bind_some]
/-- Of two fractions the greater one snaps to no lesser number. -/
theorem div_mono {a b c d : Int} (hb : 0 < b) (hd : 0 < d) (h : a * d ≤ c * b) : a / b ≤ c / d := by
  rw [Int.le_ediv_iff_mul_le hd]
  have e := Int.ediv_mul_le a (show b ≠ 0 by omega)
  have e2 := Int.mul_le_mul_of_nonneg_right e (show 0 ≤ d by omega)
  have e3 : a / b * d * b ≤ c * b := by rw [Int.mul_right_comm]; omega
  exact Int.le_of_mul_le_mul_right e3 hb
theorem snap_mono {n1 d1 n2 d2 : Int} (p1 : 0 < d1) (p2 : 0 < d2) (h : n1 * d2 ≤ n2 * d1) (k : Nat) : snapI n1 d1 k ≤ snapI n2 d2 k := by
  unfold snapI
  have hp := pow_pos2 k
  generalize (2 : Int) ^ k = K at *
  have q1 := Int.mul_pos p1 (show 0 < K by omega)
  have q2 := Int.mul_pos p2 (show 0 < K by omega)
  apply div_mono (by omega) (by omega)
  have hK := Int.mul_le_mul_of_nonneg_right h (show 0 ≤ K by omega)
  have a1 : n1 * (d2 * K) ≤ n2 * (d1 * K) := by rw [← Int.mul_assoc, ← Int.mul_assoc]; exact hK
  generalize d1 * K = A at *
  generalize d2 * K = B at *
  have e1 : (2 * n1 + A) * (2 * B) = 4 * (n1 * B) + 2 * (A * B) := by rw [Int.add_mul, Int.mul_assoc, Int.mul_left_comm n1 2, Int.mul_left_comm A 2]; omega
  have e2 : (2 * n2 + B) * (2 * A) = 4 * (n2 * A) + 2 * (A * B) := by rw [Int.add_mul, Int.mul_assoc, Int.mul_left_comm n2 2, Int.mul_left_comm B 2, Int.mul_comm B A]; omega
  rw [e1, e2]
  omega
theorem snap_scale (n d b : Int) (hb : 0 < b) (k : Nat) : snapI (n * b) (d * b) k = snapI n d k := by
  unfold snapI
  generalize (2 : Int) ^ k = K
  rw [show 2 * (n * b) + d * b * K = b * (2 * n + d * K) by rw [Int.mul_add, Int.mul_left_comm b 2 n, Int.mul_comm b n, Int.mul_right_comm d b K, Int.mul_comm b (d * K)],
    show 2 * (d * b * K) = b * (2 * (d * K)) by rw [Int.mul_left_comm b 2, Int.mul_right_comm d b K, Int.mul_comm b (d * K)]]
  exact Int.mul_ediv_mul_of_pos _ _ hb
theorem snap_whole (n : Int) (k : Nat) : snapI (n * 2 ^ k) 1 k = n := by
  unfold snapI
  have hp := pow_pos2 k
  generalize (2 : Int) ^ k = K at *
  exact (div_unique (r := K) (by rw [Int.one_mul, Int.mul_left_comm]) (by omega) (by omega)).1
end Go.Proofs.Ytpjbniihdndlmab.M
