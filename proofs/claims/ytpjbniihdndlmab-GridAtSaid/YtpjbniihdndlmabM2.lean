/- Numbers of two words: the functions of wide with a loop (but Text). -/
import Derived.Test.YtpjbniihdndlmabM1
import Derived.Test.YtpjbniihdndlmabQx5
import Derived.Test.YtpjbniihdndlmabQx6
namespace Go.Proofs.Ytpjbniihdndlmab.M
open Go.RowKit Go.Proofs.Ytpjbniihdndlmab.H Go.Proofs.Ytpjbniihdndlmab.Q Go.Proofs.YtpjbniihdndlmabW.PrintWords Go.Proofs.YtpjbniihdndlmabW.PrintMore

def cmpI (x y : Int) : Int := if x < y then -1 else if y < x then 1 else 0

theorem or_int (a b : Int) (k : Nat) (hk : 3 ≤ k) : cmp_Or_int.f k [a, b] = some (if a = 0 then b else a) := by
  obtain ⟨m, rfl⟩ : ∃ m, k = m + 3 := ⟨k - 3, by omega⟩
  unfold cmp_Or_int.f
  have w1 : wrap64 (0 + 1) = 1 := by unfold wrap64; omega
  have w2 : wrap64 (1 + 1) = 2 := by unfold wrap64; omega
  have r0 : rd [a, b] 0 = a := rfl
  have r1 : rd [a, b] 1 = b := rfl
  simp only [cmp_Or_int.l0, List.length_cons, List.length_nil, r0, w1, r1, w2]
  by_cases ha : a = 0
  · by_cases hb : b = 0
    · simp [ha, hb]
    · simp [ha, hb]
  · simp [ha]

theorem compare_i64 (a b : Int) : cmp_Compare_int64.f a b = some (cmpI a b) := by
  unfold cmp_Compare_int64.f cmp_isNaN_int64.f cmpI
  simp only [bne_self_eq_false, Option.bind_some, Bool.false_eq_true, if_false, gt_iff_lt]
  split
  · rfl
  · split <;> rfl
theorem compare_u64 (a b : Int) : cmp_Compare_uint64.f a b = some (cmpI a b) := by
  unfold cmp_Compare_uint64.f cmp_isNaN_uint64.f cmpI
  simp only [bne_self_eq_false, Option.bind_some, Bool.false_eq_true, if_false, gt_iff_lt]
  split
  · rfl
  · split <;> rfl

theorem cmp_eq (x y : Int) (k : Nat) (hk : 3 ≤ k) : wide_Cmp.f k (eH x) (eL x) (eH y) (eL y) = some (cmpI x y) := by
  unfold wide_Cmp.f
  rw [compare_i64, compare_u64]
  simp only [Option.bind_some, or_int _ _ k hk]
  unfold cmpI eH eL
  congr 1
  repeat' split
  all_goals omega

theorem or_bit {a b : Int} (ha : Wd a) (he : a % 2 = 0) (hb0 : 0 ≤ b) (hb : b ≤ 1) : Go.bits .or .u64 a b = a + b := by
  unfold Wd at ha
  rw [u64_or _ _ ha.1 ha.2 hb0 (by omega), nat_join 1 _ _ (by omega) (by omega)]
  omega
theorem and_one {a : Int} (ha : Wd a) : Go.bits .and .u64 a 1 = a % 2 := by
  unfold Wd at ha
  rw [u64_and _ _ ha.1 ha.2 (by decide) (by decide)]
  have : a.toNat &&& (1 : Int).toNat = a.toNat % 2 := nat_mask1 a.toNat
  rw [this]; omega

/-- A number of two words, moved by one place. -/
theorem up_hi (v : Int) :
    Go.bits .or .u64 (IntKind.u64.wrap (v / 18446744073709551616 * 2)) (v % 18446744073709551616 / 9223372036854775808) = 2 * v / 18446744073709551616 % 18446744073709551616 := by
  rw [wu64, or_bit (by unfold Wd; omega) (by omega) (by omega) (by omega)]
  omega
theorem up_lo (v b : Int) (b0 : 0 ≤ b) (b1 : b ≤ 1) :
    Go.bits .or .u64 (IntKind.u64.wrap (v % 18446744073709551616 * 2)) b = (2 * v + b) % 18446744073709551616 := by
  rw [wu64, or_bit (by unfold Wd; omega) (by omega) b0 b1]
  omega
theorem up_lo0 (v : Int) : IntKind.u64.wrap (v % 18446744073709551616 * 2) = 2 * v % 18446744073709551616 := by rw [wu64]; omega

theorem pow_pos2 (n : Nat) : (1 : Int) ≤ 2 ^ n := by
  have : (0 : Int) < 2 ^ n := Int.pow_pos (by decide)
  omega

theorem p128 : (2 : Int) ^ 128 = 340282366920938463463374607431768211456 := by simp
theorem eta3 (o : Option (Int × Int × Bool)) : (o.bind fun b => some (b.1, b.2.1, b.2.2)) = o := by cases o <;> rfl

theorem shl_loop (a0 a1 b : Int) (hb : b ≤ 127) (n : Nat) : ∀ (k : Nat) (u i : Int), n < k → 0 ≤ u → u < 340282366920938463463374607431768211456 → 0 ≤ i → i + n = b →
    wide_Shl.l0 k (u / 18446744073709551616) (u % 18446744073709551616) b i a0 a1 = some (optI (if decide (a0 < 0) = true then -(u * 2 ^ n) else u * 2 ^ n)) := by
  induction n with
  | zero =>
    intro k u i hk h0 h1 hi hin
    obtain ⟨k, rfl⟩ : ∃ m, k = m + 1 := ⟨k - 1, by omega⟩
    simp only [wide_Shl.l0]
    rw [if_neg (by omega), eta3, signed_eq u h0 h1]
    simp
  | succ n ih =>
    intro k u i hk h0 h1 hi hin
    obtain ⟨k, rfl⟩ : ∃ m, k = m + 1 := ⟨k - 1, by omega⟩
    simp only [wide_Shl.l0]
    rw [if_pos (by omega)]
    have hp := pow_pos2 n
    by_cases c : u / 18446744073709551616 / 9223372036854775808 = 0
    · rw [if_pos c]
      have e1 := up_hi u
      rw [show 2 * u / 18446744073709551616 % 18446744073709551616 = 2 * u / 18446744073709551616 by omega] at e1
      rw [e1, up_lo0, show wrap64 (i + 1) = i + 1 by unfold wrap64; omega, ih k (2 * u) (i + 1) (by omega) (by omega) (by omega) (by omega) (by omega)]
      rw [show 2 * u * 2 ^ n = u * 2 ^ (n + 1) by rw [Int.pow_succ, Int.mul_comm 2 u, Int.mul_assoc, Int.mul_comm 2 (2 ^ n)]]
    · rw [if_neg c, optI_neg]
      have big : 340282366920938463463374607431768211456 ≤ u * 2 ^ (n + 1) := by
        rw [Int.pow_succ, show u * (2 ^ n * 2) = 2 * u * 2 ^ n by rw [Int.mul_comm (2 ^ n) 2, ← Int.mul_assoc, Int.mul_comm u 2]]
        have := Int.mul_le_mul (show 340282366920938463463374607431768211456 ≤ 2 * u by omega) hp (by decide) (by omega)
        omega
      unfold Fit; split <;> omega

theorem shl_eq (x k : Int) (f : Nat) (hf : 200 ≤ f) (hx : Fit x) (hk : -9223372036854775808 ≤ k ∧ k ≤ 9223372036854775807) :
    wide_Shl.f f (eH x) (eL x) k = some (if k < 0 then (0, 0, false) else optI (x * 2 ^ k.toNat)) := by
  obtain ⟨f, rfl⟩ : ∃ m, f = m + 1 := ⟨f - 1, by omega⟩
  unfold wide_Shl.f
  rw [size_eq x hx, Option.bind_some]
  dsimp only
  by_cases c : k < 0
  · rw [if_pos c, if_pos c]
    simp only [wide_Shl.j0, if_true]
    rw [if_neg (by omega), eta3, told_eq]
    rfl
  · rw [if_neg c, if_neg c]
    have hp := pow_pos2 k.toNat
    by_cases c2 : k ≥ 128
    · simp only [wide_Shl.j0, c2, decide_true, if_true]
      rw [if_pos (by omega), eta3, told_eq, eq_zero]
      by_cases hz : x = 0
      · subst hz; simp [optI, Fit, eH, eL]
      · rw [optI_neg]
        · simp [hz]
        · have e : (2 : Int) ^ k.toNat = 340282366920938463463374607431768211456 * 2 ^ (k.toNat - 128) := by
            rw [← p128, ← Int.pow_add, show 128 + (k.toNat - 128) = k.toNat by omega]
          have hq := pow_pos2 (k.toNat - 128)
          have e2 : (x * 2 ^ k.toNat).natAbs = x.natAbs * (2 ^ k.toNat : Int).natAbs := Int.natAbs_mul _ _
          have e3 : 340282366920938463463374607431768211456 ≤ (2 : Int) ^ k.toNat := by
            rw [e]
            have := Int.mul_le_mul_of_nonneg_left hq (show (0 : Int) ≤ 340282366920938463463374607431768211456 by decide)
            omega
          have e4 : x.natAbs * (2 ^ k.toNat : Int).natAbs ≥ 1 * 340282366920938463463374607431768211456 := Nat.mul_le_mul (by omega) (by omega)
          unfold Fit; omega
    · simp only [wide_Shl.j0, c2, decide_false, Bool.false_eq_true, if_false]
      rw [shl_loop (eH x) (eL x) k (by omega) k.toNat f x.natAbs 0 (by omega) (by omega) (by unfold Fit at hx; omega) (by omega) (by omega)]
      congr 2
      by_cases s : x < 0
      · have e : eH x < 0 := by unfold eH; omega
        rw [show (x.natAbs : Int) = -x by omega]; simp [e, Int.neg_mul]
      · have e : ¬ eH x < 0 := by unfold eH; omega
        rw [show (x.natAbs : Int) = x by omega]; simp [e]

theorem sub64s_eq {a b c : Int} (ha : Wd a) (hb : Wd b) (h0 : 0 ≤ c) (h1 : c ≤ 1) : sub64s a b c = (a - b - c) % 18446744073709551616 := by unfold Wd at *; unfold sub64s; omega
theorem sub64c_eq {a b c : Int} (ha : Wd a) (hb : Wd b) (h0 : 0 ≤ c) (h1 : c ≤ 1) : sub64c a b c = if a < b + c then 1 else 0 := by
  unfold Wd at *; unfold sub64c; split <;> split <;> omega

theorem bit_hi (u : Int) (n : Nat) (h64 : 64 ≤ n) : u / 18446744073709551616 / 2 ^ (n - 64) = u / 2 ^ n := by
  rw [Int.ediv_ediv_of_nonneg (by decide)]
  congr 1
  have : (2 : Int) ^ n = 2 ^ 64 * 2 ^ (n - 64) := by rw [← Int.pow_add]; congr 1; omega
  rw [this]
  rfl
theorem bit_lo (u : Int) (n : Nat) (h64 : n < 64) : u % 18446744073709551616 / 2 ^ n % 2 = u / 2 ^ n % 2 := by
  have e : (18446744073709551616 : Int) = 2 ^ n * (2 * 2 ^ (63 - n)) := by
    rw [← Int.mul_assoc, Int.mul_comm (2 ^ n) 2, ← Int.pow_succ', ← Int.pow_add, show n + 1 + (63 - n) = 64 by omega]; rfl
  have e2 : u % 18446744073709551616 = u + 2 ^ n * (-(2 * 2 ^ (63 - n) * (u / 18446744073709551616))) := by
    have h := Int.emod_def u 18446744073709551616
    rw [h, Int.mul_neg, ← Int.mul_assoc, ← e]; omega
  have hp := pow_pos2 n
  rw [e2, Int.add_mul_ediv_left _ _ (by omega), Int.mul_assoc]
  generalize 2 ^ (63 - n) * (u / 18446744073709551616) = t
  omega
theorem half (u : Int) (n : Nat) : u / 2 ^ n = 2 * (u / 2 ^ (n + 1)) + u / 2 ^ n % 2 := by
  have : u / 2 ^ (n + 1) = u / 2 ^ n / 2 := by
    have hp := pow_pos2 n
    rw [Int.pow_succ, Int.ediv_ediv_of_nonneg (by omega)]
  rw [this]; omega

theorem div_unique {n d q r : Int} (h : n = q * d + r) (h0 : 0 ≤ r) (h1 : r < d) : n / d = q ∧ n % d = r := by
  have hd : 0 < d := by omega
  have := (Int.ediv_emod_unique (a := n) (r := r) (q := q) hd).2 ⟨by rw [h, Int.mul_comm]; omega, h0, h1⟩
  exact this
theorem ediv_lt {n d : Int} (h0 : 0 ≤ n) (hd : 0 < d) : 0 ≤ n / d ∧ n / d ≤ n ∧ 0 ≤ n % d ∧ n % d < d :=
  ⟨Int.ediv_nonneg h0 (by omega), Int.ediv_le_self _ h0, Int.emod_nonneg _ (by omega), Int.emod_lt_of_pos _ hd⟩
theorem ediv_split (n d : Int) : n = n / d * d + n % d := by
  have := Int.mul_ediv_add_emod n d
  rw [Int.mul_comm] at this
  exact this.symm

/-- One step of the division, in numbers. -/
theorem div_step (U d b : Int) (hU : 0 ≤ U) (hd : 0 < d) (b0 : 0 ≤ b) (b1 : b ≤ 1) :
    (d ≤ 2 * (U % d) + b → (2 * U + b) / d = 2 * (U / d) + 1 ∧ (2 * U + b) % d = 2 * (U % d) + b - d) ∧ (2 * (U % d) + b < d → (2 * U + b) / d = 2 * (U / d) ∧ (2 * U + b) % d = 2 * (U % d) + b) := by
  have h := ediv_split U d
  obtain ⟨_, _, h1, h2⟩ := ediv_lt hU hd
  generalize U / d = Q at *
  generalize U % d = R at *
  have e : 2 * U + b = 2 * (Q * d) + 2 * R + b := by omega
  refine ⟨fun c => div_unique ?_ (by omega) (by omega), fun c => div_unique ?_ (by omega) (by omega)⟩
  · rw [e, Int.add_mul, Int.mul_assoc]; omega
  · rw [e, Int.mul_assoc]; omega

/-- The two words of a number without a sign. -/
def uH (v : Int) : Int := v / 18446744073709551616
def uL (v : Int) : Int := v % 18446744073709551616
def U128 (v : Int) : Prop := 0 ≤ v ∧ v < 340282366920938463463374607431768211456

/-- What comes behind the bit of a round: 'j1'. -/
theorem divide_round (u d Q R b x12 : Int) (k : Nat) (hd : U128 d) (hd0 : 0 < d) (hQ : 0 ≤ Q) (hQ2 : 2 * Q + 1 < 340282366920938463463374607431768211456) (hR : 0 ≤ R) (hR2 : R < d) (b0 : 0 ≤ b) (b1 : b ≤ 1) :
    wide_divide.j1 (k + 1) (uH u) (uL u) (uH d) (uL d) (uH Q) (uL Q) (uH R) (uL R) x12 b =
      if d ≤ 2 * R + b then wide_divide.l0 k (uH u) (uL u) (uH d) (uL d) (uH (2 * Q + 1)) (uL (2 * Q + 1)) (uH (2 * R + b - d)) (uL (2 * R + b - d)) (wrap64 (x12 - 1))
      else wide_divide.l0 k (uH u) (uL u) (uH d) (uL d) (uH (2 * Q)) (uL (2 * Q)) (uH (2 * R + b)) (uL (2 * R + b)) (wrap64 (x12 - 1)) := by
  unfold U128 at hd
  have q1 : Go.bits .or .u64 (IntKind.u64.wrap (uH Q * 2)) (uL Q / 9223372036854775808) = uH (2 * Q) := by
    unfold uH uL; rw [up_hi]; omega
  have q1' : uH (2 * Q + 1) = uH (2 * Q) := by unfold uH; omega
  have q2 : Go.bits .or .u64 (IntKind.u64.wrap (uL Q * 2)) 1 = uL (2 * Q + 1) := by unfold uL; rw [up_lo _ _ (by decide) (by decide)]
  have q3 : IntKind.u64.wrap (uL Q * 2) = uL (2 * Q) := by unfold uL; rw [up_lo0]
  have r1 : Go.bits .or .u64 (IntKind.u64.wrap (uH R * 2)) (uL R / 9223372036854775808) = uH ((2 * R + b) % 340282366920938463463374607431768211456) := by
    unfold uH uL; rw [up_hi]; omega
  have r2 : Go.bits .or .u64 (IntKind.u64.wrap (uL R * 2)) b = uL ((2 * R + b) % 340282366920938463463374607431768211456) := by
    unfold uL; rw [up_lo _ _ b0 b1]; omega
  have w : ∀ v : Int, 0 ≤ v → v < 340282366920938463463374607431768211456 → Wd (uH v) ∧ Wd (uL v) := fun v h1 h2 => by unfold Wd uH uL; omega
  have wd := w d (by omega) (by omega)
  have wr := w ((2 * R + b) % 340282366920938463463374607431768211456) (by omega) (by omega)
  have s1 : sub64c (uL ((2 * R + b) % 340282366920938463463374607431768211456)) (uL d) 0 = if uL ((2 * R + b) % 340282366920938463463374607431768211456) < uL d then 1 else 0 := by
    rw [sub64c_eq wr.2 wd.2 (by decide) (by decide)]; simp
  have c01 : 0 ≤ (if uL ((2 * R + b) % 340282366920938463463374607431768211456) < uL d then (1 : Int) else 0) ∧ (if uL ((2 * R + b) % 340282366920938463463374607431768211456) < uL d then (1 : Int) else 0) ≤ 1 := by split <;> decide
  have s2 := sub64s_eq wr.2 wd.2 (show (0 : Int) ≤ 0 by decide) (by decide)
  have s3 := sub64s_eq wr.1 wd.1 c01.1 c01.2
  have s4 := sub64c_eq wr.1 wd.1 c01.1 c01.2
  simp only [wide_divide.j1]
  rw [q1, q2, q3, r1, r2, s1, s2, s3, s4, if_pos c01.2]
  have t2 : (uL ((2 * R + b) % 340282366920938463463374607431768211456) - uL d - 0) % 18446744073709551616 = uL ((2 * R + b - d) % 340282366920938463463374607431768211456) := by unfold uL; omega
  have t3 : (uH ((2 * R + b) % 340282366920938463463374607431768211456) - uH d - (if uL ((2 * R + b) % 340282366920938463463374607431768211456) < uL d then (1 : Int) else 0)) % 18446744073709551616 = uH ((2 * R + b - d) % 340282366920938463463374607431768211456) := by
    unfold uH uL; split <;> omega
  have t4 : (uH ((2 * R + b) % 340282366920938463463374607431768211456) < uH d + (if uL ((2 * R + b) % 340282366920938463463374607431768211456) < uL d then (1 : Int) else 0)) ↔ (2 * R + b) % 340282366920938463463374607431768211456 < d := by
    unfold uH uL; split <;> omega
  rw [t2, t3]
  have ov : uH R / 9223372036854775808 = 1 ↔ 340282366920938463463374607431768211456 ≤ 2 * R + b := by unfold uH; omega
  by_cases o : 340282366920938463463374607431768211456 ≤ 2 * R + b
  · rw [if_pos (ov.2 o), if_pos (by omega), q1', show (2 * R + b - d) % 340282366920938463463374607431768211456 = 2 * R + b - d by omega]
  · have e0 : (2 * R + b) % 340282366920938463463374607431768211456 = 2 * R + b := by omega
    rw [if_neg (fun h => o (ov.1 h))]
    by_cases c : d ≤ 2 * R + b
    · rw [if_pos (by rw [if_neg (fun h => by have := t4.1 h; omega)]), if_pos c, q1', show (2 * R + b - d) % 340282366920938463463374607431768211456 = 2 * R + b - d by omega]
    · rw [if_neg (by rw [if_pos (t4.2 (by omega))]; decide), if_neg c, e0]

theorem divide_loop (u d : Int) (hu : U128 u) (hd : U128 d) (hd0 : 0 < d) (n : Nat) : ∀ k : Nat, n ≤ 128 → 2 * n < k →
    wide_divide.l0 k (uH u) (uL u) (uH d) (uL d) (uH (u / 2 ^ n / d)) (uL (u / 2 ^ n / d)) (uH (u / 2 ^ n % d)) (uL (u / 2 ^ n % d)) ((n : Int) - 1) = some (uH (u / d), uL (u / d), uH (u % d), uL (u % d)) := by
  induction n with
  | zero =>
    intro k _ hk
    obtain ⟨k, rfl⟩ : ∃ m, k = m + 1 := ⟨k - 1, by omega⟩
    simp only [wide_divide.l0]
    rw [if_neg (by omega)]
    simp
  | succ n ih =>
    intro k hn hk
    obtain ⟨k, rfl⟩ : ∃ m, k = m + 2 := ⟨k - 2, by omega⟩
    have e1 : ((n + 1 : Nat) : Int) - 1 = n := by omega
    rw [e1]
    have hU0 : 0 ≤ u / 2 ^ (n + 1) := Int.ediv_nonneg hu.1 (by have := pow_pos2 (n + 1); omega)
    have hb : u / 2 ^ n = 2 * (u / 2 ^ (n + 1)) + u / 2 ^ n % 2 := half u n
    have hle : u / 2 ^ n ≤ u := Int.ediv_le_self _ hu.1
    have hu2 := hu.2
    have dl := ediv_lt hU0 hd0
    have step : wide_divide.l0 (k + 2) (uH u) (uL u) (uH d) (uL d) (uH (u / 2 ^ (n + 1) / d)) (uL (u / 2 ^ (n + 1) / d)) (uH (u / 2 ^ (n + 1) % d)) (uL (u / 2 ^ (n + 1) % d)) (n : Int) =
        wide_divide.j1 (k + 1) (uH u) (uL u) (uH d) (uL d) (uH (u / 2 ^ (n + 1) / d)) (uL (u / 2 ^ (n + 1) / d)) (uH (u / 2 ^ (n + 1) % d)) (uL (u / 2 ^ (n + 1) % d)) (n : Int) (u / 2 ^ n % 2) := by
      have tm : Int.tmod (n : Int) 64 = ((n % 64 : Nat) : Int) := by rw [Int.tmod_eq_emod_of_nonneg (by omega)]; rfl
      simp only [wide_divide.l0]
      rw [if_pos (by omega), tm, if_pos (by omega)]
      by_cases c : 64 ≤ n
      · have ew : wrap64 ((n : Int) - 64) = ((n - 64 : Nat) : Int) := by unfold wrap64; omega
        rw [if_pos (by omega), ew, if_pos (by omega)]
        congr 1
        have es : shr .u64 (uH u) ((n - 64 : Nat) : Int) = u / 2 ^ n := by
          unfold shr
          rw [show min ((n - 64 : Nat) : Int).toNat IntKind.u64.bits = n - 64 by simp [IntKind.bits]; omega]
          exact bit_hi u n c
        rw [es, and_one]
        unfold Wd
        have : u / 2 ^ n ≤ 18446744073709551615 := by
          rw [← bit_hi u n c]
          have h1 : 0 ≤ u / 18446744073709551616 := by have := hu.1; omega
          have h2 := Int.ediv_le_self (2 ^ (n - 64)) h1
          omega
        have := Int.ediv_nonneg hu.1 (show (0 : Int) ≤ 2 ^ n by have := pow_pos2 n; omega)
        omega
      · rw [if_neg (by omega)]
        congr 1
        have es : shr .u64 (uL u) ((n % 64 : Nat) : Int) = uL u / 2 ^ n := by
          unfold shr
          rw [show min ((n % 64 : Nat) : Int).toNat IntKind.u64.bits = n by simp [IntKind.bits]; omega]
        rw [es, and_one]
        · exact bit_lo u n (by omega)
        · have h1 : 0 ≤ uL u := by unfold uL; omega
          have h2 := Int.ediv_le_self (2 ^ n) h1
          have h3 := Int.ediv_nonneg h1 (show (0 : Int) ≤ 2 ^ n by have := pow_pos2 n; omega)
          unfold Wd
          have : uL u < 18446744073709551616 := by unfold uL; omega
          omega
    rw [step, divide_round u d _ _ _ _ k hd hd0 dl.1 (by omega) dl.2.2.1 dl.2.2.2 (by omega) (by omega)]
    have ds := div_step (u / 2 ^ (n + 1)) d (u / 2 ^ n % 2) hU0 hd0 (by omega) (by omega)
    rw [← hb] at ds
    rw [show wrap64 ((n : Int) - 1) = (n : Int) - 1 by unfold wrap64; omega]
    by_cases c : d ≤ 2 * (u / 2 ^ (n + 1) % d) + u / 2 ^ n % 2
    · rw [if_pos c, ← (ds.1 c).1, ← (ds.1 c).2]
      exact ih k (by omega) (by omega)
    · rw [if_neg c, ← (ds.2 (by omega)).1, ← (ds.2 (by omega)).2]
      exact ih k (by omega) (by omega)

theorem divide_eq (u d : Int) (hu : U128 u) (hd : U128 d) (hd0 : 0 < d) (k : Nat) (hk : 300 ≤ k) :
    wide_divide.f k (uH u) (uL u) (uH d) (uL d) = some (uH (u / d), uL (u / d), uH (u % d), uL (u % d)) := by
  have h := divide_loop u d hu hd hd0 128 k (Nat.le_refl _) (by omega)
  have e : u / 2 ^ 128 = 0 := Int.ediv_eq_zero_of_lt hu.1 (by have := hu.2; omega)
  rw [e] at h
  unfold wide_divide.f
  simpa [uH, uL] using h

theorem uH_eH {v : Int} (h : 0 ≤ v ∧ v < 170141183460469231731687303715884105728) : wrap64 (uH v) = eH v := by unfold wrap64 uH eH; omega
theorem uL_eL (v : Int) : uL v = eL v := rfl

/-- P1.3. -/
theorem Div_eq (x y : Int) (hx : Fit x) (hy : Fit y) (k : Nat) (hk : 302 ≤ k) :
    wide_Div.f k (eH x) (eL x) (eH y) (eL y) = some (if 0 < y then (eH (x / y), eL (x / y), eH (x % y), eL (x % y), true) else (0, 0, 0, 0, false)) := by
  obtain ⟨k, rfl⟩ : ∃ m, k = m + 2 := ⟨k - 2, by omega⟩
  unfold wide_Div.f
  rw [sign_eq y hy, Option.bind_some]
  by_cases c : 0 < y
  · have hx' := hx
    have hy' := hy
    unfold Fit at hx' hy'
    rw [if_neg (by split <;> omega), if_pos c, size_eq x hx, Option.bind_some]
    dsimp only
    obtain ⟨X, hX⟩ : ∃ X : Int, X = (x.natAbs : Int) := ⟨_, rfl⟩
    rw [← hX]
    have du : U128 X := by unfold U128; omega
    have dy : U128 y := by unfold U128; omega
    have eb : IntKind.u64.wrap (eH y) = uH y := by rw [wu64]; unfold eH uH; omega
    have nn : 0 ≤ X := by omega
    have dl := ediv_lt nn c
    have hd := divide_eq X y du dy c (k + 2) (by omega)
    rw [eb, show eL y = uL y from rfl]
    refine (congrArg (fun o => Option.bind o _) hd).trans ?_
    rw [Option.bind_some]
    dsimp only
    have hr : wrap64 (uH (X % y)) = eH (X % y) := uH_eH ⟨dl.2.2.1, by omega⟩
    have sg := signed_eq (X / y) dl.1 (by omega) (decide (eH x < 0))
    refine (congrArg (fun o => Option.bind o _) sg).trans ?_
    rw [Option.bind_some, hr]
    have h := ediv_split X y
    by_cases s : x < 0
    · have es : eH x < 0 := by unfold eH; omega
      rw [if_pos es]
      have ex : X = -x := by omega
      clear hX hd du nn
      generalize X / y = q at *
      generalize X % y = r at *
      have fq : Fit (-q) := by unfold Fit; omega
      have fr : Fit r := by unfold Fit; omega
      simp only [es, decide_true, if_true]
      rw [optI_pos fq]
      dsimp only
      simp only [wide_Div.j0]
      rw [uL_eL, show (!(eH r == 0) || (!(eL r == 0))) = !decide (r = 0) by rw [← eq_zero, Bool.not_and]]
      by_cases z : r = 0
      · have := div_unique (n := x) (d := y) (q := -q) (r := r) (by rw [Int.neg_mul]; omega) (by omega) (by omega)
        rw [if_neg (by simp [z]), this.1, this.2]
      · have hu := div_unique (n := x) (d := y) (q := -q - 1) (r := y - r) (by rw [Int.sub_mul, Int.neg_mul]; omega) (by omega) (by omega)
        rw [if_pos (by simp [z]), of_eq (-1) (by decide), Option.bind_some]
        dsimp only
        have f1 : Fit (-q + -1) := by
          by_cases y1 : y = 1
          · subst y1; omega
          · have : q * 2 ≤ q * y := Int.mul_le_mul_of_nonneg_left (by omega) (by omega)
            unfold Fit; omega
        have f2 : Fit (-r) := by unfold Fit; omega
        have f3 : Fit (y + -r) := by unfold Fit; omega
        rw [wrap_eq _ _ fq (by decide), w128_id f1, Option.bind_some, turn_eq r fr, w128_id f2, Option.bind_some]
        dsimp only
        rw [uL_eL y, wrap_eq _ _ hy f2, w128_id f3, Option.bind_some, hu.1, hu.2]
        rfl
    · have es : ¬ eH x < 0 := by unfold eH; omega
      rw [if_neg es]
      obtain rfl : X = x := by omega
      have fq : Fit (X / y) := by unfold Fit; omega
      simp only [es, decide_false, Bool.false_eq_true, if_false]
      rw [optI_pos fq]
      dsimp only
      simp only [wide_Div.j0, Bool.false_eq_true, if_false]
      rfl
  · rw [if_pos (by split <;> omega), if_neg c]
theorem cmp_self (v : Int) : cmpI v v = 0 := by unfold cmpI; rw [if_neg (by omega), if_neg (by omega)]
theorem cmp_zero (x y : Int) : cmpI x y = 0 ↔ x = y := by unfold cmpI; repeat' split
                                                          all_goals omega
theorem cmp_swap (x y : Int) : cmpI y x = -cmpI x y := by unfold cmpI; repeat' split
                                                          all_goals omega
theorem cmp_rng (x y : Int) : -1 ≤ cmpI x y ∧ cmpI x y ≤ 1 := by unfold cmpI; repeat' split
                                                                 all_goals omega
end Go.Proofs.Ytpjbniihdndlmab.M
