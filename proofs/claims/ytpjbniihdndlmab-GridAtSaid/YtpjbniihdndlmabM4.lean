/- The reference's numbers: a sign and digits. Each of its functions answers the digits of what it is to tell. -/
import Derived.Test.YtpjbniihdndlmabM3
import Derived.Test.YtpjbniihdndlmabQx11
import Derived.Test.YtpjbniihdndlmabQx12
import Derived.Test.YtpjbniihdndlmabQx15
namespace Go.Proofs.Ytpjbniihdndlmab.M
open Go.RowKit Go.Proofs.Ytpjbniihdndlmab.H Go.Proofs.Ytpjbniihdndlmab.Q Go.Proofs.YtpjbniihdndlmabW.PrintWords Go.Proofs.YtpjbniihdndlmabW.PrintMore

def nb (x : Int) : Bool := decide (x < 0)
def nd (x : Int) : List Int := dg x.natAbs
/-- At most so many digits. -/
def Len (L : Nat) (x : Int) : Prop := x.natAbs < 10000 ^ L

theorem nat_pow_pos (n : Nat) : 1 ≤ 10000 ^ n := Nat.pos_of_ne_zero (by simp)
theorem len_mono {L M : Nat} {x : Int} (h : Len L x) (hle : L ≤ M) : Len M x := Nat.lt_of_lt_of_le h (Nat.pow_le_pow_right (by decide) hle)
theorem len_mul {L M : Nat} {x y : Int} (hx : Len L x) (hy : Len M y) : Len (L + M) (x * y) := by
 unfold Len at *
 rw [Int.natAbs_mul, Nat.pow_add]
 exact Nat.mul_lt_mul'' hx hy
theorem len_add {L : Nat} {x y : Int} (hx : Len L x) (hy : Len L y) : Len (L + 1) (x + y) := by
 unfold Len at *
 rw [Nat.pow_succ]
 omega
theorem len_neg {L : Nat} {x : Int} (h : Len L x) : Len L (-x) := by unfold Len at *; rw [Int.natAbs_neg]; exact h
theorem len_nd {L : Nat} {x : Int} (h : Len L x) : (nd x).length ≤ L := dg_len L _ h
theorem len_fit {x : Int} (h : Fit x) : Len 10 x := by
 unfold Fit at h
 have e : 10000 ^ 10 = 10000000000000000000000000000000000000000 := by decide
 unfold Len; rw [e]; omega
theorem len_i64 {n : Int} (h : -9223372036854775808 ≤ n ∧ n ≤ 9223372036854775807) : Len 5 n := by
 have e : 10000 ^ 5 = 100000000000000000000 := by decide
 unfold Len; rw [e]; omega
theorem nd_dig (x : Int) : Dig (nd x) := dg_dig _
theorem nd_val (x : Int) : val (nd x) = x.natAbs := dg_val _

theorem ref_neg (x : Int) (L k : Nat) (h : Len L x) (hL : L ≤ 1000) (hk : 1001 ≤ k) : cobwebref01_Neg.f k (nb x) (nd x) = some (nb (-x), nd (-x)) := by
 unfold cobwebref01_Neg.f
 rw [trim_eq _ _ _ (Nat.le_trans (len_nd h) hL) hk (nd_dig x), nd_val]
 simp only [Option.bind_some, Option.some.injEq, Prod.mk.injEq]
 refine ⟨?_, by unfold nd; rw [Int.toNat_natCast, Int.natAbs_neg]⟩
 unfold nb
 rw [Bool.eq_iff_iff]
 simp
 omega

theorem ref_cmp (x y : Int) (L k : Nat) (hx : Len L x) (hy : Len L y) (hL : L ≤ 1000) (hk : 1001 ≤ k) : cobwebref01_Cmp.f k (nb x) (nd x) (nb y) (nd y) = some (cmpI x y) := by
 unfold cobwebref01_Cmp.f
 rw [size_eq' _ _ k (Nat.le_trans (len_nd hy) hL) (Nat.le_trans (len_nd hx) hL) hk (nd_dig y) (nd_dig x), size_eq' _ _ k (Nat.le_trans (len_nd hx) hL) (Nat.le_trans (len_nd hy) hL) hk (nd_dig x) (nd_dig y), nd_val, nd_val]
 unfold nb cmpI
 by_cases a : x < 0 <;> by_cases b : y < 0
 ·simp only [a, b, decide_true, bne_self_eq_false, Bool.false_eq_true, if_false, if_true, Option.bind_some]
  congr 1
  repeat' split
  all_goals omega
 ·rw [decide_eq_true a, decide_eq_false b, if_pos (by decide), if_pos rfl, if_pos (by omega)]
 ·rw [decide_eq_false a, decide_eq_true b, if_pos (by decide), if_neg (by decide), if_neg (by omega), if_pos (by omega)]
 ·simp only [a, b, decide_false, bne_self_eq_false, Bool.false_eq_true, if_false, Option.bind_some]
  congr 1
  repeat' split
  all_goals omega

theorem ref_add (x y : Int) (L k : Nat) (hx : Len L x) (hy : Len L y) (hL : L ≤ 900) (hk : 2010 ≤ k) : cobwebref01_Add.f k (nb x) (nd x) (nb y) (nd y) = some (nb (x + y), nd (x + y)) := by
 have lx := Nat.le_trans (len_nd hx) hL
 have ly := Nat.le_trans (len_nd hy) hL
 unfold cobwebref01_Add.f
 by_cases s : (nb x == nb y) = true
 ·obtain ⟨r, h1, h2, h3, h4⟩ := plus_eq (nd x) (nd y) k lx ly hk (nd_dig x) (nd_dig y)
  rw [if_pos s, h1, Option.bind_some, trim_eq _ _ _ (by omega) (by omega) h2, h3, nd_val, nd_val]
  simp only [Option.bind_some, Option.some.injEq, Prod.mk.injEq]
  have s' : (x < 0) ↔ (y < 0) := by unfold nb at s; simpa using s
  refine ⟨?_, by unfold nd; congr 1; omega⟩
  unfold nb
  rw [Bool.eq_iff_iff]
  simp
  omega
 ·have s' : ¬ ((x < 0) ↔ (y < 0)) := by unfold nb at s; simpa using s
  rw [if_neg s, size_eq' _ _ k (by omega) (by omega) (by omega) (nd_dig x) (nd_dig y), nd_val, nd_val, Option.bind_some]
  by_cases c : (x.natAbs : Int) < y.natAbs
  ·obtain ⟨r, h1, h2, h3, h4⟩ := minus_eq (nd y) (nd x) k (by omega) (by omega) (nd_dig y) (nd_dig x) (by rw [nd_val, nd_val]; omega)
   rw [if_neg (by unfold cmpI; rw [if_pos c]; decide), h1, Option.bind_some, trim_eq _ _ _ (by omega) (by omega) h2, h3, nd_val, nd_val]
   simp only [Option.bind_some, Option.some.injEq, Prod.mk.injEq]
   refine ⟨?_, by unfold nd; congr 1; omega⟩
   unfold nb
   rw [Bool.eq_iff_iff]
   simp
   omega
  ·obtain ⟨r, h1, h2, h3, h4⟩ := minus_eq (nd x) (nd y) k (by omega) (by omega) (nd_dig x) (nd_dig y) (by rw [nd_val, nd_val]; omega)
   rw [if_pos (by unfold cmpI; rw [if_neg c]; split <;> decide), h1, Option.bind_some, trim_eq _ _ _ (by omega) (by omega) h2, h3, nd_val, nd_val]
   simp only [Option.bind_some, Option.some.injEq, Prod.mk.injEq]
   refine ⟨?_, by unfold nd; congr 1; omega⟩
   unfold nb
   rw [Bool.eq_iff_iff]
   simp
   omega

theorem of_loop (b : Bool) (j : Nat) : ∀ (k : Nat) (n : Int) (out : List Int), n.natAbs < 10000 ^ j → j < k → out.length + j ≤ 1000 → -9223372036854775808 ≤ n → n ≤ 9223372036854775807 →
  cobwebref01_Of.l0 k n b out = some (b, out ++ dg n.natAbs) := by
 induction j with
 | zero =>
  intro k n out h hk _ _ _
  obtain ⟨k, rfl⟩ : ∃ m, k = m + 1 := ⟨k - 1, by omega⟩
  obtain rfl : n = 0 := by simp at h; omega
  simp only [cobwebref01_Of.l0, if_true]
  rw [show (0 : Int).natAbs = 0 from rfl, dg_zero, List.append_nil]
 | succ j ih =>
  intro k n out h hk ho n1 n2
  obtain ⟨k, rfl⟩ : ∃ m, k = m + 1 := ⟨k - 1, by omega⟩
  simp only [cobwebref01_Of.l0]
  by_cases z : n = 0
  ·subst z
   rw [if_pos rfl, show (0 : Int).natAbs = 0 from rfl, dg_zero, List.append_nil]
  ·rw [if_neg z]
   have h' : n.natAbs / 10000 < 10000 ^ j := by rw [Nat.pow_succ] at h; omega
   have tm : Int.tmod n 10000 = if n < 0 then -((n.natAbs % 10000 : Nat) : Int) else ((n.natAbs % 10000 : Nat) : Int) := by
    by_cases s : n < 0
    ·rw [if_pos s, show n = -(n.natAbs : Int) by omega, Int.neg_tmod, Int.tmod_eq_emod_of_nonneg (by omega), Int.natAbs_neg, Int.natAbs_natCast]; rfl
    ·rw [if_neg s, Int.tmod_eq_emod_of_nonneg (by omega)]; omega
   have td : Int.tdiv n 10000 = if n < 0 then -((n.natAbs / 10000 : Nat) : Int) else ((n.natAbs / 10000 : Nat) : Int) := by
    by_cases s : n < 0
    ·rw [if_pos s, show n = -(n.natAbs : Int) by omega, Int.neg_tdiv, Int.tdiv_eq_ediv_of_nonneg (by omega), Int.natAbs_neg, Int.natAbs_natCast]; rfl
    ·rw [if_neg s, Int.tdiv_eq_ediv_of_nonneg (by omega)]; omega
   have ta : (Int.tdiv n 10000).natAbs = n.natAbs / 10000 := by rw [td]; split <;> omega
   have tr : -9223372036854775808 ≤ Int.tdiv n 10000 ∧ Int.tdiv n 10000 ≤ 9223372036854775807 := by rw [td]; split <;> omega
   have fin : (out ++ [((n.natAbs % 10000 : Nat) : Int)]) ++ dg (n.natAbs / 10000) = out ++ dg n.natAbs := by
    rw [dg_pos (n := n.natAbs) (by omega), List.append_assoc]; rfl
   rw [show wrap64 (Int.tdiv n 10000) = Int.tdiv n 10000 by unfold wrap64; omega]
   by_cases c : Int.tmod n 10000 < 0
   ·have e : wrap64 (-Int.tmod n 10000) = ((n.natAbs % 10000 : Nat) : Int) := by
     have s : n < 0 := by rw [tm] at c; split at c <;> omega
     rw [tm, if_pos s]; unfold wrap64; omega
    rw [if_pos c, if_pos (by omega), e, ih k _ _ (by rw [ta]; exact h') (by omega) (by simp; omega) tr.1 tr.2, ta, fin]
   ·have e : Int.tmod n 10000 = ((n.natAbs % 10000 : Nat) : Int) := by rw [tm] at c ⊢; split at c <;> split <;> omega
    rw [if_neg c, if_pos (by omega), e, ih k _ _ (by rw [ta]; exact h') (by omega) (by simp; omega) tr.1 tr.2, ta, fin]
theorem ref_of (n : Int) (h : -9223372036854775808 ≤ n ∧ n ≤ 9223372036854775807) (k : Nat) (hk : 10 ≤ k) : cobwebref01_Of.f k n = some (nb n, nd n) := by
 unfold cobwebref01_Of.f
 rw [of_loop _ 5 k n [] (len_i64 h) (by omega) (by simp) h.1 h.2]
 rfl

theorem pow_le4 (n m : Nat) (h : n ≤ m * 4) : 2 ^ n ≤ (2 ^ m) ^ 4 := by rw [← Nat.pow_mul]; exact Nat.pow_le_pow_right (by decide) h
theorem len_pow2 (n : Nat) (h : n ≤ 400) : Len 40 (2 ^ n) := by
 have e1 : ((2 : Int) ^ n).natAbs = 2 ^ n := by rw [Int.natAbs_pow]; rfl
 have e2 : 2 ^ n ≤ (2 ^ 100) ^ 4 := pow_le4 n 100 h
 have e3 : (2 ^ 100) ^ 4 < (10000 ^ 10) ^ 4 := Nat.pow_lt_pow_left (by decide) (by decide)
 have e4 : (10000 ^ 10) ^ 4 = 10000 ^ 40 := (Nat.pow_mul 10000 10 4).symm
 unfold Len
 rw [e1, ← e4]
 exact Nat.lt_of_le_of_lt e2 e3
theorem power_loop (n : Nat) (hn : n ≤ 400) (m : Nat) : ∀ (k i : Nat), i + m = n → m + 2012 ≤ k → cobwebref01_Power.l0 k (n : Int) (i : Int) (nb (2 ^ i)) (nd (2 ^ i)) = some (nb (2 ^ n), nd (2 ^ n)) := by
 induction m with
 | zero =>
  intro k i hi hk
  obtain ⟨k, rfl⟩ : ∃ m, k = m + 1 := ⟨k - 1, by omega⟩
  obtain rfl : i = n := by omega
  simp only [cobwebref01_Power.l0]
  rw [if_neg (by omega)]
 | succ m ih =>
  intro k i hi hk
  obtain ⟨k, rfl⟩ : ∃ m, k = m + 1 := ⟨k - 1, by omega⟩
  have l := len_pow2 i (by omega)
  simp only [cobwebref01_Power.l0]
  rw [if_pos (by omega), ref_add _ _ 40 k l l (by omega) (by omega), Option.bind_some]
  dsimp only
  rw [show (2 : Int) ^ i + 2 ^ i = 2 ^ (i + 1) by rw [Int.pow_succ]; omega, show wrap64 ((i : Int) + 1) = ((i + 1 : Nat) : Int) by unfold wrap64; omega]
  exact ih k (i + 1) (by omega) (by omega)
theorem ref_power (n : Nat) (hn : n ≤ 400) (k : Nat) (hk : 2500 ≤ k) : cobwebref01_Power.f k (n : Int) = some (nb (2 ^ n), nd (2 ^ n)) := by
 unfold cobwebref01_Power.f
 rw [ref_of 1 (by decide) k (by omega), Option.bind_some]
 exact power_loop n hn n k 0 (by omega) (by omega)

theorem ten_add (i j : Nat) : (10000 : Int) ^ (i + j) = 10000 ^ i * 10000 ^ j := Int.pow_add _ _ _

theorem mul_one_step (s t : Bool) (a b : List Int) (ha : Dig a) (hb : Dig b) (k : Nat) (out : List Int) (c : Int) (i j : Nat) (hi : i < a.length) (hla : a.length ≤ 1000) (hj : j ≤ 1000) (hij : i + j < out.length) (hd : Dig out) (c0 : 0 ≤ c) (c1 : c < 10000) :
  cobwebref01_Mul.j2 (k + 1) out (i : Int) c (j : Int) true s a t b = cobwebref01_Mul.l1 k (out.set (i + j) ((c + out.getD (i + j) 0 + a.getD i 0 * b.getD j 0) % 10000)) (i : Int) ((c + out.getD (i + j) 0 + a.getD i 0 * b.getD j 0) / 10000) ((j + 1 : Nat) : Int) s a t b := by
 have g1 := dig_getD ha i
 have g2 := dig_getD hb j
 have g3 := dig_getD hd (i + j)
 have wj : wrap64 ((i : Int) + (j : Int)) = ((i + j : Nat) : Int) := by unfold wrap64; omega
 have r1 : rd out ((i + j : Nat) : Int) = out.getD (i + j) 0 := by unfold rd; rw [Int.toNat_natCast]
 have r2 : rd a (i : Int) = a.getD i 0 := by unfold rd; rw [Int.toNat_natCast]
 have hz := Int.mul_nonneg g1.1 g2.1
 have hz2 : a.getD i 0 * b.getD j 0 ≤ 9999 * 9999 := Int.mul_le_mul (by omega) (by omega) g2.1 (by decide)
 have q1 : (0 : Int) ≤ ((i + j : Nat) : Int) := by omega
 have q2 : ((i + j : Nat) : Int) < (out.length : Int) := by omega
 have q3 : (0 : Int) ≤ (i : Int) := by omega
 have q4 : (i : Int) < (a.length : Int) := by omega
 have q5 : (0 : Int) ≤ (j : Int) := by omega
 have q6 : wrap64 ((j : Int) + 1) = ((j + 1 : Nat) : Int) := by unfold wrap64; omega
 simp only [cobwebref01_Mul.j2, if_true]
 rw [wj, if_pos q1, if_pos q2, if_pos q3, if_pos q4, digit_eq b _ q5, base_eq, r1, r2, q6]
 simp only [Option.bind_some, Int.toNat_natCast]
 generalize a.getD i 0 * b.getD j 0 = z at *
 generalize out.getD (i + j) 0 = o at *
 have w1 : wrap64 (wrap64 (c + o) + wrap64 z) = c + o + z := by unfold wrap64; omega
 have w2 : Int.tmod (c + o + z) 10000 = (c + o + z) % 10000 := Int.tmod_eq_emod_of_nonneg (by omega)
 have w3 : Int.tdiv (c + o + z) 10000 = (c + o + z) / 10000 := Int.tdiv_eq_ediv_of_nonneg (by omega)
 have w4 : wrap64 ((c + o + z) / 10000) = (c + o + z) / 10000 := by unfold wrap64; omega
 rw [if_neg (by decide), w1, w2, w3, w4, if_neg (by decide)]

theorem mul_alg (Q X : Int) (out : List Int) (c o x y vb : Int) (i j : Nat) (hij : i + j < out.length) (ho : o = out.getD (i + j) 0) (hv : val out + c * 10000 ^ (i + j) = Q + X) (hx : X = x * vb * 10000 ^ i) :
  val (out.set (i + j) ((c + o + x * y) % 10000)) + (c + o + x * y) / 10000 * 10000 ^ (i + (j + 1)) = Q + x * (vb + y * 10000 ^ j) * 10000 ^ i := by
 have hz3 : x * (y * 10000 ^ j) * 10000 ^ i = x * y * 10000 ^ (i + j) := by
  rw [ten_add, Int.mul_assoc, Int.mul_assoc, Int.mul_assoc, Int.mul_comm (10000 ^ j)]
 rw [Int.mul_add, Int.add_mul, hz3, ← hx, ← Int.add_assoc, ← hv, val_set _ _ _ hij, ← ho, show i + (j + 1) = i + j + 1 by omega, ten_succ]
 clear hz3 hx hv ho hij
 generalize x * y = z at *
 generalize (10000 : Int) ^ (i + j) = R at *
 have e : (c + o + z) = (c + o + z) / 10000 * 10000 + (c + o + z) % 10000 := by omega
 generalize (c + o + z) / 10000 = q at *
 generalize (c + o + z) % 10000 = r at *
 have e3 : q * (R * 10000) = q * 10000 * R := by rw [Int.mul_comm R, Int.mul_assoc]
 have e4 : (q * 10000 + r) * R = (c + o + z) * R := by rw [e]
 simp only [Int.add_mul] at e4
 rw [Int.sub_mul]
 omega

theorem mul_inner (s t : Bool) (a b : List Int) (ha : Dig a) (hb : Dig b) (hla : a.length ≤ 100) (hlb : b.length ≤ 100) (i : Nat) (hi : i < a.length) (m : Nat) :
  ∀ (k : Nat) (out : List Int) (c : Int) (j : Nat), 2 * m + 2 ≤ k → j + m = b.length + 1 → out.length = a.length + b.length + 1 → Dig out → 0 ≤ c → c < 10000 →
   val out + c * 10000 ^ (i + j) = vt a i * val b + a.getD i 0 * vt b j * 10000 ^ i →
   ∃ k' out', cobwebref01_Mul.l1 k out (i : Int) c (j : Int) s a t b = cobwebref01_Mul.l0 k' out' ((i + 1 : Nat) : Int) s a t b ∧ k ≤ k' + 2 * m + 2 ∧ out'.length = a.length + b.length + 1 ∧ Dig out' ∧ val out' = vt a (i + 1) * val b := by
 have fin : ∀ out : List Int, val out = vt a i * val b + a.getD i 0 * val b * 10000 ^ i → val out = vt a (i + 1) * val b := by
  intro out h
  have e : vt a (i + 1) = vt a i + a.getD i 0 * 10000 ^ i := rfl
  rw [e, h, Int.add_mul, Int.mul_assoc, Int.mul_assoc, Int.mul_comm (val b)]
 have wi : wrap64 ((i : Int) + 1) = ((i + 1 : Nat) : Int) := by unfold wrap64; omega
 induction m with
 | zero =>
  intro k out c j hk hj hl hd c0 c1 hv
  obtain ⟨k, rfl⟩ : ∃ m, k = m + 2 := ⟨k - 2, by omega⟩
  have vb := vt_val b j (by omega)
  rw [vb] at hv
  have cz : c = 0 := by
   by_cases h : c = 0
   ·exact h
   ·exfalso
    have o0 := val_nonneg hd
    have b1 := vt_bd ha (i + 1)
    have b2 := val_lt hb
    have b3 := val_nonneg hb
    have e : vt a i * val b + a.getD i 0 * val b * 10000 ^ i = vt a (i + 1) * val b := by
     have e : vt a (i + 1) = vt a i + a.getD i 0 * 10000 ^ i := rfl
     rw [e, Int.add_mul, Int.mul_assoc, Int.mul_assoc, Int.mul_comm (val b)]
    rw [e] at hv
    have u1 : vt a (i + 1) * val b ≤ (10000 ^ (i + 1) - 1) * val b := Int.mul_le_mul_of_nonneg_right (by omega) b3
    have u2 : (10000 ^ (i + 1) - 1) * val b ≤ (10000 ^ (i + 1) - 1) * 10000 ^ b.length := Int.mul_le_mul_of_nonneg_left (by omega) (by have := ten_pos (i + 1); omega)
    have u3 : (10000 : Int) ^ (i + j) = 10000 ^ (i + 1) * 10000 ^ b.length := by rw [← ten_add]; congr 1; omega
    have u4 : 1 * 10000 ^ (i + j) ≤ c * 10000 ^ (i + j) := Int.mul_le_mul_of_nonneg_right (by omega) (by have := ten_pos (i + j); omega)
    simp only [Int.sub_mul] at u1 u2
    have := ten_pos b.length
    clear e fin
    omega
  subst cz
  have q1 : ¬ ((j : Int) < (b.length : Int)) := by omega
  simp only [cobwebref01_Mul.l1]
  rw [if_neg q1, show decide ((0 : Int) > 0) = false by decide]
  simp only [cobwebref01_Mul.j2, Bool.false_eq_true, if_false]
  rw [wi]
  exact ⟨k, out, rfl, by omega, hl, hd, fin out (by simpa using hv)⟩
 | succ m ih =>
  intro k out c j hk hj hl hd c0 c1 hv
  obtain ⟨k, rfl⟩ : ∃ m, k = m + 2 := ⟨k - 2, by omega⟩
  have go : ∃ k' out', cobwebref01_Mul.j2 (k + 1) out (i : Int) c (j : Int) true s a t b = cobwebref01_Mul.l0 k' out' ((i + 1 : Nat) : Int) s a t b ∧ k + 2 ≤ k' + 2 * (m + 1) + 2 ∧ out'.length = a.length + b.length + 1 ∧ Dig out' ∧ val out' = vt a (i + 1) * val b := by
   have g1 := dig_getD ha i
   have g2 := dig_getD hb j
   have g3 := dig_getD hd (i + j)
   have hz := Int.mul_nonneg g1.1 g2.1
   have hz2 : a.getD i 0 * b.getD j 0 ≤ 9999 * 9999 := Int.mul_le_mul (by omega) (by omega) g2.1 (by decide)
   have hij : i + j < out.length := by omega
   have al := mul_alg _ _ out c _ (a.getD i 0) (b.getD j 0) (vt b j) i j hij rfl hv rfl
   rw [mul_one_step s t a b ha hb k out c i j hi (by omega) (by omega) hij hd c0 c1]
   have n1 : 0 ≤ c + out.getD (i + j) 0 + a.getD i 0 * b.getD j 0 := by omega
   have n2 : c + out.getD (i + j) 0 + a.getD i 0 * b.getD j 0 < 100000000 := by omega
   generalize c + out.getD (i + j) 0 + a.getD i 0 * b.getD j 0 = tt at *
   obtain ⟨k', out', h1, h2, h3, h4, h5⟩ := ih k (out.set (i + j) (tt % 10000)) (tt / 10000) (j + 1) (by clear hv al; omega) (by clear hv al; omega) (by rw [List.length_set]; exact hl) (dig_set hd _ (by clear hv al; omega)) (by clear hv al; omega) (by clear hv al; omega) al
   exact ⟨k', out', h1, by clear hv al; omega, h3, h4, h5⟩
  simp only [cobwebref01_Mul.l1]
  by_cases c2 : j < b.length
  ·have q1 : (j : Int) < (b.length : Int) := by clear hv; omega
   rw [if_pos q1]; exact go
  ·have q1 : ¬ ((j : Int) < (b.length : Int)) := by clear hv; omega
   rw [if_neg q1]
   by_cases cz : c = 0
   ·subst cz
    rw [show decide ((0 : Int) > 0) = false by decide]
    simp only [cobwebref01_Mul.j2, Bool.false_eq_true, if_false]
    rw [wi]
    rw [vt_val b j (by clear hv; omega)] at hv
    exact ⟨k, out, rfl, by clear hv; omega, hl, hd, fin out (by simpa using hv)⟩
   ·have q2 : decide (c > 0) = true := by clear hv; simp; omega
    rw [q2]; exact go

theorem mul_outer (s t : Bool) (a b : List Int) (ha : Dig a) (hb : Dig b) (hla : a.length ≤ 100) (hlb : b.length ≤ 100) (m : Nat) :
  ∀ (k i : Nat) (out : List Int), m * (2 * b.length + 6) + 1010 ≤ k → i + m = a.length → out.length = a.length + b.length + 1 → Dig out → val out = vt a i * val b →
   cobwebref01_Mul.l0 k out (i : Int) s a t b = some ((!(s == t)) && decide (val a * val b ≠ 0), dg (val a * val b).toNat) := by
 induction m with
 | zero =>
  intro k i out hk hi hl hd hv
  obtain ⟨k, rfl⟩ : ∃ m, k = m + 1 := ⟨k - 1, by omega⟩
  simp only [cobwebref01_Mul.l0]
  rw [if_neg (by omega), trim_eq _ _ _ (by omega) (by omega) hd, hv, vt_val a i (by omega)]
  rfl
 | succ m ih =>
  intro k i out hk hi hl hd hv
  obtain ⟨k, rfl⟩ : ∃ m, k = m + 1 := ⟨k - 1, by omega⟩
  rw [Nat.succ_mul] at hk
  simp only [cobwebref01_Mul.l0]
  rw [if_pos (by omega)]
  obtain ⟨k', out', h1, h2, h3, h4, h5⟩ := mul_inner s t a b ha hb hla hlb i (by omega) (b.length + 1) k out 0 0 (by omega) (by omega) hl hd (by omega) (by omega) (by simp [vt, hv])
  have e : ((0 : Nat) : Int) = 0 := rfl
  rw [e] at h1
  rw [h1]
  exact ih k' (i + 1) out' (by omega) (by omega) h3 h4 h5

theorem ref_mul (x y : Int) (k : Nat) (hx : Len 100 x) (hy : Len 100 y) (hk : 30000 ≤ k) : cobwebref01_Mul.f k (nb x) (nd x) (nb y) (nd y) = some (nb (x * y), nd (x * y)) := by
 have lx := len_nd hx
 have ly := len_nd hy
 unfold cobwebref01_Mul.f
 have w : wrap64 (wrap64 (((nd x).length : Int) + ((nd y).length : Int)) + 1) = (((nd x).length + (nd y).length + 1 : Nat) : Int) := by unfold wrap64; omega
 rw [w, if_pos (by omega), Int.toNat_natCast, if_pos (by omega)]
 have hb : (nd x).length * (2 * (nd y).length + 6) ≤ 100 * (2 * 100 + 6) := Nat.mul_le_mul lx (by omega)
 have h := mul_outer (nb x) (nb y) (nd x) (nd y) (nd_dig x) (nd_dig y) lx ly (nd x).length k 0 (List.replicate ((nd x).length + (nd y).length + 1) 0) (by omega) (by omega) (by simp) (dig_replicate _) (by rw [val_replicate]; simp [vt])
 have e : ((0 : Nat) : Int) = 0 := rfl
 rw [e] at h
 rw [h, nd_val, nd_val]
 have hp : ((x.natAbs : Int) * (y.natAbs : Int)) = ((x * y).natAbs : Int) := by rw [Int.natAbs_mul]; rfl
 rw [hp, Int.toNat_natCast]
 congr 2
 unfold nb
 rw [Bool.eq_iff_iff]
 rcases Int.lt_trichotomy x 0 with h1 | h1 | h1 <;> rcases Int.lt_trichotomy y 0 with h2 | h2 | h2
 ·have := Int.mul_pos_of_neg_of_neg h1 h2; simp [h1, h2]; omega
 ·subst h2; simp
 ·have := Int.mul_neg_of_neg_of_pos h1 h2; simp [h1, show ¬ y < 0 by omega]; omega
 ·subst h1; simp
 ·subst h1; simp
 ·subst h1; simp
 ·have := Int.mul_neg_of_pos_of_neg h1 h2; simp [h2, show ¬ x < 0 by omega]; omega
 ·subst h2; simp
 ·have := Int.mul_pos h1 h2; simp [show ¬ x < 0 by omega, show ¬ y < 0 by omega]; omega

end Go.Proofs.Ytpjbniihdndlmab.M
