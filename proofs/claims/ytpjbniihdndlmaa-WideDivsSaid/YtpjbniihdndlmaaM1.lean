/- Numbers of two words as whole numbers: what the functions of wide without a loop tell. -/
import Derived.Test.YtpjbniihdndlmaaQx6
import Derived.Test.YtpjbniihdndlmaaQx7
import Derived.Test.YtpjbniihdndlmaaQx8
import Derived.Test.YtpjbniihdndlmaaQx29
import Derived.Test.YtpjbniihdndlmaaQx33
import Derived.Laws.BitsAllLaws
namespace Go.Proofs.Ytpjbniihdndlmaa.M
open Go.RowKit Go.Proofs.Ytpjbniihdndlmaa.H Go.Proofs.Ytpjbniihdndlmaa.Q

def eH (v : Int) : Int := v / 18446744073709551616
def eL (v : Int) : Int := v % 18446744073709551616
/-- From -2^127 to 2^127 less 1. -/
def Fit (v : Int) : Prop := -170141183460469231731687303715884105728 ≤ v ∧ v < 170141183460469231731687303715884105728
instance (v : Int) : Decidable (Fit v) := by unfold Fit; infer_instance
def optI (v : Int) : Int × Int × Bool := if Fit v then (eH v, eL v, true) else (0, 0, false)
/-- Goes round. -/
def w128 (v : Int) : Int := (v + 170141183460469231731687303715884105728) % 340282366920938463463374607431768211456 - 170141183460469231731687303715884105728
/-- A word. -/
def Wd (a : Int) : Prop := 0 ≤ a ∧ a < 18446744073709551616

theorem wu64 (n : Int) : IntKind.u64.wrap n = n % 18446744073709551616 := by simp [IntKind.wrap, IntKind.bits, IntKind.signed]
theorem i64has {a : Int} (h : IntKind.i64.has a) : -9223372036854775808 ≤ a ∧ a ≤ 9223372036854775807 := by
  simpa [IntKind.has, IntKind.min, IntKind.max, IntKind.bits, IntKind.signed] using h
theorem u64has {a : Int} (h : IntKind.u64.has a) : Wd a := by
  have : 0 ≤ a ∧ a ≤ 18446744073709551615 := by simpa [IntKind.has, IntKind.min, IntKind.max, IntKind.bits, IntKind.signed] using h
  exact ⟨this.1, by omega⟩
theorem of_words {a b : Int} (ha : IntKind.i64.has a) (hb : IntKind.u64.has b) : ∃ x, Fit x ∧ a = eH x ∧ b = eL x := by
  have h1 := i64has ha
  have h2 := u64has hb
  unfold Wd at h2
  refine ⟨a * 18446744073709551616 + b, ?_, ?_, ?_⟩ <;> first | (unfold Fit; omega) | (unfold eH; omega) | (unfold eL; omega)
theorem eL_wd (v : Int) : Wd (eL v) := by unfold Wd eL; omega
theorem eq_words (x y : Int) : (eH x == eH y && (eL x == eL y)) = decide (x = y) := by
  rw [Bool.eq_iff_iff]
  simp only [Bool.and_eq_true, beq_iff_eq, decide_eq_true_eq, eH, eL]
  omega
theorem eq_zero (x : Int) : (eH x == 0 && (eL x == 0)) = decide (x = 0) := by
  have := eq_words x 0
  simpa [eH, eL] using this
theorem w128_fit (v : Int) : Fit (w128 v) := by unfold Fit w128; omega
theorem w128_id {v : Int} (h : Fit v) : w128 v = v := by unfold Fit at h; unfold w128; omega

theorem wrap_eq (x y : Int) (hx : Fit x) (hy : Fit y) : wide_wrap.f (eH x) (eL x) (eH y) (eL y) = some (eH (w128 (x + y)), eL (w128 (x + y))) := by
  unfold Fit at hx hy
  unfold wide_wrap.f
  have hc : add64c (eL x) (eL y) 0 ≤ 1 := by unfold add64c eL; omega
  rw [if_pos hc]
  simp only [Option.some.injEq, Prod.mk.injEq, wu64]
  unfold add64s add64c eL eH wrap64 w128
  constructor <;> omega

theorem xor64 {a : Int} (h : -9223372036854775808 ≤ a ∧ a ≤ 9223372036854775807) : Go.bits .xor .i64 (-1) a = -1 - a := by
  have e : ∀ b : BitVec 64, b.toInt = a → IntKind.i64.wrap ((BitVec.ofInt 64 (-1) ^^^ b).toNat : Int) = -1 - a := by
    intro b hb
    have h1 : BitVec.ofInt 64 (-1) = BitVec.allOnes 64 := by decide
    rw [h1, BitVec.allOnes_xor, BitVec.toNat_not]
    have h2 := b.isLt
    have h3 : (b.toInt : Int) = if 2 * b.toNat < 2 ^ 64 then (b.toNat : Int) else (b.toNat : Int) - (2 ^ 64 : Nat) := BitVec.toInt_eq_toNat_cond b
    rw [hb] at h3
    simp only [IntKind.wrap, IntKind.bits, IntKind.signed]
    split at h3 <;> simp <;> omega
  refine e (BitVec.ofInt 64 a) ?_
  rw [BitVec.toInt_ofInt]
  unfold Int.bmod
  dsimp only
  split <;> omega
theorem not64_eq {a : Int} (h : Wd a) : not64 a = 18446744073709551615 - a := by
  unfold Wd at h
  unfold not64
  rw [u64_xor _ _ (by decide) (by decide) h.1 h.2]
  obtain ⟨n, rfl⟩ := Int.eq_ofNat_of_zero_le h.1
  have h2 : n < 2 ^ 64 := by omega
  have h3 : (18446744073709551615 : Int).toNat ^^^ (n : Int).toNat = 18446744073709551615 - n := by
    have := BitVec.toNat_not (x := BitVec.ofNat 64 n)
    rw [← BitVec.allOnes_xor, BitVec.toNat_xor, BitVec.toNat_allOnes, BitVec.toNat_ofNat, Nat.mod_eq_of_lt h2] at this
    simpa using this
  rw [h3]
  omega

theorem turn_eq (x : Int) (hx : Fit x) : wide_turn.f (eH x) (eL x) = some (eH (w128 (-x)), eL (w128 (-x))) := by
  have h1 : Go.bits .xor .i64 (-1) (eH x) = eH (-1 - x) := by
    rw [xor64 (by unfold Fit at hx; unfold eH; omega)]
    unfold eH; omega
  have h2 : not64 (eL x) = eL (-1 - x) := by rw [not64_eq (eL_wd x)]; unfold eL; omega
  have h3 := wrap_eq (-1 - x) 1 (by unfold Fit at *; omega) (by decide)
  have h4 : eH 1 = 0 := by decide
  have h5 : eL 1 = 1 := by decide
  rw [h4, h5, show (-1 - x + 1) = -x by omega] at h3
  unfold wide_turn.f
  rw [h1, h2, h3]
  rfl

theorem size_eq (x : Int) (hx : Fit x) : wide_size.f (eH x) (eL x) = some ((x.natAbs : Int) / 18446744073709551616, (x.natAbs : Int) % 18446744073709551616) := by
  unfold wide_size.f
  split
  · rename_i h
    rw [turn_eq x hx]
    simp only [Option.bind_some, wu64, Option.some.injEq, Prod.mk.injEq]
    unfold Fit at hx; unfold eH at h; unfold eH eL w128
    constructor <;> omega
  · rename_i h
    simp only [wu64, Option.some.injEq, Prod.mk.injEq]
    unfold Fit at hx; unfold eH at h; unfold eH eL
    constructor <;> omega

theorem told_eq (a b : Int) (c : Bool) : wide_told.f a b c = some (if c = true then (a, b, true) else (0, 0, false)) := by
  unfold wide_told.f; split <;> rfl

/-- Two words with a sign. -/
theorem signed_eq (u : Int) (h0 : 0 ≤ u) (h1 : u < 340282366920938463463374607431768211456) (b : Bool) :
    wide_signed.f (u / 18446744073709551616) (u % 18446744073709551616) b = some (optI (if b = true then -u else u)) := by
  have hw : wrap64 (u / 18446744073709551616) = eH (w128 u) := by unfold wrap64 eH w128; omega
  have hl : u % 18446744073709551616 = eL (w128 u) := by unfold eL w128; omega
  unfold wide_signed.f
  rw [hw]
  cases b with
  | true =>
    have ht := turn_eq (w128 u) (w128_fit u)
    have e : w128 (-w128 u) = w128 (-u) := by unfold w128; omega
    rw [e] at ht
    simp only [if_true, hl, ht, Option.bind_some, told_eq, wide_least.f]
    have q := eq_words (w128 (-u)) (-170141183460469231731687303715884105728)
    rw [show eH (-170141183460469231731687303715884105728) = -9223372036854775808 by decide, show eL (-170141183460469231731687303715884105728) = 0 by decide] at q
    rw [q]
    unfold optI
    by_cases c1 : u / 18446744073709551616 / 9223372036854775808 = 0
    · have f : Fit (-u) := by unfold Fit; omega
      rw [if_pos c1, if_pos f, w128_id f]
    · rw [if_neg c1]
      by_cases c2 : u = 170141183460469231731687303715884105728
      · subst c2; decide
      · have f : ¬ Fit (-u) := by unfold Fit; omega
        have g : ¬ w128 (-u) = -170141183460469231731687303715884105728 := by unfold w128; omega
        rw [if_neg f]; simp [g]
  | false =>
    simp only [Bool.false_eq_true, if_false, if_true, hl, told_eq, Option.bind_some]
    unfold optI
    by_cases c1 : u / 18446744073709551616 / 9223372036854775808 = 0
    · have f : Fit u := by unfold Fit; omega
      rw [if_pos c1, if_pos f, w128_id f]
    · have f : ¬ Fit u := by unfold Fit; omega
      rw [if_neg c1, if_neg f]

theorem of_eq (n : Int) (h : -9223372036854775808 ≤ n ∧ n ≤ 9223372036854775807) : wide_Of.f n = some (eH n, eL n) := by
  unfold wide_Of.f
  simp only [wu64, Option.some.injEq, Prod.mk.injEq]
  unfold eH eL
  constructor <;> omega

theorem optI_pos {v : Int} (h : Fit v) : optI v = (eH v, eL v, true) := by unfold optI; rw [if_pos h]
theorem optI_neg {v : Int} (h : ¬ Fit v) : optI v = (0, 0, false) := by unfold optI; rw [if_neg h]

theorem add_eq (x y : Int) (hx : Fit x) (hy : Fit y) : wide_Add.f (eH x) (eL x) (eH y) (eL y) = some (optI (x + y)) := by
  unfold wide_Add.f
  rw [wrap_eq x y hx hy]
  simp only [Option.bind_some, told_eq, if_true]
  by_cases f : Fit (x + y)
  · rw [optI_pos f, w128_id f]
    unfold Fit at *
    by_cases c : (decide (eH x < 0) != decide (eH y < 0)) = true
    · rw [if_pos c]
    · rw [if_neg c]
      have d : (decide (eH x < 0) == decide (eH (x + y) < 0)) = true := by
        unfold eH at *; simp only [bne_iff_ne, ne_eq, Decidable.not_not, beq_iff_eq, decide_eq_decide] at c ⊢; omega
      simp [d]
  · rw [optI_neg f]
    unfold Fit at *
    have c : ¬ (decide (eH x < 0) != decide (eH y < 0)) = true := by
      unfold eH at *; simp only [bne_iff_ne, ne_eq, Decidable.not_not, decide_eq_decide]; omega
    rw [if_neg c]
    have d : ¬ (decide (eH x < 0) == decide (eH (w128 (x + y)) < 0)) = true := by
      unfold eH w128 at *; simp only [bne_iff_ne, ne_eq, Decidable.not_not, beq_iff_eq, decide_eq_decide] at c ⊢; omega
    rw [if_neg d]

theorem sub_eq (x y : Int) (hx : Fit x) (hy : Fit y) : wide_Sub.f (eH x) (eL x) (eH y) (eL y) = some (optI (x - y)) := by
  unfold wide_Sub.f
  have e : w128 (x + w128 (-y)) = w128 (x - y) := by unfold w128; omega
  rw [turn_eq y hy]
  simp only [Option.bind_some]
  rw [wrap_eq x _ hx (w128_fit _), e]
  simp only [Option.bind_some, told_eq, if_true]
  by_cases f : Fit (x - y)
  · rw [optI_pos f, w128_id f]
    unfold Fit at *
    by_cases c : (decide (eH x < 0) == decide (eH y < 0)) = true
    · rw [if_pos c]
    · rw [if_neg c]
      have d : (decide (eH x < 0) == decide (eH (x - y) < 0)) = true := by
        unfold eH at *; simp only [beq_iff_eq, decide_eq_decide] at c ⊢; omega
      simp [d]
  · rw [optI_neg f]
    unfold Fit at *
    have c : ¬ (decide (eH x < 0) == decide (eH y < 0)) = true := by
      unfold eH at *; simp only [beq_iff_eq, decide_eq_decide]; omega
    rw [if_neg c]
    have d : ¬ (decide (eH x < 0) == decide (eH (w128 (x - y)) < 0)) = true := by
      unfold eH w128 at *; simp only [beq_iff_eq, decide_eq_decide] at c ⊢; omega
    rw [if_neg d]

theorem neg_eq (x : Int) (hx : Fit x) : wide_Neg.f (eH x) (eL x) = some (optI (-x)) := by
  unfold wide_Neg.f
  rw [turn_eq x hx]
  have q := eq_words x (-170141183460469231731687303715884105728)
  rw [show eH (-170141183460469231731687303715884105728) = -9223372036854775808 by decide, show eL (-170141183460469231731687303715884105728) = 0 by decide] at q
  have q2 : (!(eH x == -9223372036854775808) || (!(eL x == 0))) = !decide (x = -170141183460469231731687303715884105728) := by rw [← q, Bool.not_and]
  simp only [Option.bind_some, told_eq, wide_least.f]
  rw [q2]
  by_cases f : Fit (-x)
  · have g : ¬ x = -170141183460469231731687303715884105728 := by unfold Fit at *; omega
    rw [optI_pos f, w128_id f]; simp [g]
  · have g : x = -170141183460469231731687303715884105728 := by unfold Fit at *; omega
    rw [optI_neg f]; simp [g]

theorem sign_eq (x : Int) (hx : Fit x) : wide_Sign.f (eH x) (eL x) = some (if x < 0 then -1 else if x = 0 then 0 else 1) := by
  unfold wide_Sign.f
  rw [eq_zero]
  by_cases h : x = 0
  · subst h; rfl
  · simp only [h, decide_false, Bool.false_eq_true, if_false, wu64, Option.some.injEq]
    unfold Fit at hx
    unfold eH wrap64
    split <;> omega

theorem mmc (a b c : Int) : a * c * (b * c) = a * b * (c * c) := by rw [Int.mul_assoc, Int.mul_assoc, Int.mul_left_comm c b c]
theorem and32 {a : Int} (h : Wd a) : Go.bits .and .u64 a 4294967295 = a % 4294967296 := by
  rw [u64_and _ _ h.1 h.2 (by decide) (by decide)]
  have : a.toNat &&& (4294967295 : Int).toNat = a.toNat % 4294967296 := Nat.and_two_pow_sub_one_eq_mod a.toNat 32
  rw [this]
  have := h.1
  omega

theorem mul64_eq (a b : Int) (ha : Wd a) (hb : Wd b) : bits_Mul64.f a b = some (a * b / 18446744073709551616, a * b % 18446744073709551616) := by
  unfold bits_Mul64.f
  simp only [wu64, and32 ha, and32 hb, Option.some.injEq, Prod.mk.injEq, and_true]
  rw [and32 (by unfold Wd; omega)]
  unfold Wd at ha hb
  have e1 : a * b = (a / 4294967296) * (b / 4294967296) * 18446744073709551616 + ((a / 4294967296) * (b % 4294967296) + (a % 4294967296) * (b / 4294967296)) * 4294967296 + (a % 4294967296) * (b % 4294967296) := by
    have h1 : a = a / 4294967296 * 4294967296 + a % 4294967296 := by omega
    have h2 : b = b / 4294967296 * 4294967296 + b % 4294967296 := by omega
    generalize a / 4294967296 = A1 at *; generalize a % 4294967296 = A0 at *; generalize b / 4294967296 = B1 at *; generalize b % 4294967296 = B0 at *
    subst h1; subst h2
    simp only [Int.add_mul, Int.mul_add]
    have m1 : A1 * 4294967296 * (B1 * 4294967296) = A1 * B1 * 18446744073709551616 := by rw [mmc]; rfl
    have m2 : A0 * (B1 * 4294967296) = A0 * B1 * 4294967296 := by rw [Int.mul_assoc]
    have m3 : A1 * 4294967296 * B0 = A1 * B0 * 4294967296 := by rw [Int.mul_right_comm]
    rw [m1, m2, m3]; omega
  have bd : ∀ u v : Int, 0 ≤ u → u ≤ 4294967295 → 0 ≤ v → v ≤ 4294967295 → 0 ≤ u * v ∧ u * v ≤ 18446744065119617025 := fun u v h1 h2 h3 h4 =>
    ⟨Int.mul_nonneg h1 h3, Int.le_trans (Int.mul_le_mul h2 h4 h3 (by decide)) (by decide)⟩
  have p11 := bd (a / 4294967296) (b / 4294967296) (by omega) (by omega) (by omega) (by omega)
  have p10 := bd (a / 4294967296) (b % 4294967296) (by omega) (by omega) (by omega) (by omega)
  have p01 := bd (a % 4294967296) (b / 4294967296) (by omega) (by omega) (by omega) (by omega)
  have p00 := bd (a % 4294967296) (b % 4294967296) (by omega) (by omega) (by omega) (by omega)
  rw [e1]
  generalize (a / 4294967296) * (b / 4294967296) = P11 at *
  generalize (a / 4294967296) * (b % 4294967296) = P10 at *
  generalize (a % 4294967296) * (b / 4294967296) = P01 at *
  generalize (a % 4294967296) * (b % 4294967296) = P00 at *
  clear e1 bd
  omega

theorem add64s_eq {a b : Int} (ha : Wd a) (hb : Wd b) : add64s a b 0 = (a + b) % 18446744073709551616 := by unfold Wd at *; unfold add64s; omega
theorem add64c_eq {a b : Int} (ha : Wd a) (hb : Wd b) : add64c a b 0 = (a + b) / 18446744073709551616 := by unfold Wd at *; unfold add64c; omega

/-- The product of two numbers without their signs, in two words, if it is below 2^128. -/
theorem mul_core (ah al bh bl : Int) (h1 : Wd ah) (h2 : Wd al) (h3 : Wd bh) (h4 : Wd bl) (b : Bool) (r : Option (Int × Int × Bool))
    (hr : r = if ah = 0 then (if ah * bl / 18446744073709551616 = 0 then (if al * bh / 18446744073709551616 = 0 then (if (add64c (al * bl / 18446744073709551616) (ah * bl % 18446744073709551616) 0) = 0 then (if ((add64c (add64s (al * bl / 18446744073709551616) (ah * bl % 18446744073709551616) 0) (al * bh % 18446744073709551616) 0) = 0) then ((wide_signed.f (add64s (add64s (al * bl / 18446744073709551616) (ah * bl % 18446744073709551616) 0) (al * bh % 18446744073709551616) 0) (al * bl % 18446744073709551616) b).bind fun bt145 => (some (bt145.1, bt145.2.1, bt145.2.2))) else (some (0, 0, false))) else (some (0, 0, false))) else (some (0, 0, false))) else (some (0, 0, false))) else (if bh = 0 then (if ah * bl / 18446744073709551616 = 0 then (if al * bh / 18446744073709551616 = 0 then (if (add64c (al * bl / 18446744073709551616) (ah * bl % 18446744073709551616) 0) = 0 then (if ((add64c (add64s (al * bl / 18446744073709551616) (ah * bl % 18446744073709551616) 0) (al * bh % 18446744073709551616) 0) = 0) then ((wide_signed.f (add64s (add64s (al * bl / 18446744073709551616) (ah * bl % 18446744073709551616) 0) (al * bh % 18446744073709551616) 0) (al * bl % 18446744073709551616) b).bind fun bt145 => (some (bt145.1, bt145.2.1, bt145.2.2))) else (some (0, 0, false))) else (some (0, 0, false))) else (some (0, 0, false))) else (some (0, 0, false))) else (some (0, 0, false)))) :
    r = some (optI (if b = true then -((ah * 18446744073709551616 + al) * (bh * 18446744073709551616 + bl)) else (ah * 18446744073709551616 + al) * (bh * 18446744073709551616 + bl))) := by
  have bd : ∀ u v : Int, Wd u → Wd v → 0 ≤ u * v ∧ u * v ≤ 340282366920938463426481119284349108225 := fun u v h1 h2 => by
    unfold Wd at *
    exact ⟨Int.mul_nonneg h1.1 h2.1, Int.le_trans (Int.mul_le_mul (show u ≤ 18446744073709551615 by omega) (show v ≤ 18446744073709551615 by omega) h2.1 (by decide)) (by decide)⟩
  have p := bd al bl h2 h4
  have q := bd ah bl h1 h4
  have s := bd al bh h2 h3
  have z := bd ah bh h1 h3
  have e1 : (ah * 18446744073709551616 + al) * (bh * 18446744073709551616 + bl) = ah * bh * 340282366920938463463374607431768211456 + (ah * bl + al * bh) * 18446744073709551616 + al * bl := by
    simp only [Int.add_mul, Int.mul_add]
    have m1 : ah * 18446744073709551616 * (bh * 18446744073709551616) = ah * bh * 340282366920938463463374607431768211456 := by rw [mmc]; rfl
    have m2 : al * (bh * 18446744073709551616) = al * bh * 18446744073709551616 := by rw [Int.mul_assoc]
    have m3 : ah * 18446744073709551616 * bl = ah * bl * 18446744073709551616 := by rw [Int.mul_right_comm]
    rw [m1, m2, m3]; omega
  have big : ah ≠ 0 → bh ≠ 0 → 1 ≤ ah * bh := fun x y => by
    have := Int.mul_le_mul (show 1 ≤ ah by unfold Wd at h1; omega) (show 1 ≤ bh by unfold Wd at h3; omega) (by decide) h1.1
    omega
  have zq : ah = 0 → ah * bl = 0 ∧ ah * bh = 0 := fun h => by subst h; simp
  have zs : bh = 0 → al * bh = 0 ∧ ah * bh = 0 := fun h => by subst h; simp
  rw [e1]
  generalize al * bl = P at *
  generalize ah * bl = Q at *
  generalize al * bh = R at *
  generalize ah * bh = Z at *
  clear e1 bd
  have wp : Wd (P / 18446744073709551616) := by unfold Wd; omega
  have wq : Wd (Q % 18446744073709551616) := by unfold Wd; omega
  have wr : Wd (R % 18446744073709551616) := by unfold Wd; omega
  have ws : Wd ((P / 18446744073709551616 + Q % 18446744073709551616) % 18446744073709551616) := by unfold Wd; omega
  rw [add64c_eq wp wq, add64s_eq wp wq, add64c_eq ws wr, add64s_eq ws wr] at hr
  have sg := fun (u : Int) (h0 : 0 ≤ u) (h1 : u < 340282366920938463463374607431768211456) (e1 : ((P / 18446744073709551616 + Q % 18446744073709551616) % 18446744073709551616 + R % 18446744073709551616) % 18446744073709551616 = u / 18446744073709551616) (e2 : P % 18446744073709551616 = u % 18446744073709551616) =>
    show (wide_signed.f (((P / 18446744073709551616 + Q % 18446744073709551616) % 18446744073709551616 + R % 18446744073709551616) % 18446744073709551616) (P % 18446744073709551616) b) = some (optI (if b = true then -u else u)) from by rw [e1, e2]; exact signed_eq u h0 h1 b
  have no : 340282366920938463463374607431768211456 ≤ Z * 340282366920938463463374607431768211456 + (Q + R) * 18446744073709551616 + P →
      some (0, 0, false) = some (optI (if b = true then -(Z * 340282366920938463463374607431768211456 + (Q + R) * 18446744073709551616 + P) else Z * 340282366920938463463374607431768211456 + (Q + R) * 18446744073709551616 + P)) := fun h => by
    rw [optI_neg]; unfold Fit; split <;> omega
  rw [hr]
  clear hr
  by_cases a0 : ah = 0
  · obtain ⟨zq1, zq2⟩ := zq a0
    rw [if_pos a0]
    by_cases c1 : Q / 18446744073709551616 = 0
    case neg => (rw [if_neg c1]; exact no (by omega))
    rw [if_pos c1]
    by_cases c2 : R / 18446744073709551616 = 0
    case neg => (rw [if_neg c2]; exact no (by omega))
    rw [if_pos c2]
    by_cases c3 : (P / 18446744073709551616 + Q % 18446744073709551616) / 18446744073709551616 = 0
    case neg => (rw [if_neg c3]; exact no (by omega))
    rw [if_pos c3]
    by_cases c4 : ((P / 18446744073709551616 + Q % 18446744073709551616) % 18446744073709551616 + R % 18446744073709551616) / 18446744073709551616 = 0
    case neg => (rw [if_neg c4]; exact no (by omega))
    rw [if_pos c4]
    rw [sg (Z * 340282366920938463463374607431768211456 + (Q + R) * 18446744073709551616 + P) (by omega) (by omega) (by omega) (by omega)]
    rfl
  · rw [if_neg a0]
    by_cases b0 : bh = 0
    case neg => (rw [if_neg b0]; exact no (by have := big a0 b0; omega))
    rw [if_pos b0]
    obtain ⟨zs1, zs2⟩ := zs b0
    by_cases c1 : Q / 18446744073709551616 = 0
    case neg => (rw [if_neg c1]; exact no (by omega))
    rw [if_pos c1]
    by_cases c2 : R / 18446744073709551616 = 0
    case neg => (rw [if_neg c2]; exact no (by omega))
    rw [if_pos c2]
    by_cases c3 : (P / 18446744073709551616 + Q % 18446744073709551616) / 18446744073709551616 = 0
    case neg => (rw [if_neg c3]; exact no (by omega))
    rw [if_pos c3]
    by_cases c4 : ((P / 18446744073709551616 + Q % 18446744073709551616) % 18446744073709551616 + R % 18446744073709551616) / 18446744073709551616 = 0
    case neg => (rw [if_neg c4]; exact no (by omega))
    rw [if_pos c4]
    rw [sg (Z * 340282366920938463463374607431768211456 + (Q + R) * 18446744073709551616 + P) (by omega) (by omega) (by omega) (by omega)]
    rfl

theorem mul_step (a0 a1 b0 b1 ah al bh bl : Int) (s1 : wide_size.f a0 a1 = some (ah, al)) (s2 : wide_size.f b0 b1 = some (bh, bl)) (h1 : Wd ah) (h2 : Wd al) (h3 : Wd bh) (h4 : Wd bl) :
    ∀ k : Nat, wide_Mul.f (k + 1) a0 a1 b0 b1 = some (optI (if (decide (a0 < 0) != decide (b0 < 0)) = true then -((ah * 18446744073709551616 + al) * (bh * 18446744073709551616 + bl)) else (ah * 18446744073709551616 + al) * (bh * 18446744073709551616 + bl))) := by
  intro k
  refine (?_ : _ = _).trans (mul_core ah al bh bl h1 h2 h3 h4 (decide (a0 < 0) != decide (b0 < 0)) _ rfl)
  unfold wide_Mul.f
  rw [s1, Option.bind_some, s2, Option.bind_some]
  show (bits_Mul64.f al bl).bind _ = _
  rw [mul64_eq _ _ h2 h4, Option.bind_some]
  show (bits_Mul64.f ah bl).bind _ = _
  rw [mul64_eq _ _ h1 h4, Option.bind_some]
  show (bits_Mul64.f al bh).bind _ = _
  rw [mul64_eq _ _ h2 h3, Option.bind_some]
  simp only [wide_Mul.j0, Bool.false_eq_true, if_false, beq_iff_eq]

theorem mul_eq (x y : Int) (hx : Fit x) (hy : Fit y) (k : Nat) (hk : 1 ≤ k) : wide_Mul.f k (eH x) (eL x) (eH y) (eL y) = some (optI (x * y)) := by
  obtain ⟨k, rfl⟩ : ∃ m, k = m + 1 := ⟨k - 1, by omega⟩
  have w : ∀ v : Int, Fit v → Wd ((v.natAbs : Int) / 18446744073709551616) ∧ Wd ((v.natAbs : Int) % 18446744073709551616) := fun v h => by unfold Fit at h; unfold Wd; omega
  have sx : (eH x < 0) ↔ x < 0 := by unfold eH; omega
  have sy : (eH y < 0) ↔ y < 0 := by unfold eH; omega
  have ex : (x.natAbs : Int) = (x.natAbs : Int) / 18446744073709551616 * 18446744073709551616 + (x.natAbs : Int) % 18446744073709551616 := by omega
  have ey : (y.natAbs : Int) = (y.natAbs : Int) / 18446744073709551616 * 18446744073709551616 + (y.natAbs : Int) % 18446744073709551616 := by omega
  have hv : (if (decide (eH x < 0) != decide (eH y < 0)) = true then -((x.natAbs : Int) * (y.natAbs : Int)) else (x.natAbs : Int) * (y.natAbs : Int)) = x * y := by
    by_cases a : x < 0 <;> by_cases b : y < 0
    · have e1 : (x.natAbs : Int) = -x := by omega
      have e2 : (y.natAbs : Int) = -y := by omega
      rw [e1, e2, Int.neg_mul_neg]; simp [sx, sy, a, b]
    · have e1 : (x.natAbs : Int) = -x := by omega
      have e2 : (y.natAbs : Int) = y := by omega
      rw [e1, e2, Int.neg_mul]; simp [sx, sy, a, b]
    · have e1 : (x.natAbs : Int) = x := by omega
      have e2 : (y.natAbs : Int) = -y := by omega
      rw [e1, e2, Int.mul_neg]; simp [sx, sy, a, b]
    · have e1 : (x.natAbs : Int) = x := by omega
      have e2 : (y.natAbs : Int) = y := by omega
      rw [e1, e2]; simp [sx, sy, a, b]
  rw [mul_step _ _ _ _ _ _ _ _ (size_eq x hx) (size_eq y hy) (w x hx).1 (w x hx).2 (w y hy).1 (w y hy).2, ← ex, ← ey, hv]

theorem times_eq (a b : Int) (ha : -9223372036854775808 ≤ a ∧ a ≤ 9223372036854775807) (hb : -9223372036854775808 ≤ b ∧ b ≤ 9223372036854775807) (k : Nat) (hk : 1 ≤ k) : Fit (a * b) ∧ wide_Times.f k a b = some (eH (a * b), eL (a * b)) := by
  have f : Fit (a * b) := by
    have h1 : (a * b).natAbs = a.natAbs * b.natAbs := Int.natAbs_mul a b
    have h2 : a.natAbs * b.natAbs ≤ 9223372036854775808 * 9223372036854775808 := Nat.mul_le_mul (by omega) (by omega)
    unfold Fit; omega
  refine ⟨f, ?_⟩
  unfold wide_Times.f
  rw [of_eq a ha, of_eq b hb]
  simp only [Option.bind_some]
  rw [mul_eq a b (by unfold Fit; omega) (by unfold Fit; omega) k hk, optI_pos f]
  rfl
end Go.Proofs.Ytpjbniihdndlmaa.M
