/- Numbers of two words as whole numbers: what the functions of wide without a loop tell. -/
import Derived.Test.YtpjbniihdndlmabQx5
import Derived.Test.YtpjbniihdndlmabQx6
import Derived.Test.YtpjbniihdndlmabQx7
import Derived.Laws.BitsAllLaws
namespace Go.Proofs.Ytpjbniihdndlmab.M
open Go.RowKit Go.Proofs.Ytpjbniihdndlmab.H Go.Proofs.Ytpjbniihdndlmab.Q

def eH (v : Int) : Int := v / 18446744073709551616
def eL (v : Int) : Int := v % 18446744073709551616
/-- From -2^127 to 2^127 less 1. -/
def Fit (v : Int) : Prop := -170141183460469231731687303715884105728 ≤ v ∧ v < 170141183460469231731687303715884105728
instance (v : Int) : Decidable (Fit v) := by unfold Fit; infer_instance
def optI (v : Int) : Int × Int × Bool := if Fit v then (eH v, eL v, true) else (0, 0, false)
/-- Goes round. -/
def w128 (v : Int) : Int := (v + 170141183460469231731687303715884105728) % 340282366920938463463374607431768211456 - 170141183460469231731687303715884105728
/-- A word. -/
def Wd (a : Int) : Prop := 0 ≤ a ∧ a < 18446744073709551616

theorem wu64 (n : Int) : IntKind.u64.wrap n = n % 18446744073709551616 := by simp [IntKind.wrap, IntKind.bits, IntKind.signed]
theorem i64has {a : Int} (h : IntKind.i64.has a) : -9223372036854775808 ≤ a ∧ a ≤ 9223372036854775807 := by
 simpa [IntKind.has, IntKind.min, IntKind.max, IntKind.bits, IntKind.signed] using h
theorem u64has {a : Int} (h : IntKind.u64.has a) : Wd a := by
 have : 0 ≤ a ∧ a ≤ 18446744073709551615 := by simpa [IntKind.has, IntKind.min, IntKind.max, IntKind.bits, IntKind.signed] using h
 exact ⟨this.1, by omega⟩
theorem of_words {a b : Int} (ha : IntKind.i64.has a) (hb : IntKind.u64.has b) : ∃ x, Fit x ∧ a = eH x ∧ b = eL x := by
 have h1 := i64has ha
 have h2 := u64has hb
 unfold Wd at h2
 refine ⟨a * 18446744073709551616 + b, ?_, ?_, ?_⟩ <;> first | (unfold Fit; omega) | (unfold eH; omega) | (unfold eL; omega)
theorem eL_wd (v : Int) : Wd (eL v) := by unfold Wd eL; omega
theorem eq_words (x y : Int) : (eH x == eH y && (eL x == eL y)) = decide (x = y) := by
 rw [Bool.eq_iff_iff]
 simp only [Bool.and_eq_true, beq_iff_eq, decide_eq_true_eq, eH, eL]
 omega
theorem eq_zero (x : Int) : (eH x == 0 && (eL x == 0)) = decide (x = 0) := by
 have := eq_words x 0
 simpa [eH, eL] using this
theorem w128_fit (v : Int) : Fit (w128 v) := by unfold Fit w128; omega
theorem w128_id {v : Int} (h : Fit v) : w128 v = v := by unfold Fit at h; unfold w128; omega

theorem wrap_eq (x y : Int) (hx : Fit x) (hy : Fit y) : wide_wrap.f (eH x) (eL x) (eH y) (eL y) = some (eH (w128 (x + y)), eL (w128 (x + y))) := by
 unfold Fit at hx hy
 unfold wide_wrap.f
 have hc : add64c (eL x) (eL y) 0 ≤ 1 := by unfold add64c eL; omega
 rw [if_pos hc]
 simp only [Option.some.injEq, Prod.mk.injEq, wu64]
 unfold add64s add64c eL eH wrap64 w128
 constructor <;> omega

theorem xor64 {a : Int} (h : -9223372036854775808 ≤ a ∧ a ≤ 9223372036854775807) : Go.bits .xor .i64 (-1) a = -1 - a := by
 have e : ∀ b : BitVec 64, b.toInt = a → IntKind.i64.wrap ((BitVec.ofInt 64 (-1) ^^^ b).toNat : Int) = -1 - a := by
  intro b hb
  have h1 : BitVec.ofInt 64 (-1) = BitVec.allOnes 64 := by decide
  rw [h1, BitVec.allOnes_xor, BitVec.toNat_not]
  have h2 := b.isLt
  have h3 : (b.toInt : Int) = if 2 * b.toNat < 2 ^ 64 then (b.toNat : Int) else (b.toNat : Int) - (2 ^ 64 : Nat) := BitVec.toInt_eq_toNat_cond b
  rw [hb] at h3
  simp only [IntKind.wrap, IntKind.bits, IntKind.signed]
  split at h3 <;> simp <;> omega
 refine e (BitVec.ofInt 64 a) ?_
 rw [BitVec.toInt_ofInt]
 unfold Int.bmod
 dsimp only
 split <;> omega
theorem not64_eq {a : Int} (h : Wd a) : not64 a = 18446744073709551615 - a := by
 unfold Wd at h
 unfold not64
 rw [u64_xor _ _ (by decide) (by decide) h.1 h.2]
 obtain ⟨n, rfl⟩ := Int.eq_ofNat_of_zero_le h.1
 have h2 : n < 2 ^ 64 := by omega
 have h3 : (18446744073709551615 : Int).toNat ^^^ (n : Int).toNat = 18446744073709551615 - n := by
  have := BitVec.toNat_not (x := BitVec.ofNat 64 n)
  rw [← BitVec.allOnes_xor, BitVec.toNat_xor, BitVec.toNat_allOnes, BitVec.toNat_ofNat, Nat.mod_eq_of_lt h2] at this
  simpa using this
 rw [h3]
 omega

theorem turn_eq (x : Int) (hx : Fit x) : wide_turn.f (eH x) (eL x) = some (eH (w128 (-x)), eL (w128 (-x))) := by
 have h1 : Go.bits .xor .i64 (-1) (eH x) = eH (-1 - x) := by
  rw [xor64 (by unfold Fit at hx; unfold eH; omega)]
  unfold eH; omega
 have h2 : not64 (eL x) = eL (-1 - x) := by rw [not64_eq (eL_wd x)]; unfold eL; omega
 have h3 := wrap_eq (-1 - x) 1 (by unfold Fit at *; omega) (by decide)
 have h4 : eH 1 = 0 := by decide
 have h5 : eL 1 = 1 := by decide
 rw [h4, h5, show (-1 - x + 1) = -x by omega] at h3
 unfold wide_turn.f
 rw [h1, h2, h3]
 rfl

theorem size_eq (x : Int) (hx : Fit x) : wide_size.f (eH x) (eL x) = some ((x.natAbs : Int) / 18446744073709551616, (x.natAbs : Int) % 18446744073709551616) := by
 unfold wide_size.f
 split
 ·rename_i h
  rw [turn_eq x hx]
  simp only [Option.bind_some, wu64, Option.some.injEq, Prod.mk.injEq]
  unfold Fit at hx; unfold eH at h; unfold eH eL w128
  constructor <;> omega
 ·rename_i h
  simp only [wu64, Option.some.injEq, Prod.mk.injEq]
  unfold Fit at hx; unfold eH at h; unfold eH eL
  constructor <;> omega

theorem told_eq (a b : Int) (c : Bool) : wide_told.f a b c = some (if c = true then (a, b, true) else (0, 0, false)) := by
 unfold wide_told.f; split <;> rfl

/-- Two words with a sign. -/
theorem signed_eq (u : Int) (h0 : 0 ≤ u) (h1 : u < 340282366920938463463374607431768211456) (b : Bool) :
  wide_signed.f (u / 18446744073709551616) (u % 18446744073709551616) b = some (optI (if b = true then -u else u)) := by
 have hw : wrap64 (u / 18446744073709551616) = eH (w128 u) := by unfold wrap64 eH w128; omega
 have hl : u % 18446744073709551616 = eL (w128 u) := by unfold eL w128; omega
 unfold wide_signed.f
 rw [hw]
 cases b with
 | true =>
  have ht := turn_eq (w128 u) (w128_fit u)
  have e : w128 (-w128 u) = w128 (-u) := by unfold w128; omega
  rw [e] at ht
  simp only [if_true, hl, ht, Option.bind_some, told_eq, wide_least.f]
  have q := eq_words (w128 (-u)) (-170141183460469231731687303715884105728)
  rw [show eH (-170141183460469231731687303715884105728) = -9223372036854775808 by decide, show eL (-170141183460469231731687303715884105728) = 0 by decide] at q
  rw [q]
  unfold optI
  by_cases c1 : u / 18446744073709551616 / 9223372036854775808 = 0
  ·have f : Fit (-u) := by unfold Fit; omega
   rw [if_pos c1, if_pos f, w128_id f]
  ·rw [if_neg c1]
   by_cases c2 : u = 170141183460469231731687303715884105728
   ·subst c2; decide
   ·have f : ¬ Fit (-u) := by unfold Fit; omega
    have g : ¬ w128 (-u) = -170141183460469231731687303715884105728 := by unfold w128; omega
    rw [if_neg f]; simp [g]
 | false =>
  simp only [Bool.false_eq_true, if_false, if_true, hl, told_eq, Option.bind_some]
  unfold optI
  by_cases c1 : u / 18446744073709551616 / 9223372036854775808 = 0
  ·have f : Fit u := by unfold Fit; omega
   rw [if_pos c1, if_pos f, w128_id f]
  ·have f : ¬ Fit u := by unfold Fit; omega
   rw [if_neg c1, if_neg f]

theorem of_eq (n : Int) (h : -9223372036854775808 ≤ n ∧ n ≤ 9223372036854775807) : wide_Of.f n = some (eH n, eL n) := by
 unfold wide_Of.f
 simp only [wu64, Option.some.injEq, Prod.mk.injEq]
 unfold eH eL
 constructor <;> omega

theorem optI_pos {v : Int} (h : Fit v) : optI v = (eH v, eL v, true) := by unfold optI; rw [if_pos h]
theorem optI_neg {v : Int} (h : ¬ Fit v) : optI v = (0, 0, false) := by unfold optI; rw [if_neg h]

theorem add_eq (x y : Int) (hx : Fit x) (hy : Fit y) : wide_Add.f (eH x) (eL x) (eH y) (eL y) = some (optI (x + y)) := by
 unfold wide_Add.f
 rw [wrap_eq x y hx hy]
 simp only [Option.bind_some, told_eq, if_true]
 by_cases f : Fit (x + y)
 ·rw [optI_pos f, w128_id f]
  unfold Fit at *
  by_cases c : (decide (eH x < 0) != decide (eH y < 0)) = true
  ·rw [if_pos c]
  ·rw [if_neg c]
   have d : (decide (eH x < 0) == decide (eH (x + y) < 0)) = true := by
    unfold eH at *; simp only [bne_iff_ne, ne_eq, Decidable.not_not, beq_iff_eq, decide_eq_decide] at c ⊢; omega
   simp [d]
 ·rw [optI_neg f]
  unfold Fit at *
  have c : ¬ (decide (eH x < 0) != decide (eH y < 0)) = true := by
   unfold eH at *; simp only [bne_iff_ne, ne_eq, Decidable.not_not, decide_eq_decide]; omega
  rw [if_neg c]
  have d : ¬ (decide (eH x < 0) == decide (eH (w128 (x + y)) < 0)) = true := by
   unfold eH w128 at *; simp only [bne_iff_ne, ne_eq, Decidable.not_not, beq_iff_eq, decide_eq_decide] at c ⊢; omega
  rw [if_neg d]

theorem sub_eq (x y : Int) (hx : Fit x) (hy : Fit y) : wide_Sub.f (eH x) (eL x) (eH y) (eL y) = some (optI (x - y)) := by
 unfold wide_Sub.f
 have e : w128 (x + w128 (-y)) = w128 (x - y) := by unfold w128; omega
 rw [turn_eq y hy]
 simp only [Option.bind_some]
 rw [wrap_eq x _ hx (w128_fit _), e]
 simp only [Option.bind_some, told_eq, if_true]
 by_cases f : Fit (x - y)
 ·rw [optI_pos f, w128_id f]
  unfold Fit at *
  by_cases c : (decide (eH x < 0) == decide (eH y < 0)) = true
  ·rw [if_pos c]
  ·rw [if_neg c]
   have d : (decide (eH x < 0) == decide (eH (x - y) < 0)) = true := by
    unfold eH at *; simp only [beq_iff_eq, decide_eq_decide] at c ⊢; omega
   simp [d]
 ·rw [optI_neg f]
  unfold Fit at *
  have c : ¬ (decide (eH x < 0) == decide (eH y < 0)) = true := by
   unfold eH at *; simp only [beq_iff_eq, decide_eq_decide]; omega
  rw [if_neg c]
  have d : ¬ (decide (eH x < 0) == decide (eH (w128 (x - y)) < 0)) = true := by
   unfold eH w128 at *; simp only [beq_iff_eq, decide_eq_decide] at c ⊢; omega
  rw [if_neg d]

theorem sign_eq (x : Int) (hx : Fit x) : wide_Sign.f (eH x) (eL x) = some (if x < 0 then -1 else if x = 0 then 0 else 1) := by
 unfold wide_Sign.f
 rw [eq_zero]
 by_cases h : x = 0
 ·subst h; rfl
 ·simp only [h, decide_false, Bool.false_eq_true, if_false, wu64, Option.some.injEq]
  unfold Fit at hx
  unfold eH wrap64
  split <;> omega

end Go.Proofs.Ytpjbniihdndlmab.M
