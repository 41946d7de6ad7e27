/- Decimal digits: what wide.Text and the reference's Text write. -/
import Derived.Test.YtpjbniihdndlmaaM2
import Derived.Test.YtpjbniihdndlmaaM4
import Derived.Test.YtpjbniihdndlmaaQx10
import Derived.Test.YtpjbniihdndlmaaQx29
namespace Go.Proofs.Ytpjbniihdndlmaa.M
open Go.RowKit Go.Proofs.Ytpjbniihdndlmaa.H Go.Proofs.Ytpjbniihdndlmaa.Q Go.Proofs.YtpjbniihdndlmaaW.PrintWords Go.Proofs.YtpjbniihdndlmaaW.PrintMore
set_option linter.unusedVariables false
theorem str_append (a b : List Int) : strOfNums a ++ strOfNums b = strOfNums (a ++ b) := by
 apply ByteArray.ext
 simp [strOfNums, ByteArray.data_append]
theorem str_len (a : List Int) : (strOfNums a).size = a.length := by simp [strOfNums, ByteArray.size]
/-- The digits of a number above 0; none of 0. -/
def dd (n : Nat) : List Int := if n = 0 then [] else dd (n / 10) ++ [48 + ((n % 10 : Nat) : Int)]
termination_by n
decreasing_by omega
theorem dd_zero : dd 0 = [] := by rw [dd]; rfl
theorem dd_pos {n : Nat} (h : n ≠ 0) : dd n = dd (n / 10) ++ [48 + ((n % 10 : Nat) : Int)] := by rw [dd, if_neg h]
def D4 (d : Nat) : List Int := [48 + ((d / 1000 % 10 : Nat) : Int), 48 + ((d / 100 % 10 : Nat) : Int), 48 + ((d / 10 % 10 : Nat) : Int), 48 + ((d % 10 : Nat) : Int)]
theorem dd_four {n : Nat} (h : n / 10000 ≠ 0) : dd n = dd (n / 10000) ++ D4 (n % 10000) := by
 rw [dd_pos (n := n) (by omega), dd_pos (n := n / 10) (by omega), dd_pos (n := n / 10 / 10) (by omega), dd_pos (n := n / 10 / 10 / 10) (by omega)]
 rw [show n / 10 / 10 / 10 / 10 = n / 10000 by omega]
 unfold D4
 rw [show n % 10000 / 1000 % 10 = n / 10 / 10 / 10 % 10 by omega, show n % 10000 / 100 % 10 = n / 10 / 10 % 10 by omega, show n % 10000 / 10 % 10 = n / 10 % 10 by omega, show n % 10000 % 10 = n % 10 by omega]
 simp
theorem dd_len (j : Nat) : ∀ n : Nat, n < 10 ^ j → (dd n).length ≤ j := by
 induction j with
 | zero =>
  intro n h
  obtain rfl : n = 0 := by simp at h; omega
  rw [dd_zero]
  simp
 | succ j ih =>
  intro n h
  by_cases c : n = 0
  ·subst c; rw [dd_zero]; simp
  ·rw [dd_pos c]
   have := ih (n / 10) (by rw [Nat.pow_succ] at h; omega)
   simp
   omega
/-- What is written for a number. -/
def txt (x : Int) : List Int := (if x < 0 then [45] else []) ++ (if x = 0 then [48] else dd x.natAbs)

theorem or_zero {a b : Int} (ha : Wd a) (hb : Wd b) : Go.bits .or .u64 a b = 0 ↔ a = 0 ∧ b = 0 := by
 unfold Wd at ha hb
 rw [u64_or _ _ ha.1 ha.2 hb.1 hb.2]
 have : a.toNat ||| b.toNat = 0 ↔ a.toNat = 0 ∧ b.toNat = 0 := Nat.or_eq_zero_iff
 omega
theorem div_ten (u : Nat) (hu : u < 340282366920938463463374607431768211456) (k : Nat) (hk : 300 ≤ k) :
  wide_divide.f k (uH u) (uL u) 0 10 = some (uH (u / 10 : Nat), uL (u / 10 : Nat), 0, ((u % 10 : Nat) : Int)) := by
 have h := divide_eq (u : Int) 10 ⟨by omega, by omega⟩ ⟨by omega, by omega⟩ (by omega) k hk
 rw [show uH 10 = 0 from rfl, show uL 10 = 10 from rfl] at h
 rw [h, show ((u : Int) / 10) = ((u / 10 : Nat) : Int) by omega, show ((u : Int) % 10) = ((u % 10 : Nat) : Int) by omega, show uH ((u % 10 : Nat) : Int) = 0 by unfold uH; omega, show uL ((u % 10 : Nat) : Int) = ((u % 10 : Nat) : Int) by unfold uL; omega]
theorem digit_byte (d : Nat) (h : d < 10) : (IntKind.u64.wrap (48 + (d : Int))) % 256 = 48 + (d : Int) := by
 rw [wu64]; omega
theorem text_loop (a0 a1 : Int) (j : Nat) : ∀ (k u : Nat) (out : List Int), j + 310 ≤ k → u < 10 ^ j → u < 340282366920938463463374607431768211456 → out ≠ [] → out.length + j ≤ 1000 →
  wide_Text.l0 k (uH u) (uL u) out a0 a1 = some (strOfNums ((if a0 < 0 then [45] else []) ++ (dd u ++ out))) := by
 induction j with
 | zero =>
  intro k u out hk hu hu2 ho hl
  obtain ⟨k, rfl⟩ : ∃ m, k = m + 1 := ⟨k - 1, by omega⟩
  obtain rfl : u = 0 := by simp at hu; omega
  have l0 : out.length ≠ 0 := fun e => ho (List.eq_nil_of_length_eq_zero e)
  simp only [wide_Text.l0]
  rw [if_neg (by omega), if_pos ((or_zero (by unfold Wd uH; omega) (by unfold Wd uL; omega)).2 ⟨by unfold uH; omega, by unfold uL; omega⟩), dd_zero]
  by_cases c : a0 < 0
  ·rw [if_pos c, if_pos c, Option.bind_some, if_pos (by simp; omega)]
   rfl
  ·rw [if_neg c, if_neg c]
   rfl
 | succ j ih =>
  intro k u out hk hu hu2 ho hl
  obtain ⟨k, rfl⟩ : ∃ m, k = m + 1 := ⟨k - 1, by omega⟩
  have l0 : out.length ≠ 0 := fun e => ho (List.eq_nil_of_length_eq_zero e)
  simp only [wide_Text.l0]
  rw [if_neg (by omega)]
  by_cases z : u = 0
  ·subst z
   rw [if_pos ((or_zero (by unfold Wd uH; omega) (by unfold Wd uL; omega)).2 ⟨by unfold uH; omega, by unfold uL; omega⟩), dd_zero]
   by_cases c : a0 < 0
   ·rw [if_pos c, if_pos c, Option.bind_some, if_pos (by simp; omega)]
    rfl
   ·rw [if_neg c, if_neg c]
    rfl
  ·rw [if_neg (by rw [or_zero (by unfold Wd uH; omega) (by unfold Wd uL; omega)]; unfold uH uL; omega), div_ten u hu2 k (by omega), Option.bind_some]
   dsimp only
   rw [digit_byte _ (by omega), Option.bind_some, if_pos (by simp; omega), ih k (u / 10) _ (by omega) (by rw [Nat.pow_succ] at hu; omega) (by omega) (by simp) (by simp; omega), dd_pos z]
   simp
theorem text_eq (x : Int) (hx : Fit x) (k : Nat) (hk : 400 ≤ k) : wide_Text.f k (eH x) (eL x) = some (strOfNums (txt x)) := by
 have hx' := hx
 unfold Fit at hx'
 obtain ⟨k, rfl⟩ : ∃ m, k = m + 1 := ⟨k - 1, by omega⟩
 unfold wide_Text.f
 rw [size_eq x hx, Option.bind_some]
 have e1 : (x.natAbs : Int) / 18446744073709551616 = uH (x.natAbs : Int) := rfl
 have e2 : (x.natAbs : Int) % 18446744073709551616 = uL (x.natAbs : Int) := rfl
 dsimp only
 rw [e1, e2]
 simp only [wide_Text.l0]
 rw [if_pos (show (([] : List Int).length : Int) = 0 from rfl), div_ten x.natAbs (by omega) k (by omega), Option.bind_some]
 dsimp only
 rw [digit_byte _ (by omega), Option.bind_some, if_pos (by simp), text_loop (eH x) (eL x) 40 k (x.natAbs / 10) _ (by omega) (by omega) (by omega) (by simp) (by simp)]
 have en : (eH x < 0) = (x < 0) := by
  apply propext
  unfold eH
  omega
 unfold txt
 simp only [en]
 congr 2
 by_cases z : x = 0
 ·subst z
  rw [if_pos rfl, show (0 : Int).natAbs = 0 from rfl, Nat.zero_div, dd_zero]
  rfl
 ·rw [if_neg z, dd_pos (n := x.natAbs) (by omega), List.append_nil]

/-! The reference's -/
theorem dg_at (n i : Nat) : (dg n).getD i 0 = ((n / 10000 ^ i % 10000 : Nat) : Int) := by
 induction i generalizing n with
 | zero =>
  by_cases z : n = 0
  ·subst z; rw [dg_zero]; simp
  ·rw [dg_pos z]; simp
 | succ i ih =>
  by_cases z : n = 0
  ·subst z; rw [dg_zero]; simp
  ·rw [dg_pos z, List.getD_cons_succ, ih, Nat.div_div_eq_div_mul, Nat.pow_succ, Nat.mul_comm 10000]
theorem dg_more (n i : Nat) : i < (dg n).length ↔ n / 10000 ^ i ≠ 0 := by
 induction i generalizing n with
 | zero =>
  by_cases z : n = 0
  ·subst z; rw [dg_zero]; simp
  ·rw [dg_pos z]; simp; omega
 | succ i ih =>
  by_cases z : n = 0
  ·subst z; rw [dg_zero]; simp
  ·rw [dg_pos z, List.length_cons, Nat.add_lt_add_iff_right, ih, Nat.div_div_eq_div_mul, Nat.pow_succ, Nat.mul_comm 10000]
theorem byte_ten (v : Nat) (h : v < 10000) : (wrap64 (48 + (Int.tmod (v : Int) 10))) % 256 = 48 + ((v % 10 : Nat) : Int) := by
 rw [Int.tmod_eq_emod_of_nonneg (by omega)]; unfold wrap64; omega
theorem ten_down (v : Nat) (h : v < 10000) : wrap64 (Int.tdiv (v : Int) 10) = ((v / 10 : Nat) : Int) := by
 rw [Int.tdiv_eq_ediv_of_nonneg (by omega)]; unfold wrap64; omega
theorem text_last (n i : Nat) (b : Bool) (B : Nat) (R : Option ByteArray) (hi : i < 1000) (h0 : n / 10000 ^ (i + 1) = 0) (out : List Int) (hl : out.length ≤ 1000) (full : List Int)
  (next : ∀ k, B ≤ k → cobwebref01_Text.l0 k (strOfNums full) ((i + 1 : Nat) : Int) b (dg n) = R) (r : Nat) :
  ∀ (k v : Nat) (mid : List Int), B + r + 1 ≤ k → mid.length + r ≤ 4 → v < 10 ^ r → dd v ++ (mid ++ out) = full → cobwebref01_Text.l1 k (strOfNums (mid ++ out)) (i : Int) (v : Int) ((4 - r : Nat) : Int) b (dg n) = R := by
 have ni : ¬ (wrap64 ((i : Int) + 1) < ((dg n).length : Int)) := by
  have := dg_more n (i + 1)
  unfold wrap64
  omega
 have wi : wrap64 ((i : Int) + 1) = ((i + 1 : Nat) : Int) := by unfold wrap64; omega
 induction r with
 | zero =>
  intro k v mid hk hm hv hf
  obtain ⟨k, rfl⟩ : ∃ m, k = m + 1 := ⟨k - 1, by omega⟩
  obtain rfl : v = 0 := by simp at hv; omega
  rw [dd_zero, List.nil_append] at hf
  simp only [cobwebref01_Text.l1]
  rw [if_neg (by omega), wi, hf]
  exact next k (by omega)
 | succ r ih =>
  intro k v mid hk hm hv hf
  obtain ⟨k, rfl⟩ : ∃ m, k = m + 1 := ⟨k - 1, by omega⟩
  have v4 : v < 10000 := Nat.lt_of_lt_of_le hv (by
   have : 10 ^ (r + 1) ≤ 10 ^ 4 := Nat.pow_le_pow_right (by omega) (by omega)
   simpa using this)
  simp only [cobwebref01_Text.l1]
  rw [if_pos (by omega), if_neg ni]
  by_cases z : v = 0
  ·subst z
   rw [dd_zero, List.nil_append] at hf
   rw [if_neg (by omega), wi, hf]
   exact next k (by omega)
  ·rw [if_pos (by omega), byte_ten v v4, Option.bind_some, str_len, str_len, if_pos (by simp; omega), str_append, ten_down v v4, show wrap64 (((4 - (r + 1) : Nat) : Int) + 1) = ((4 - r : Nat) : Int) by unfold wrap64; omega, ← List.append_assoc]
   exact ih k (v / 10) _ (by omega) (by simp; omega) (by rw [Nat.pow_succ] at hv; omega) (by rw [dd_pos z] at hf; rw [← hf]; simp)
/-- So many digits, noughts ahead. -/
def pad : Nat → Nat → List Int
 | 0, _ => []
 | r + 1, v => pad r (v / 10) ++ [48 + ((v % 10 : Nat) : Int)]
theorem pad_four (v : Nat) : pad 4 v = D4 v := by
 unfold D4
 simp only [pad]
 rw [show v / 10 / 10 / 10 = v / 1000 by omega, show v / 10 / 10 = v / 100 by omega]
 simp
theorem text_mid (n i : Nat) (b : Bool) (B : Nat) (R : Option ByteArray) (hi : i < 1000) (h0 : n / 10000 ^ (i + 1) ≠ 0) (out : List Int) (hl : out.length ≤ 1000) (full : List Int)
  (next : ∀ k, B ≤ k → cobwebref01_Text.l0 k (strOfNums full) ((i + 1 : Nat) : Int) b (dg n) = R) (r : Nat) :
  ∀ (k v : Nat) (mid : List Int), B + r + 1 ≤ k → mid.length + r ≤ 4 → v < 10000 → pad r v ++ (mid ++ out) = full → cobwebref01_Text.l1 k (strOfNums (mid ++ out)) (i : Int) (v : Int) ((4 - r : Nat) : Int) b (dg n) = R := by
 have ni : wrap64 ((i : Int) + 1) < ((dg n).length : Int) := by
  have := (dg_more n (i + 1)).2 h0
  unfold wrap64
  omega
 have wi : wrap64 ((i : Int) + 1) = ((i + 1 : Nat) : Int) := by unfold wrap64; omega
 induction r with
 | zero =>
  intro k v mid hk hm hv hf
  obtain ⟨k, rfl⟩ : ∃ m, k = m + 1 := ⟨k - 1, by omega⟩
  simp only [pad, List.nil_append] at hf
  simp only [cobwebref01_Text.l1]
  rw [if_neg (by omega), wi, hf]
  exact next k (by omega)
 | succ r ih =>
  intro k v mid hk hm hv hf
  obtain ⟨k, rfl⟩ : ∃ m, k = m + 1 := ⟨k - 1, by omega⟩
  simp only [cobwebref01_Text.l1]
  rw [if_pos (by omega), if_pos ni, byte_ten v hv, Option.bind_some, str_len, str_len, if_pos (by simp; omega), str_append, ten_down v hv, show wrap64 (((4 - (r + 1) : Nat) : Int) + 1) = ((4 - r : Nat) : Int) by unfold wrap64; omega, ← List.append_assoc]
  exact ih k (v / 10) _ (by omega) (by simp; omega) (by omega) (by simp only [pad] at hf; rw [← hf]; simp)
theorem ref_text_loop (n : Nat) (b : Bool) (j : Nat) : ∀ (k i : Nat) (out : List Int), 10 * j + 20 ≤ k → i + j ≤ 900 → n / 10000 ^ i < 10000 ^ j → out.length + 4 * j ≤ 900 →
  cobwebref01_Text.l0 k (strOfNums out) (i : Int) b (dg n) = some (strOfNums ((if b = true then [45] else []) ++ (dd (n / 10000 ^ i) ++ out))) := by
 have fin : ∀ (k i : Nat) (out : List Int), n / 10000 ^ i = 0 → out.length ≤ 900 → cobwebref01_Text.l0 (k + 1) (strOfNums out) (i : Int) b (dg n) = some (strOfNums ((if b = true then [45] else []) ++ (dd (n / 10000 ^ i) ++ out))) := by
  intro k i out h hl
  simp only [cobwebref01_Text.l0]
  have nl : ¬ ((i : Int) < ((dg n).length : Int)) := by have := dg_more n i; omega
  rw [if_neg nl, h, dd_zero]
  cases b with
  | true =>
   rw [if_pos rfl, if_pos rfl, str_len, if_pos (by omega), show (⟨#[45]⟩ : ByteArray) = strOfNums [45] from rfl, str_append]
   rfl
  | false =>
   rw [if_neg (by decide), if_neg (by decide)]
   rfl
 induction j with
 | zero =>
  intro k i out hk hi hn hl
  obtain ⟨k, rfl⟩ : ∃ m, k = m + 1 := ⟨k - 1, by omega⟩
  exact fin k i out (Nat.lt_one_iff.1 (by rwa [Nat.pow_zero] at hn)) (by omega)
 | succ j ih =>
  intro k i out hk hi hn hl
  obtain ⟨k, rfl⟩ : ∃ m, k = m + 1 := ⟨k - 1, by omega⟩
  by_cases z : n / 10000 ^ i = 0
  ·exact fin k i out z (by omega)
  ·have il : (i : Int) < ((dg n).length : Int) := by have := (dg_more n i).2 z; omega
   have e1 : n / 10000 ^ (i + 1) = n / 10000 ^ i / 10000 := by rw [Nat.pow_succ, Nat.div_div_eq_div_mul]
   have er : rd (dg n) (i : Int) = ((n / 10000 ^ i % 10000 : Nat) : Int) := by unfold rd; rw [Int.toNat_natCast]; exact dg_at n i
   have hn' : n / 10000 ^ (i + 1) < 10000 ^ j := by rw [e1]; rw [Nat.pow_succ] at hn; exact Nat.div_lt_of_lt_mul (by rw [Nat.mul_comm]; exact hn)
   simp only [cobwebref01_Text.l0]
   rw [if_pos il, if_pos (by omega), er]
   by_cases c : n / 10000 ^ (i + 1) = 0
   ·have cc : n / 10000 ^ i / 10000 = 0 := by rw [← e1]; exact c
    have := text_last n i b (10 * j + 20) (some (strOfNums ((if b = true then [45] else []) ++ (dd (n / 10000 ^ i) ++ out)))) (by omega) c out (by omega) (dd (n / 10000 ^ i) ++ ([] ++ out)) (fun k' hk' => by
     rw [ih k' (i + 1) _ hk' (by omega) hn' (by
      have := dd_len 4 (n / 10000 ^ i) (by omega)
      simp
      omega), c, dd_zero]
     rfl) 4 k (n / 10000 ^ i) [] (by omega) (by simp) (by omega) rfl
    rw [show n / 10000 ^ i % 10000 = n / 10000 ^ i by omega]
    exact this
   ·have := text_mid n i b (10 * j + 20) (some (strOfNums ((if b = true then [45] else []) ++ (dd (n / 10000 ^ i) ++ out)))) (by omega) c out (by omega) (pad 4 (n / 10000 ^ i % 10000) ++ ([] ++ out)) (fun k' hk' => by
     rw [ih k' (i + 1) _ hk' (by omega) hn' (by rw [pad_four]; unfold D4; simp; omega), dd_four (n := n / 10000 ^ i) (by rw [← e1]; exact c), pad_four, e1]
     simp) 4 k (n / 10000 ^ i % 10000) [] (by omega) (by simp) (by omega) rfl
    exact this
theorem ref_text (x : Int) (hx : Len 100 x) (k : Nat) (hk : 2000 ≤ k) : cobwebref01_Text.f k (nb x) (nd x) = some (strOfNums (txt x)) := by
 unfold cobwebref01_Text.f
 by_cases z : x = 0
 ·subst z
  rw [show nd 0 = [] from dg_zero, if_pos (show (([] : List Int).length : Int) = 0 from rfl)]
  rfl
 ·have nz : ¬ (((nd x).length : Int) = 0) := by
   intro e
   have : nd x = [] := List.eq_nil_of_length_eq_zero (by omega)
   unfold nd at this
   rw [dg_nil] at this
   omega
  rw [if_neg nz, show (⟨#[]⟩ : ByteArray) = strOfNums [] from rfl]
  have h := ref_text_loop x.natAbs (nb x) 100 k 0 [] (by omega) (by omega) (by rw [Nat.pow_zero, Nat.div_one]; exact hx) (by simp)
  rw [Nat.pow_zero, Nat.div_one, List.append_nil] at h
  unfold txt
  rw [if_neg z]
  rw [show (if x < 0 then [(45 : Int)] else []) = (if nb x = true then [45] else []) by unfold nb; simp]
  exact h
end Go.Proofs.Ytpjbniihdndlmaa.M
