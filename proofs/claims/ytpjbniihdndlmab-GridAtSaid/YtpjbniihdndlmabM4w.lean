/- The reference's numbers of two words. -/
import Derived.Test.YtpjbniihdndlmabM4
import Derived.Test.YtpjbniihdndlmabQx14
namespace Go.Proofs.Ytpjbniihdndlmab.M
open Go.RowKit Go.Proofs.Ytpjbniihdndlmab.H Go.Proofs.Ytpjbniihdndlmab.Q Go.Proofs.YtpjbniihdndlmabW.PrintWords Go.Proofs.YtpjbniihdndlmabW.PrintMore
set_option linter.unusedVariables false
theorem unsigned_loop (j : Nat) : ∀ (k : Nat) (n : Int) (out : List Int), n.natAbs < 10000 ^ j → j < k → out.length + j ≤ 1000 → 0 ≤ n → n ≤ 18446744073709551615 →
    cobwebref01_Unsigned.l0 k n false out = some (false, out ++ dg n.natAbs) := by
  induction j with
  | zero =>
    intro k n out h hk _ _ _
    obtain ⟨k, rfl⟩ : ∃ m, k = m + 1 := ⟨k - 1, by omega⟩
    obtain rfl : n = 0 := by simp at h; omega
    simp only [cobwebref01_Unsigned.l0, if_true]
    rw [show (0 : Int).natAbs = 0 from rfl, dg_zero, List.append_nil]
  | succ j ih =>
    intro k n out h hk ho n1 n2
    obtain ⟨k, rfl⟩ : ∃ m, k = m + 1 := ⟨k - 1, by omega⟩
    simp only [cobwebref01_Unsigned.l0]
    by_cases z : n = 0
    · subst z
      rw [if_pos rfl, show (0 : Int).natAbs = 0 from rfl, dg_zero, List.append_nil]
    · rw [if_neg z, if_pos (by omega)]
      have h' : n.natAbs / 10000 < 10000 ^ j := by rw [Nat.pow_succ] at h; omega
      have tm : wrap64 (Int.tmod n 10000) = ((n.natAbs % 10000 : Nat) : Int) := by rw [Int.tmod_eq_emod_of_nonneg n1]; unfold wrap64; omega
      have td : IntKind.u64.wrap (Int.tdiv n 10000) = ((n.natAbs / 10000 : Nat) : Int) := by rw [Int.tdiv_eq_ediv_of_nonneg n1, wu64]; omega
      have fin : (out ++ [((n.natAbs % 10000 : Nat) : Int)]) ++ dg (n.natAbs / 10000) = out ++ dg n.natAbs := by
        rw [dg_pos (n := n.natAbs) (by omega), List.append_assoc]; rfl
      rw [tm, td, ih k _ _ (by rw [Int.natAbs_natCast]; exact h') (by omega) (by simp; omega) (by omega) (by omega), Int.natAbs_natCast, fin]
theorem ref_unsigned (n : Int) (h : Wd n) (k : Nat) (hk : 10 ≤ k) : cobwebref01_Unsigned.f k n = some (nb n, nd n) := by
  unfold Wd at h
  unfold cobwebref01_Unsigned.f
  rw [unsigned_loop 5 k n [] (by have e : 10000 ^ 5 = 100000000000000000000 := by decide
                                 rw [e]; omega) (by omega) (by simp) h.1 (by omega)]
  have : nb n = false := by unfold nb; simp; omega
  rw [this]
  rfl

theorem ref_wide (x : Int) (hx : Fit x) (k : Nat) (hk : 30000 ≤ k) : cobwebref01_Wide.f k (eH x) (eL x) = some (nb x, nd x) := by
  have hx' := hx
  unfold Fit at hx'
  have h1 : -9223372036854775808 ≤ eH x ∧ eH x ≤ 9223372036854775807 := by unfold eH; omega
  have p : (2 : Int) ^ 64 = 18446744073709551616 := by simp
  have l1 := len_i64 h1
  have l2 : Len 10 (eL x) := len_fit (by have := eL_wd x; unfold Wd at this; unfold Fit; omega)
  unfold cobwebref01_Wide.f
  have pw := ref_power 64 (by omega) k (by omega)
  rw [show ((64 : Nat) : Int) = 64 from rfl] at pw
  rw [ref_of _ h1 k (by omega), Option.bind_some, pw, Option.bind_some]
  dsimp only
  rw [ref_mul _ _ k (len_mono l1 (by omega)) (len_mono (len_pow2 64 (by omega)) (by omega)) hk, Option.bind_some, ref_unsigned _ (eL_wd x) k (by omega), Option.bind_some]
  dsimp only
  rw [ref_add _ _ 100 k (len_mono (len_mul l1 (len_pow2 64 (by omega))) (by omega)) (len_mono l2 (by omega)) (by omega) (by omega), Option.bind_some]
  dsimp only
  rw [p, show eH x * 18446744073709551616 + eL x = x by unfold eH eL; omega]
end Go.Proofs.Ytpjbniihdndlmab.M
