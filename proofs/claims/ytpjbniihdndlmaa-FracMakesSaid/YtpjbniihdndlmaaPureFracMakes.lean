/- The plain law of FracMakes: the fraction of two numbers, or that there is none, is the reference's. -/
import Derived.Test.YtpjbniihdndlmaaM1n
import Derived.Test.YtpjbniihdndlmaaM5
import Derived.Test.YtpjbniihdndlmaaM6
import Derived.Test.YtpjbniihdndlmaaAlive2
import Derived.Test.YtpjbniihdndlmaaQx31
import Derived.Test.YtpjbniihdndlmaaQx38
namespace Go.Proofs.Ytpjbniihdndlmaa.Pure
open Go.RowKit Go.Proofs.Ytpjbniihdndlmaa.H Go.Proofs.Ytpjbniihdndlmaa.Q Go.Proofs.Ytpjbniihdndlmaa.M Go.Proofs.YtpjbniihdndlmaaW.PrintWords Go.Proofs.YtpjbniihdndlmaaW.PrintMore
set_option linter.unusedVariables false
theorem make_eq (n d : Int) (hn : Fit n) (hd : Fit d) (k : Nat) (hk : 1 ≤ k) : frac_Make.f k (eH n) (eL n) (eH d) (eL d) =
  some (if 0 < d then (eH n, eL n, eH d, eL d, true) else if Fit (-n) ∧ Fit (-d) ∧ d ≠ 0 then (eH (-n), eL (-n), eH (-d), eL (-d), true) else (0, 0, 0, 0, false)) := by
 obtain ⟨k, rfl⟩ : ∃ m, k = m + 1 := ⟨k - 1, by omega⟩
 have bad : ∀ a b c e : Int, frac_Make.j0 (k + 1) true a b c e = some (0, 0, 0, 0, false) := fun a b c e => by simp only [frac_Make.j0]; rfl
 unfold frac_Make.f
 rw [sign_eq d hd, Option.bind_some]
 by_cases c1 : 0 < d
 ·rw [if_pos (show (if d < 0 then (-1 : Int) else if d = 0 then 0 else 1) > 0 by rw [if_neg (by omega), if_neg (by omega)]; decide), if_pos c1]
 ·rw [if_neg (show ¬ (if d < 0 then (-1 : Int) else if d = 0 then 0 else 1) > 0 by split <;> (try split) <;> omega), if_neg c1, neg_eq n hn, Option.bind_some, neg_eq d hd, Option.bind_some]
  by_cases g1 : Fit (-n)
  ·rw [optI_pos g1]
   dsimp only
   rw [if_pos rfl]
   by_cases g2 : Fit (-d)
   ·rw [optI_pos g2]
    dsimp only
    rw [if_pos rfl, sign_eq (-d) g2, Option.bind_some]
    by_cases z : d = 0
    ·rw [if_neg (show ¬ (Fit (-n) ∧ Fit (-d) ∧ d ≠ 0) from fun h => h.2.2 z), show ((if -d < 0 then (-1 : Int) else if -d = 0 then 0 else 1) == 0) = true by rw [if_neg (by omega), if_pos (by omega)]; rfl]
     exact bad _ _ _ _
    ·rw [if_pos (show Fit (-n) ∧ Fit (-d) ∧ d ≠ 0 from ⟨g1, g2, z⟩), show ((if -d < 0 then (-1 : Int) else if -d = 0 then 0 else 1) == 0) = false by rw [if_neg (by omega), if_neg (by omega)]; rfl]
     simp only [frac_Make.j0, Bool.false_eq_true, if_false]
   ·rw [optI_neg g2, if_neg (by decide), if_neg (show ¬ (Fit (-n) ∧ Fit (-d) ∧ d ≠ 0) from fun h => g2 h.2.1)]
    exact bad _ _ _ _
  ·rw [optI_neg g1, if_neg (by decide), if_neg (show ¬ (Fit (-n) ∧ Fit (-d) ∧ d ≠ 0) from fun h => g1 h.1)]
   exact bad _ _ _ _
theorem FracMakes_end (k : Nat) (hk : 40000 ≤ k) (a2 : Int) (h2 : -9223372036854775808 ≤ a2 ∧ a2 ≤ 9223372036854775807) : cobweblaw02_FracMakes.j2 (k + 1) a2 false = some true := by
 have al : cobweblaw02_alive.f k = some true := at_rounds cobweblaw02_alive.mono (show 1000 ≤ k by omega) alive2_at
 simp only [cobweblaw02_FracMakes.j2, Bool.false_eq_true, if_false]
 rw [al, Option.bind_some, if_pos rfl, frac_of_eq a2 h2, Option.bind_some, of_eq a2 h2, Option.bind_some, of_one, Option.bind_some]
 simp
theorem FracMakes_good (k : Nat) (hk : 40000 ≤ k) (a2 : Int) (h2 : -9223372036854775808 ≤ a2 ∧ a2 ≤ 9223372036854775807) (X Y : Int) (fx : Fit X) (fy : Fit Y) (p : 0 < Y) :
  cobweblaw02_FracMakes.j0 (k + 3) a2 true (eH X) (eL X) (eH Y) (eL Y) (nb X) (nd X) (nb Y) (nd Y) = some true := by
 have lx := len_fit fx
 have ly := len_fit fy
 simp only [cobweblaw02_FracMakes.j0]
 rw [ref_of 0 (by decide) (k + 2) (by omega), Option.bind_some]
 dsimp only
 rw [ref_cmp Y 0 10 (k + 2) ly (len_fit (by decide)) (by omega) (by omega), Option.bind_some, if_neg (by rw [cmp_zero]; omega), ref_fits X (len_mono lx (by omega)) (k + 2) (by omega), Option.bind_some, if_pos (decide_eq_true fx), ref_fits Y (len_mono ly (by omega)) (k + 2) (by omega), Option.bind_some, decide_eq_true fy]
 simp only [cobweblaw02_FracMakes.j1]
 rw [if_neg (by decide)]
 simp only [if_true]
 rw [right_eq X Y fy, Option.bind_some, if_pos (decide_eq_true p), ref_num2 X fx (k + 1) (by omega), Option.bind_some]
 dsimp only
 rw [ref_cmp X X 10 (k + 1) lx lx (by omega) (by omega), Option.bind_some, cmp_self, if_pos rfl, ref_num2 Y fy (k + 1) (by omega), Option.bind_some]
 dsimp only
 rw [ref_cmp Y Y 10 (k + 1) ly ly (by omega) (by omega), Option.bind_some, cmp_self]
 exact FracMakes_end k hk a2 h2
theorem FracMakes_none (k : Nat) (hk : 40000 ≤ k) (a2 : Int) (h2 : -9223372036854775808 ≤ a2 ∧ a2 ≤ 9223372036854775807) (X Y : Int) (lx : Len 20 X) (ly : Len 20 Y) (h : Y = 0 ∨ ¬ Fit X ∨ ¬ Fit Y) :
  cobweblaw02_FracMakes.j0 (k + 3) a2 false 0 0 0 0 (nb X) (nd X) (nb Y) (nd Y) = some true := by
 have last : cobweblaw02_FracMakes.j1 (k + 2) a2 false false 0 0 0 0 (nb X) (nd X) (nb Y) (nd Y) = some true := by
  simp only [cobweblaw02_FracMakes.j1]
  rw [if_neg (by decide), if_neg (by decide), if_neg (by decide)]
  exact FracMakes_end k hk a2 h2
 simp only [cobweblaw02_FracMakes.j0]
 rw [ref_of 0 (by decide) (k + 2) (by omega), Option.bind_some]
 dsimp only
 rw [ref_cmp Y 0 20 (k + 2) ly (len_mono (len_fit (show Fit 0 by decide)) (by omega)) (by omega) (by omega), Option.bind_some]
 by_cases z : Y = 0
 ·rw [if_pos ((cmp_zero _ _).2 z)]
  exact last
 ·rw [if_neg (by rw [cmp_zero]; exact z), ref_fits X (len_mono lx (by omega)) (k + 2) (by omega), Option.bind_some]
  by_cases fx : Fit X
  ·rw [if_pos (decide_eq_true fx), ref_fits Y (len_mono ly (by omega)) (k + 2) (by omega), Option.bind_some, decide_eq_false (show ¬ Fit Y from fun fy => by
    rcases h with h | h | h
    ·exact z h
    ·exact h fx
    ·exact h fy)]
   exact last
  ·rw [if_neg (by simpa using fx)]
   exact last
theorem FracMakes (a0_0 : Int) (a0_1 : Int) (a1_0 : Int) (a1_1 : Int) (a2 : Int) (w0_0 : IntKind.i64.has a0_0) (w0_1 : IntKind.u64.has a0_1) (w1_0 : IntKind.i64.has a1_0) (w1_1 : IntKind.u64.has a1_1) (w2 : IntKind.i64.has a2) :
  ∃ k, cobweblaw02_FracMakes.f k a0_0 a0_1 a1_0 a1_1 a2 = some true := by
 obtain ⟨n, hn, rfl, rfl⟩ := of_words w0_0 w0_1
 obtain ⟨d, hd, rfl, rfl⟩ := of_words w1_0 w1_1
 have h2 := i64has w2
 obtain ⟨k, hk⟩ : ∃ k : Nat, k = 40000 := ⟨_, rfl⟩
 refine ⟨k + 3, ?_⟩
 have ln := len_fit hn
 have ld := len_fit hd
 unfold cobweblaw02_FracMakes.f
 rw [make_eq n d hn hd (k + 3) (by omega), Option.bind_some, ref_num2 n hn (k + 3) (by omega), Option.bind_some, ref_num2 d hd (k + 3) (by omega), Option.bind_some, ref_of 0 (by decide) (k + 3) (by omega), Option.bind_some]
 dsimp only
 rw [ref_cmp d 0 10 (k + 3) ld (len_fit (by decide)) (by omega) (by omega), Option.bind_some]
 by_cases c : d < 0
 ·rw [if_pos (show cmpI d 0 < 0 by unfold cmpI; rw [if_pos c]; decide), ref_neg n 10 (k + 3) ln (by omega) (by omega), Option.bind_some, ref_neg d 10 (k + 3) ld (by omega) (by omega), Option.bind_some, if_neg (show ¬ 0 < d by omega)]
  dsimp only
  by_cases g : Fit (-n) ∧ Fit (-d) ∧ d ≠ 0
  ·rw [if_pos g]
   exact FracMakes_good k (by omega) a2 h2 (-n) (-d) g.1 g.2.1 (by omega)
  ·rw [if_neg g]
   refine FracMakes_none k (by omega) a2 h2 (-n) (-d) (len_mono (len_neg ln) (by omega)) (len_mono (len_neg ld) (by omega)) ?_
   by_cases f1 : Fit (-n)
   ·by_cases f2 : Fit (-d)
    ·exact absurd ⟨f1, f2, by omega⟩ g
    ·exact .inr (.inr f2)
   ·exact .inr (.inl f1)
 ·rw [if_neg (show ¬ cmpI d 0 < 0 by unfold cmpI; rw [if_neg c]; split <;> decide)]
  by_cases c1 : 0 < d
  ·rw [if_pos c1]
   exact FracMakes_good k (by omega) a2 h2 n d hn hd c1
  ·rw [if_neg c1, if_neg (show ¬ (Fit (-n) ∧ Fit (-d) ∧ d ≠ 0) from fun h => h.2.2 (by omega))]
   exact FracMakes_none k (by omega) a2 h2 n d (len_mono ln (by omega)) (len_mono ld (by omega)) (.inl (by omega))
end Go.Proofs.Ytpjbniihdndlmaa.Pure
