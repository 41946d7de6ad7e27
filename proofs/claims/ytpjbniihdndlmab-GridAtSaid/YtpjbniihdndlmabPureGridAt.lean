/- The plain law of GridAt: the pixel of a place that is told by fractions is the reference's. -/
import Derived.Test.YtpjbniihdndlmabM7
import Derived.Test.YtpjbniihdndlmabM9
import Derived.Test.YtpjbniihdndlmabM10n
import Derived.Test.YtpjbniihdndlmabM12
import Derived.Test.YtpjbniihdndlmabAlive3
import Derived.Test.YtpjbniihdndlmabQx27
import Derived.Test.YtpjbniihdndlmabQx28
namespace Go.Proofs.Ytpjbniihdndlmab.Pure
open Go.RowKit Go.Proofs.Ytpjbniihdndlmab.H Go.Proofs.Ytpjbniihdndlmab.Q Go.Proofs.Ytpjbniihdndlmab.M Go.Proofs.YtpjbniihdndlmabW.PrintWords Go.Proofs.YtpjbniihdndlmabW.PrintMore
set_option linter.unusedVariables false
theorem at3_eq (n1 d1 n2 d2 k : Int) (j : Nat) (hj : rungN k = j) (f1 : Fit n1) (f2 : Fit d1) (f3 : Fit n2) (f4 : Fit d2) (c1 : 0 < d1) (c2 : 0 < d2) (f : Nat) (hf : 1003200 ≤ f) :
  cobwebref03_At.f f (nb n1) (nd n1) (nb d1) (nd d1) (nb n2) (nd n2) (nb d2) (nd d2) k =
   some (nb (snapI n1 d1 j), nd (snapI n1 d1 j), nb (snapI n2 d2 j), nd (snapI n2 d2 j), decide (inG (snapI n1 d1 j) (snapI n2 d2 j) j)) := by
 have h28 := rungN_hi k
 have s1 := len_mono (len_fit (snap_fit n1 d1 f1 c1 j)) (show 10 ≤ 30 by omega)
 have s2 := len_mono (len_fit (snap_fit n2 d2 f3 c2 j)) (show 10 ≤ 30 by omega)
 unfold cobwebref03_At.f
 simp only [rung3_eq, Option.bind_some, hj]
 rw [ref_snap n1 d1 (len_fit f1) (len_fit f2) c1 j (by omega) f hf, Option.bind_some, ref_snap n2 d2 (len_fit f3) (len_fit f4) c2 j (by omega) f hf, Option.bind_some]
 dsimp only
 rw [near3_eq _ s1 j (by omega) f (by omega), Option.bind_some, near3_eq _ s2 j (by omega) f (by omega), Option.bind_some]
 generalize snapI n1 d1 j = u
 generalize snapI n2 d2 j = v
 by_cases c : -134217728 ≤ u * 2 ^ j ∧ u * 2 ^ j ≤ 134217728
 ·rw [if_pos (decide_eq_true c)]
  congr 5
  rw [decide_eq_decide]
  unfold inG
  exact ⟨fun h => ⟨c, h⟩, fun h => h.2⟩
 ·rw [if_neg (by simpa using c)]
  congr 5
  symm
  rw [decide_eq_false_iff_not]
  exact fun h => c h.1
theorem near_small (v : Int) (j : Nat) : (-134217728 ≤ smallG v * 2 ^ j ∧ smallG v * 2 ^ j ≤ 134217728) ↔ (-134217728 ≤ v * 2 ^ j ∧ v * 2 ^ j ≤ 134217728) := by
 by_cases c : -134217728 ≤ v ∧ v ≤ 134217728
 ·rw [small_id c]
 ·constructor
  ·intro h
   have := far_abs h
   unfold smallG at this
   rw [if_neg c] at this
   omega
  ·exact fun h => absurd (far_abs h) c
theorem in_small (u v : Int) (j : Nat) : inG (smallG u) (smallG v) j ↔ inG u v j := by
 unfold inG
 rw [near_small, near_small]
theorem GridAt (a0_0 : Int) (a0_1 : Int) (a0_2 : Int) (a0_3 : Int) (a1_0 : Int) (a1_1 : Int) (a1_2 : Int) (a1_3 : Int) (a2 : Int) (w0_0 : IntKind.i64.has a0_0) (w0_1 : IntKind.u64.has a0_1) (w0_2 : IntKind.i64.has a0_2) (w0_3 : IntKind.u64.has a0_3)
  (w1_0 : IntKind.i64.has a1_0) (w1_1 : IntKind.u64.has a1_1) (w1_2 : IntKind.i64.has a1_2) (w1_3 : IntKind.u64.has a1_3) (w2 : IntKind.i64.has a2) : ∃ k, cobweblaw03_GridAt.f k a0_0 a0_1 a0_2 a0_3 a1_0 a1_1 a1_2 a1_3 a2 = some true := by
 obtain ⟨n1, f1, rfl, rfl⟩ := of_words w0_0 w0_1
 obtain ⟨d1, f2, rfl, rfl⟩ := of_words w0_2 w0_3
 obtain ⟨n2, f3, rfl, rfl⟩ := of_words w1_0 w1_1
 obtain ⟨d2, f4, rfl, rfl⟩ := of_words w1_2 w1_3
 obtain ⟨k, hk⟩ : ∃ k : Nat, k = 1010000 := ⟨_, rfl⟩
 refine ⟨k + 1, ?_⟩
 have al : cobweblaw03_alive.f k = some true := at_rounds cobweblaw03_alive.mono (show 1000 ≤ k by omega) alive3_at
 obtain ⟨j, hj, h28⟩ := rung_nat a2
 have bad : ∀ a b c d e f g h : Int, cobweblaw03_GridAt.j0 (k + 1) a2 false true a b c d e f g h 0 0 = some true := fun a b c d e f g h => by
  simp only [cobweblaw03_GridAt.j0, if_true]
  rw [al]
  rfl
 unfold cobweblaw03_GridAt.f
 rw [gat_eq n1 d1 n2 d2 a2 j hj f1 f2 f3 f4 (k + 1) (by omega), Option.bind_some, sign_eq d1 f2, Option.bind_some]
 by_cases c1 : 0 < d1
 ·rw [if_neg (show ¬ (if d1 < 0 then (-1 : Int) else if d1 = 0 then 0 else 1) ≤ 0 by rw [if_neg (by omega), if_neg (by omega)]; decide), sign_eq d2 f4, Option.bind_some]
  by_cases c2 : 0 < d2
  ·rw [decide_eq_false (show ¬ (if d2 < 0 then (-1 : Int) else if d2 = 0 then 0 else 1) ≤ 0 by rw [if_neg (by omega), if_neg (by omega)]; decide)]
   simp only [cobweblaw03_GridAt.j0, Bool.false_eq_true, if_false]
   rw [old_eq n1 d1 f1 f2 k (by omega), Option.bind_some, old_eq n2 d2 f3 f4 k (by omega), Option.bind_some]
   dsimp only
   rw [at3_eq n1 d1 n2 d2 a2 j hj f1 f2 f3 f4 c1 c2 k (by omega), Option.bind_some]
   dsimp only
   have s1 := snap_fit n1 d1 f1 c1 j
   have s2 := snap_fit n2 d2 f3 c2 j
   generalize snapI n1 d1 j = u at *
   generalize snapI n2 d2 j = v at *
   by_cases c : inG u v j
   ·have r1 := far_abs c.1
    have r2 := far_abs c.2
    rw [if_pos (show (0 < d1 ∧ 0 < d2) ∧ inG (smallG u) (smallG v) j from ⟨⟨c1, c2⟩, (in_small u v j).2 c⟩), if_pos (decide_eq_true c), al, Option.bind_some, if_pos rfl, small_id r1, small_id r2]
    dsimp only
    rw [if_pos rfl, ref_of u (by omega) k (by omega), Option.bind_some]
    dsimp only
    rw [ref_cmp u u 10 k (len_fit s1) (len_fit s1) (by omega) (by omega), Option.bind_some, cmp_self, if_pos rfl, ref_of v (by omega) k (by omega), Option.bind_some]
    dsimp only
    rw [ref_cmp v v 10 k (len_fit s2) (len_fit s2) (by omega) (by omega), Option.bind_some, cmp_self]
    rfl
   ·rw [if_neg (show ¬ ((0 < d1 ∧ 0 < d2) ∧ inG (smallG u) (smallG v) j) from fun h => c ((in_small u v j).1 h.2)), if_neg (by simpa using c), al, Option.bind_some, if_pos rfl]
    rfl
  ·rw [decide_eq_true (show (if d2 < 0 then (-1 : Int) else if d2 = 0 then 0 else 1) ≤ 0 by split <;> (try split) <;> omega), if_neg (show ¬ ((0 < d1 ∧ 0 < d2) ∧ inG (smallG (snapI n1 d1 j)) (smallG (snapI n2 d2 j)) j) from fun h => c2 h.1.2)]
   exact bad _ _ _ _ _ _ _ _
 ·rw [if_pos (show (if d1 < 0 then (-1 : Int) else if d1 = 0 then 0 else 1) ≤ 0 by split <;> (try split) <;> omega), if_neg (show ¬ ((0 < d1 ∧ 0 < d2) ∧ inG (smallG (snapI n1 d1 j)) (smallG (snapI n2 d2 j)) j) from fun h => c1 h.1.1)]
  exact bad _ _ _ _ _ _ _ _
end Go.Proofs.Ytpjbniihdndlmab.Pure
