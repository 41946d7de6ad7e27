/- The plain law of GridCoarse: on the last rung all points that are not too far have one pixel; pixels of two rungs are not far from each other. -/
import Derived.Test.YtpjbniihdndlmabM9
import Derived.Test.YtpjbniihdndlmabAlive3
import Derived.Test.YtpjbniihdndlmabQx33
namespace Go.Proofs.Ytpjbniihdndlmab.Pure
open Go.RowKit Go.Proofs.Ytpjbniihdndlmab.H Go.Proofs.Ytpjbniihdndlmab.Q Go.Proofs.Ytpjbniihdndlmab.M Go.Proofs.YtpjbniihdndlmabW.PrintWords Go.Proofs.YtpjbniihdndlmabW.PrintMore
set_option linter.unusedVariables false
theorem u8has {a : Int} (h : IntKind.u8.has a) : 0 ≤ a ∧ a ≤ 255 := by
  simpa [IntKind.has, IntKind.min, IntKind.max, IntKind.bits, IntKind.signed] using h
theorem mx_le {a b c : Int} (h1 : a ≤ c) (h2 : b ≤ c) : mx a b ≤ c := by unfold mx; split <;> assumption
theorem mx_ge {a b c : Int} (h1 : c ≤ a) : c ≤ mx a b := by unfold mx; split <;> omega
theorem GridCoarse (a0 : Int) (a1 : Int) (a2_0 : Int) (a2_1 : Int) (w0 : IntKind.i64.has a0) (w1 : IntKind.i64.has a1) (w2_0 : IntKind.u8.has a2_0) (w2_1 : IntKind.u8.has a2_1) :
    ∃ k, cobweblaw03_GridCoarse.f k a0 a1 a2_0 a2_1 = some true := by
  have u0 := u8has w2_0
  have u1 := u8has w2_1
  obtain ⟨k, hk⟩ : ∃ k : Nat, k = 5000 := ⟨_, rfl⟩
  refine ⟨k + 1, ?_⟩
  have al : cobweblaw03_alive.f k = some true := at_rounds cobweblaw03_alive.mono (show 1000 ≤ k by omega) alive3_at
  have bad : cobweblaw03_GridCoarse.j0 (k + 1) a0 a1 a2_0 a2_1 true = some true := by
    simp only [cobweblaw03_GridCoarse.j0, if_true]
    rw [al]
    rfl
  unfold cobweblaw03_GridCoarse.f
  by_cases c1 : a0 < -67108864
  · rw [if_pos c1]; exact bad
  · rw [if_neg c1]
    by_cases c2 : a0 > 67108864
    · rw [if_pos c2]; exact bad
    · rw [if_neg c2]
      by_cases c3 : a1 < -67108864
      · rw [if_pos c3]; exact bad
      · rw [if_neg c3]
        by_cases c4 : a1 > 67108864
        · rw [decide_eq_true c4]; exact bad
        · rw [decide_eq_false c4]
          have hx : -67108864 ≤ a0 ∧ a0 ≤ 67108864 := by omega
          have hy : -67108864 ≤ a1 ∧ a1 ≤ 67108864 := by omega
          have ix : I64 a0 := by unfold I64; omega
          have iy : I64 a1 := by unfold I64; omega
          have tm : ∀ u : Int, 0 ≤ u ∧ u ≤ 255 → ∃ i : Nat, Int.tmod (wrap64 u) 29 = i ∧ rungN (Int.tmod (wrap64 u) 29) = i ∧ i ≤ 28 := by
            intro u hu
            rw [show wrap64 u = u by unfold wrap64; omega, Int.tmod_eq_emod_of_nonneg hu.1]
            refine ⟨(u % 29).toNat, by omega, ?_, by omega⟩
            unfold rungN
            rw [if_neg (by omega), if_neg (by omega)]
            omega
          obtain ⟨i, ei, hi, i28⟩ := tm a2_0 u0
          obtain ⟨j, ej, hj, j28⟩ := tm a2_1 u1
          have pi := p28 i28
          have pj := p28 j28
          have b1 := snapG_bounds a0 i
          have b2 := snapG_bounds a1 i
          have b3 := snapG_bounds a0 j
          have b4 := snapG_bounds a1 j
          have in1 := points_in hx hy i28
          have in2 := points_in hx hy j28
          have in1' := in1
          have in2' := in2
          unfold inG at in1' in2'
          have z0 : snapG a0 28 = 0 := by have b := snapG_bounds a0 28; rw [show (2 : Int) ^ 28 = 268435456 by simp] at b; omega
          have z1 : snapG a1 28 = 0 := by have b := snapG_bounds a1 28; rw [show (2 : Int) ^ 28 = 268435456 by simp] at b; omega
          have sw : ∀ (K s : Int), 2 * K * s = 2 * (s * K) := fun K s => by rw [Int.mul_assoc, Int.mul_comm K]
          rw [sw] at b1 b2 b3 b4
          simp only [cobweblaw03_GridCoarse.j0, Bool.false_eq_true, if_false]
          rw [gof_eq a0 a1 _ i hi ix iy, Option.bind_some]
          dsimp only
          rw [center_eq _ _ _ i hi, Option.bind_some, if_pos in1, gof_eq a0 a1 _ j hj ix iy, Option.bind_some]
          dsimp only
          rw [center_eq _ _ _ j hj, Option.bind_some, if_pos in2, al, Option.bind_some, if_pos rfl, gof_eq a0 a1 28 28 (by decide) ix iy, Option.bind_some, z0, z1, if_pos (by decide), size3_eq _ i hi k (by omega), Option.bind_some, size3_eq _ j hj k (by omega), Option.bind_some]
          dsimp only
          congr 1
          rw [decide_eq_true_eq]
          generalize snapG a0 i * 2 ^ i = A at *
          generalize snapG a0 j * 2 ^ j = B at *
          generalize snapG a1 i * 2 ^ i = C at *
          generalize snapG a1 j * 2 ^ j = D at *
          generalize (2 : Int) ^ i = K at *
          generalize (2 : Int) ^ j = L at *
          rw [wid (v := A - B) (by omega), wid (v := B - A) (by omega), wid (v := C - D) (by omega), wid (v := D - C) (by omega), wid (v := K + L) (by omega)]
          have up : ∀ c : Int, A - B ≤ c → B - A ≤ c → C - D ≤ c → D - C ≤ c → mx (mx (mx (A - B) (B - A)) (C - D)) (D - C) ≤ c := fun c h1 h2 h3 h4 => mx_le (mx_le (mx_le h1 h2) h3) h4
          have lo : A - B ≤ mx (mx (mx (A - B) (B - A)) (C - D)) (D - C) := mx_ge (mx_ge (mx_ge (Int.le_refl _)))
          have half := up ((K + L) / 2) (by omega) (by omega) (by omega) (by omega)
          rw [wid (by omega)]
          omega
end Go.Proofs.Ytpjbniihdndlmab.Pure
