-- Printed by wip/pp.sh (a session's own turning of the kit's print) for this seat.
import Derived.Test.YtpjbniihdndlmabQx0
namespace Go.Proofs.Ytpjbniihdndlmab.Q
open Go.RowKit Go.Proofs.YtpjbniihdndlmabW.PrintWords Go.Proofs.YtpjbniihdndlmabW.PrintLast Go.Proofs.YtpjbniihdndlmabW.PrintMore
open Go.Proofs.Ytpjbniihdndlmab.H
attribute [local go_sem] hq_add64 hq_sub64 hq_not64 add64c_nn sub64c_nn sub64c_le
attribute [local go_sem] max2_int min2_int max_two min_two max_three min_three max_four min_four   -- for this text's walks alone
set_option linter.unusedVariables false
set_option linter.unusedSimpArgs false

/-! ### wide_divide: function 72 -/
mutual
def wide_divide.l0 : Nat → Int → Int → Int → Int → Int → Int → Int → Int → Int → Option (Int × Int × Int × Int)
  | 0, _, _, _, _, _, _, _, _, _ => none
  | k + 1, x0, x1, x2, x3, x8, x9, x10, x11, x12 => if x12 ≥ 0 then (if 0 ≤ (Int.tmod x12 64) then (if x12 ≥ 64 then (if 0 ≤ (wrap64 (x12 - 64)) then (wide_divide.j1 k x0 x1 x2 x3 x8 x9 x10 x11 x12 (Go.bits .and .u64 (shr .u64 x0 (wrap64 (x12 - 64))) 1)) else (none)) else (wide_divide.j1 k x0 x1 x2 x3 x8 x9 x10 x11 x12 (Go.bits .and .u64 (shr .u64 x1 (Int.tmod x12 64)) 1))) else (none)) else (some (x8, x9, x10, x11))
def wide_divide.j1 : Nat → Int → Int → Int → Int → Int → Int → Int → Int → Int → Int → Option (Int × Int × Int × Int)
  | 0, _, _, _, _, _, _, _, _, _, _ => none
  | k + 1, x0, x1, x2, x3, x8, x9, x10, x11, x12, x13 => if (sub64c (Go.bits .or .u64 (IntKind.u64.wrap (x11 * 2)) x13) x3 0) ≤ 1 then (if (x10 / 9223372036854775808) = 1 then (wide_divide.l0 k x0 x1 x2 x3 (Go.bits .or .u64 (IntKind.u64.wrap (x8 * 2)) (x9 / 9223372036854775808)) (Go.bits .or .u64 (IntKind.u64.wrap (x9 * 2)) 1) (sub64s (Go.bits .or .u64 (IntKind.u64.wrap (x10 * 2)) (x11 / 9223372036854775808)) x2 (sub64c (Go.bits .or .u64 (IntKind.u64.wrap (x11 * 2)) x13) x3 0)) (sub64s (Go.bits .or .u64 (IntKind.u64.wrap (x11 * 2)) x13) x3 0) (wrap64 (x12 - 1))) else (if (sub64c (Go.bits .or .u64 (IntKind.u64.wrap (x10 * 2)) (x11 / 9223372036854775808)) x2 (sub64c (Go.bits .or .u64 (IntKind.u64.wrap (x11 * 2)) x13) x3 0)) = 0 then (wide_divide.l0 k x0 x1 x2 x3 (Go.bits .or .u64 (IntKind.u64.wrap (x8 * 2)) (x9 / 9223372036854775808)) (Go.bits .or .u64 (IntKind.u64.wrap (x9 * 2)) 1) (sub64s (Go.bits .or .u64 (IntKind.u64.wrap (x10 * 2)) (x11 / 9223372036854775808)) x2 (sub64c (Go.bits .or .u64 (IntKind.u64.wrap (x11 * 2)) x13) x3 0)) (sub64s (Go.bits .or .u64 (IntKind.u64.wrap (x11 * 2)) x13) x3 0) (wrap64 (x12 - 1))) else (wide_divide.l0 k x0 x1 x2 x3 (Go.bits .or .u64 (IntKind.u64.wrap (x8 * 2)) (x9 / 9223372036854775808)) (IntKind.u64.wrap (x9 * 2)) (Go.bits .or .u64 (IntKind.u64.wrap (x10 * 2)) (x11 / 9223372036854775808)) (Go.bits .or .u64 (IntKind.u64.wrap (x11 * 2)) x13) (wrap64 (x12 - 1))))) else (none)
end
def wide_divide.f (k : Nat) (a0 : Int) (a1 : Int) (a2 : Int) (a3 : Int) : Option (Int × Int × Int × Int) := wide_divide.l0 k a0 a1 a2 a3 0 0 0 0 127
theorem wide_divide.mono_l : ∀ k, (∀ y0 y1 y2 y3 y4 y5 y6 y7 y8, LeO (wide_divide.l0 k y0 y1 y2 y3 y4 y5 y6 y7 y8) (wide_divide.l0 (k + 1) y0 y1 y2 y3 y4 y5 y6 y7 y8)) ∧ (∀ y0 y1 y2 y3 y4 y5 y6 y7 y8 y9, LeO (wide_divide.j1 k y0 y1 y2 y3 y4 y5 y6 y7 y8 y9) (wide_divide.j1 (k + 1) y0 y1 y2 y3 y4 y5 y6 y7 y8 y9))
  | 0 => ⟨fun _ _ _ _ _ _ _ _ _ r h => by simp [wide_divide.l0] at h, fun _ _ _ _ _ _ _ _ _ _ r h => by simp [wide_divide.j1] at h⟩
  | k + 1 => by
    obtain ⟨ih0, ih1⟩ := wide_divide.mono_l k
    refine ⟨?_, ?_⟩
    · intro y0 y1 y2 y3 y4 y5 y6 y7 y8
      unfold wide_divide.l0
      repeat' first
      | (with_reducible exact ih0 _ _ _ _ _ _ _ _ _)
      | (with_reducible exact ih1 _ _ _ _ _ _ _ _ _ _)
      | (with_reducible exact LeO.refl _)
      | (with_reducible exact LeO.none _)
      | (with_reducible refine LeO.ite ?_ ?_)
      | (with_reducible refine LeO.bind ?_ (fun _ => ?_))
      | exact ih0 _ _ _ _ _ _ _ _ _
      | exact ih1 _ _ _ _ _ _ _ _ _ _
      | exact LeO.none _
      | refine LeO.ite ?_ ?_
      | refine LeO.bind ?_ (fun _ => ?_)
    · intro y0 y1 y2 y3 y4 y5 y6 y7 y8 y9
      unfold wide_divide.j1
      repeat' first
      | (with_reducible exact ih0 _ _ _ _ _ _ _ _ _)
      | (with_reducible exact ih1 _ _ _ _ _ _ _ _ _ _)
      | (with_reducible exact LeO.refl _)
      | (with_reducible exact LeO.none _)
      | (with_reducible refine LeO.ite ?_ ?_)
      | (with_reducible refine LeO.bind ?_ (fun _ => ?_))
      | exact ih0 _ _ _ _ _ _ _ _ _
      | exact ih1 _ _ _ _ _ _ _ _ _ _
      | exact LeO.none _
      | refine LeO.ite ?_ ?_
      | refine LeO.bind ?_ (fun _ => ?_)
theorem wide_divide.mono : ∀ a0 a1 a2 a3 k, LeO (wide_divide.f k a0 a1 a2 a3) (wide_divide.f (k + 1) a0 a1 a2 a3) := by
  intro a0 a1 a2 a3 k
  obtain ⟨ih0, ih1⟩ := wide_divide.mono_l k
  unfold wide_divide.f
  repeat' first
      | (with_reducible exact ih0 _ _ _ _ _ _ _ _ _)
      | (with_reducible exact ih1 _ _ _ _ _ _ _ _ _ _)
      | (with_reducible exact LeO.refl _)
      | (with_reducible exact LeO.none _)
      | (with_reducible refine LeO.ite ?_ ?_)
      | (with_reducible refine LeO.bind ?_ (fun _ => ?_))
      | exact ih0 _ _ _ _ _ _ _ _ _
      | exact ih1 _ _ _ _ _ _ _ _ _ _
      | exact LeO.none _
      | refine LeO.ite ?_ ?_
      | refine LeO.bind ?_ (fun _ => ?_)
set_option maxHeartbeats 8000000 in
set_option maxRecDepth 100000 in
theorem wide_divide.calls (k : Nat) (a0 : Int) (a1 : Int) (a2 : Int) (a3 : Int) (r1 : Int) (r2 : Int) (r3 : Int) (r4 : Int) (w : World) (h : wide_divide.f k a0 a1 a2 a3 = some (r1, r2, r3, r4)) :
    Calls Try.prog 72 #[.int .u64 a0, .int .u64 a1, .int .u64 a2, .int .u64 a3] w fun e w' => e = .returned (.tuple #[.int .u64 r1, .int .u64 r2, .int .u64 r3, .int .u64 r4]) ∧ Drawn0 w w' := by
  have H : (wide_divide.l0 k a0 a1 a2 a3 0 0 0 0 127) = some (r1, r2, r3, r4) := h
  clear h
  have H' := Aside0.mk H
  clear H
  go_enter Try.func72, Try.ntmps72
  go_wp2_with (first | ((first | rw [hq_add64] | rw [hq_sub64]); rotate_left; (first | decide | exact add64c_nn _ _ _ | exact sub64c_nn _ _ _); (first | decide | exact sub64c_le _ _ _ | exact of_eq_true (by assumption))))
  go_loopg [8, 9, 10, 11, 12] k (fun kq v8 v9 v10 v11 v12 w' => ∃ (x8_1 : Int) (x9_1 : Int) (x10_1 : Int) (x11_1 : Int) (x12_1 : Int), v8 = .int .u64 x8_1 ∧ v9 = .int .u64 x9_1 ∧ v10 = .int .u64 x10_1 ∧ v11 = .int .u64 x11_1 ∧ v12 = .int .i64 x12_1 ∧ Aside0 (wide_divide.l0 kq a0 a1 a2 a3 x8_1 x9_1 x10_1 x11_1 x12_1 = some (r1, r2, r3, r4)) ∧ Aside0 (kq ≤ k) ∧ Drawn0 w w')
  case atStart => exact ⟨(0), (0), (0), (0), (127), (by first | rfl | (simp; done) | (simp [*]; done)), (by first | rfl | (simp; done) | (simp [*]; done)), (by first | rfl | (simp; done) | (simp [*]; done)), (by first | rfl | (simp; done) | (simp [*]; done)), (by first | rfl | (simp; done) | (simp [*]; done)), H', ⟨Nat.le_refl _⟩, by repeat (first | exact Drawn0.refl _ | apply Drawn0.step)⟩
  case round =>
    clear H'
    try clear p2
    obtain ⟨x8_1, x9_1, x10_1, x11_1, x12_1, rfl, rfl, rfl, rfl, rfl, HA, HK1, ⟨m1, rfl⟩⟩ := hrel
    cases gk with
    | zero => exact absurd HA.out (by simp [wide_divide.l0])
    | succ k1 =>
      have H := HA.out; clear HA
      simp only [wide_divide.l0] at H
      by_cases c5 : x12_1 ≥ 0
      rotate_left
      · rw [if_neg c5] at H
        have c5b0 : decide (0 ≤ x12_1) = false := decide_eq_false c5
        clear c5
        simp only [Option.some.injEq, Prod.mk.injEq] at H
        obtain ⟨rfl, rfl, rfl, rfl⟩ := H
        go_wp2_with (first | ((first | rw [hq_add64] | rw [hq_sub64]); rotate_left; (first | decide | exact add64c_nn _ _ _ | exact sub64c_nn _ _ _); (first | decide | exact sub64c_le _ _ _ | exact of_eq_true (by assumption))))
        refine bodyPost_ret (results_list (rs := [.tmp 8, .tmp 9, .tmp 10, .tmp 11]) rfl (by simp) (.tmp (.tmp (.tmp (.tmp .nil))))) rfl ?_
        exact ⟨by first | rfl | (simp; done) | (simp [*]; done), by repeat (first | exact Drawn0.refl _ | apply Drawn0.step)⟩

      rw [if_pos c5] at H
      have c5b0 : decide (0 ≤ x12_1) = true := decide_eq_true c5
      clear c5
      obtain ⟨ji6, hji6⟩ : ∃ j_ : Int, (Int.tmod x12_1 64) = j_ := ⟨_, rfl⟩
      replace H : (if 0 ≤ (ji6) then (if x12_1 ≥ 64 then (if 0 ≤ (wrap64 (x12_1 - 64)) then (wide_divide.j1 k1 a0 a1 a2 a3 x8_1 x9_1 x10_1 x11_1 x12_1 (Go.bits .and .u64 (shr .u64 a0 (wrap64 (x12_1 - 64))) 1)) else (none)) else (wide_divide.j1 k1 a0 a1 a2 a3 x8_1 x9_1 x10_1 x11_1 x12_1 (Go.bits .and .u64 (shr .u64 a1 (ji6)) 1))) else (none)) = some (r1, r2, r3, r4) := by first | (rw [hji6] at H; exact H) | (simp only [hji6] at H ⊢; exact H)
      by_cases c7 : 0 ≤ (ji6)
      rotate_left
      · rw [if_neg c7] at H
        exact absurd H (by simp)
      rw [if_pos c7] at H
      have c7b0 := eq_true c7
      have c7b1 : decide (0 ≤ (ji6)) = true := decide_eq_true c7
      clear c7
      obtain ⟨ji8, hji8⟩ : ∃ j_ : Int, (shr .u64 a1 (ji6)) = j_ := ⟨_, rfl⟩
      replace H : (if x12_1 ≥ 64 then (if 0 ≤ (wrap64 (x12_1 - 64)) then (wide_divide.j1 k1 a0 a1 a2 a3 x8_1 x9_1 x10_1 x11_1 x12_1 (Go.bits .and .u64 (shr .u64 a0 (wrap64 (x12_1 - 64))) 1)) else (none)) else (wide_divide.j1 k1 a0 a1 a2 a3 x8_1 x9_1 x10_1 x11_1 x12_1 (Go.bits .and .u64 (ji8) 1))) = some (r1, r2, r3, r4) := by first | (rw [hji8] at H; exact H) | (simp only [hji8] at H ⊢; exact H)
      have hji8_ : (a1 / 2 ^ min (ji6).toNat 64) = ji8 := hji8
      have hji8z : (ji6) ≤ 64 → (a1 / 2 ^ (ji6).toNat) = ji8 := shr_small hji8
      have HC9 := Aside0.mk H
      clear H
      go_upto_if 29 with (fail)
      go_cut [13] (fun v13 wc => ∃ (kq : Nat) (x13_8 : Int), v13 = .int .u64 x13_8 ∧ Aside0 (wide_divide.j1 kq a0 a1 a2 a3 x8_1 x9_1 x10_1 x11_1 x12_1 x13_8 = some (r1, r2, r3, r4)) ∧ Aside0 (kq ≤ k1) ∧ Drawn0 w wc)
      case first =>
        have H := HC9.out; clear HC9
        by_cases c10 : x12_1 ≥ 64
        rotate_left
        · rw [if_neg c10] at H
          have c10b0 : decide (64 ≤ x12_1) = false := decide_eq_false c10
          clear c10
          (first | rw [c10b0] | (simp only [i64_w, i32_w]; rw [c10b0]) | skip)
          have H' := Aside0.mk H
          clear H
          go_wp2_with (first | ((first | rw [hq_add64] | rw [hq_sub64]); rotate_left; (first | decide | exact add64c_nn _ _ _ | exact sub64c_nn _ _ _); (first | decide | exact sub64c_le _ _ _ | exact of_eq_true (by assumption))))
          go_meet
          case rel => exact ⟨_, (Go.bits .and .u64 (ji8) 1), (by first | rfl | (simp; done) | (simp only [← hji8] <;> (first | rfl | simp)) | (simp [*]; done)), H', ⟨by have := HK1.out; first | omega | exact Nat.le_refl _⟩, by repeat (first | exact Drawn0.refl _ | apply Drawn0.step)⟩
        rw [if_pos c10] at H
        have c10b0 : decide (64 ≤ x12_1) = true := decide_eq_true c10
        clear c10
        (first | rw [c10b0] | (simp only [i64_w, i32_w]; rw [c10b0]) | skip)
        obtain ⟨ji11, hji11⟩ : ∃ j_ : Int, (wrap64 (x12_1 - 64)) = j_ := ⟨_, rfl⟩
        replace H : (if 0 ≤ (ji11) then (wide_divide.j1 k1 a0 a1 a2 a3 x8_1 x9_1 x10_1 x11_1 x12_1 (Go.bits .and .u64 (shr .u64 a0 (ji11)) 1)) else (none)) = some (r1, r2, r3, r4) := by first | (rw [hji11] at H; exact H) | (simp only [hji11] at H ⊢; exact H)
        have hji11w : (IntKind.i64.wrap (x12_1 - 64)) = ji11 := (i64_w _).trans hji11
        by_cases c12 : 0 ≤ (ji11)
        rotate_left
        · rw [if_neg c12] at H
          exact absurd H (by simp)
        rw [if_pos c12] at H
        have c12b0 := eq_true c12
        have c12b1 : decide (0 ≤ (ji11)) = true := decide_eq_true c12
        clear c12
        obtain ⟨ji13, hji13⟩ : ∃ j_ : Int, (shr .u64 a0 (ji11)) = j_ := ⟨_, rfl⟩
        replace H : (wide_divide.j1 k1 a0 a1 a2 a3 x8_1 x9_1 x10_1 x11_1 x12_1 (Go.bits .and .u64 (ji13) 1)) = some (r1, r2, r3, r4) := by first | (rw [hji13] at H; exact H) | (simp only [hji13] at H ⊢; exact H)
        have hji13_ : (a0 / 2 ^ min (ji11).toNat 64) = ji13 := hji13
        have hji13z : (ji11) ≤ 64 → (a0 / 2 ^ (ji11).toNat) = ji13 := shr_small hji13
        have H' := Aside0.mk H
        clear H
        go_wp2_with (first | ((first | rw [hq_add64] | rw [hq_sub64]); rotate_left; (first | decide | exact add64c_nn _ _ _ | exact sub64c_nn _ _ _); (first | decide | exact sub64c_le _ _ _ | exact of_eq_true (by assumption))))
        go_meet
        case rel => exact ⟨_, (Go.bits .and .u64 (ji13) 1), (by first | rfl | (simp; done) | (simp only [← hji13] <;> (first | rfl | simp)) | (simp [*]; done)), H', ⟨by have := HK1.out; first | omega | exact Nat.le_refl _⟩, by repeat (first | exact Drawn0.refl _ | apply Drawn0.step)⟩
      case rest =>
        clear HC9; try clear c1; try clear p2; try clear c5; try clear c5b0; try clear p6; try clear c7; try clear c7b0; try clear c7b1; try clear c10; try clear c10b0; try clear c12; try clear c12b0; try clear c12b1; try clear p2
        obtain ⟨kq, x13_8, rfl, HA, HJ8, ⟨mc8, rfl⟩⟩ := hcut
        cases kq with
        | zero => exact absurd HA.out (by simp [wide_divide.j1])
        | succ kj8 =>
          have H := HA.out; clear HA
          simp only [wide_divide.j1] at H
          by_cases c14 : (sub64c (Go.bits .or .u64 (IntKind.u64.wrap (x11_1 * 2)) x13_8) a3 0) ≤ 1
          rotate_left
          · rw [if_neg c14] at H
            exact absurd H (by simp)
          rw [if_pos c14] at H
          have c14b0 := eq_true c14
          have c14b1 : decide ((sub64c (Go.bits .or .u64 (IntKind.u64.wrap (x11_1 * 2)) x13_8) a3 0) ≤ 1) = true := decide_eq_true c14
          clear c14
          by_cases c15 : (x10_1 / 9223372036854775808) = 1
          · rw [if_pos c15] at H
            have c15b0 : ((x10_1 / 9223372036854775808) == 1) = true := beq_iff_eq.mpr c15
            have c15b1 : ((x10_1 / 9223372036854775808) != 1) = false := bne_eq_false_iff_eq.mpr c15
            clear c15
            have H' := Aside0.mk H
            clear H
            go_wp2_with (first | ((first | rw [hq_add64] | rw [hq_sub64]); rotate_left; (first | decide | exact add64c_nn _ _ _ | exact sub64c_nn _ _ _); (first | decide | exact sub64c_le _ _ _ | exact of_eq_true (by assumption))))
            go_roundg kj8
            case measure => have := HK1.out; have := HJ8.out; omega
            case rel => exact ⟨(Go.bits .or .u64 (IntKind.u64.wrap (x8_1 * 2)) (x9_1 / 9223372036854775808)), (Go.bits .or .u64 (IntKind.u64.wrap (x9_1 * 2)) 1), (sub64s (Go.bits .or .u64 (IntKind.u64.wrap (x10_1 * 2)) (x11_1 / 9223372036854775808)) a2 (sub64c (Go.bits .or .u64 (IntKind.u64.wrap (x11_1 * 2)) x13_8) a3 0)), (sub64s (Go.bits .or .u64 (IntKind.u64.wrap (x11_1 * 2)) x13_8) a3 0), (wrap64 (x12_1 - 1)), (by first | rfl | (simp; done) | (simp [*]; done)), (by first | rfl | (simp; done) | (simp [*]; done)), (by first | rfl | (simp; done) | (simp [*]; done)), (by first | rfl | (simp; done) | (simp [*]; done)), (by first | rfl | (simp; done) | (simp [*]; done)), H', ⟨by have := HK1.out; have := HJ8.out; omega⟩, by repeat (first | exact Drawn0.refl _ | apply Drawn0.step)⟩
          rw [if_neg c15] at H
          have c15b0 : ((x10_1 / 9223372036854775808) == 1) = false := beq_eq_false_iff_ne.mpr c15
          have c15b1 : ((x10_1 / 9223372036854775808) != 1) = true := bne_iff_ne.mpr c15
          by_cases c16 : (sub64c (Go.bits .or .u64 (IntKind.u64.wrap (x10_1 * 2)) (x11_1 / 9223372036854775808)) a2 (sub64c (Go.bits .or .u64 (IntKind.u64.wrap (x11_1 * 2)) x13_8) a3 0)) = 0
          rotate_left
          · rw [if_neg c16] at H
            have c16b0 : ((sub64c (Go.bits .or .u64 (IntKind.u64.wrap (x10_1 * 2)) (x11_1 / 9223372036854775808)) a2 (sub64c (Go.bits .or .u64 (IntKind.u64.wrap (x11_1 * 2)) x13_8) a3 0)) == 0) = false := beq_eq_false_iff_ne.mpr c16
            have c16b1 : ((sub64c (Go.bits .or .u64 (IntKind.u64.wrap (x10_1 * 2)) (x11_1 / 9223372036854775808)) a2 (sub64c (Go.bits .or .u64 (IntKind.u64.wrap (x11_1 * 2)) x13_8) a3 0)) != 0) = true := bne_iff_ne.mpr c16
            have H' := Aside0.mk H
            clear H
            go_wp2_with (first | ((first | rw [hq_add64] | rw [hq_sub64]); rotate_left; (first | decide | exact add64c_nn _ _ _ | exact sub64c_nn _ _ _); (first | decide | exact sub64c_le _ _ _ | exact of_eq_true (by assumption))))
            go_roundg kj8
            case measure => have := HK1.out; have := HJ8.out; omega
            case rel => exact ⟨(Go.bits .or .u64 (IntKind.u64.wrap (x8_1 * 2)) (x9_1 / 9223372036854775808)), (IntKind.u64.wrap (x9_1 * 2)), (Go.bits .or .u64 (IntKind.u64.wrap (x10_1 * 2)) (x11_1 / 9223372036854775808)), (Go.bits .or .u64 (IntKind.u64.wrap (x11_1 * 2)) x13_8), (wrap64 (x12_1 - 1)), (by first | rfl | (simp; done) | (simp [*]; done)), (by first | rfl | (simp; done) | (simp [*]; done)), (by first | rfl | (simp; done) | (simp [*]; done)), (by first | rfl | (simp; done) | (simp [*]; done)), (by first | rfl | (simp; done) | (simp [*]; done)), H', ⟨by have := HK1.out; have := HJ8.out; omega⟩, by repeat (first | exact Drawn0.refl _ | apply Drawn0.step)⟩
          rw [if_pos c16] at H
          have c16b0 : ((sub64c (Go.bits .or .u64 (IntKind.u64.wrap (x10_1 * 2)) (x11_1 / 9223372036854775808)) a2 (sub64c (Go.bits .or .u64 (IntKind.u64.wrap (x11_1 * 2)) x13_8) a3 0)) == 0) = true := beq_iff_eq.mpr c16
          have c16b1 : ((sub64c (Go.bits .or .u64 (IntKind.u64.wrap (x10_1 * 2)) (x11_1 / 9223372036854775808)) a2 (sub64c (Go.bits .or .u64 (IntKind.u64.wrap (x11_1 * 2)) x13_8) a3 0)) != 0) = false := bne_eq_false_iff_eq.mpr c16
          clear c16
          have H' := Aside0.mk H
          clear H
          go_wp2_with (first | ((first | rw [hq_add64] | rw [hq_sub64]); rotate_left; (first | decide | exact add64c_nn _ _ _ | exact sub64c_nn _ _ _); (first | decide | exact sub64c_le _ _ _ | exact of_eq_true (by assumption))))
          go_roundg kj8
          case measure => have := HK1.out; have := HJ8.out; omega
          case rel => exact ⟨(Go.bits .or .u64 (IntKind.u64.wrap (x8_1 * 2)) (x9_1 / 9223372036854775808)), (Go.bits .or .u64 (IntKind.u64.wrap (x9_1 * 2)) 1), (sub64s (Go.bits .or .u64 (IntKind.u64.wrap (x10_1 * 2)) (x11_1 / 9223372036854775808)) a2 (sub64c (Go.bits .or .u64 (IntKind.u64.wrap (x11_1 * 2)) x13_8) a3 0)), (sub64s (Go.bits .or .u64 (IntKind.u64.wrap (x11_1 * 2)) x13_8) a3 0), (wrap64 (x12_1 - 1)), (by first | rfl | (simp; done) | (simp [*]; done)), (by first | rfl | (simp; done) | (simp [*]; done)), (by first | rfl | (simp; done) | (simp [*]; done)), (by first | rfl | (simp; done) | (simp [*]; done)), (by first | rfl | (simp; done) | (simp [*]; done)), H', ⟨by have := HK1.out; have := HJ8.out; omega⟩, by repeat (first | exact Drawn0.refl _ | apply Drawn0.step)⟩
end Go.Proofs.Ytpjbniihdndlmab.Q
