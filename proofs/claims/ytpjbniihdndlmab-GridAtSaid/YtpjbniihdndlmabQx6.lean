-- Printed by wip/pp.sh (a session's own turning of the kit's print) for this seat.
import Derived.Test.YtpjbniihdndlmabQx0
import Derived.Test.YtpjbniihdndlmabQx1
import Derived.Test.YtpjbniihdndlmabQx5
namespace Go.Proofs.Ytpjbniihdndlmab.Q
open Go.RowKit Go.Proofs.YtpjbniihdndlmabW.PrintWords Go.Proofs.YtpjbniihdndlmabW.PrintLast Go.Proofs.YtpjbniihdndlmabW.PrintMore
open Go.Proofs.Ytpjbniihdndlmab.H
attribute [local go_sem] hq_add64 hq_sub64 hq_not64 add64c_nn sub64c_nn sub64c_le
attribute [local go_sem] max2_int min2_int max_two min_two max_three min_three max_four min_four   -- for this text's walks alone
set_option linter.unusedVariables false
set_option linter.unusedSimpArgs false

attribute [local go_sem high] eqA24
/-! ### wide_divide: function 72 -/
mutual
def wide_divide.l0 : Nat → Int → Int → Int → Int → Int → Int → Int → Int → Int → Option (Int × Int × Int × Int)
 | 0, _, _, _, _, _, _, _, _, _ => none
 | k + 1, x0, x1, x2, x3, x8, x9, x10, x11, x12 => if x12 ≥ 0 then (if 0 ≤ (Int.tmod x12 64) then (if x12 ≥ 64 then (if 0 ≤ (wrap64 (x12 - 64)) then (wide_divide.j1 k x0 x1 x2 x3 x8 x9 x10 x11 x12 (Go.bits .and .u64 (shr .u64 x0 (wrap64 (x12 - 64))) 1)) else (none)) else (wide_divide.j1 k x0 x1 x2 x3 x8 x9 x10 x11 x12 (Go.bits .and .u64 (shr .u64 x1 (Int.tmod x12 64)) 1))) else (none)) else (some (x8, x9, x10, x11))
def wide_divide.j1 : Nat → Int → Int → Int → Int → Int → Int → Int → Int → Int → Int → Option (Int × Int × Int × Int)
 | 0, _, _, _, _, _, _, _, _, _, _ => none
 | k + 1, x0, x1, x2, x3, x8, x9, x10, x11, x12, x13 => if (sub64c (Go.bits .or .u64 (IntKind.u64.wrap (x11 * 2)) x13) x3 0) ≤ 1 then (if (x10 / 9223372036854775808) = 1 then (wide_divide.l0 k x0 x1 x2 x3 (Go.bits .or .u64 (IntKind.u64.wrap (x8 * 2)) (x9 / 9223372036854775808)) (Go.bits .or .u64 (IntKind.u64.wrap (x9 * 2)) 1) (sub64s (Go.bits .or .u64 (IntKind.u64.wrap (x10 * 2)) (x11 / 9223372036854775808)) x2 (sub64c (Go.bits .or .u64 (IntKind.u64.wrap (x11 * 2)) x13) x3 0)) (sub64s (Go.bits .or .u64 (IntKind.u64.wrap (x11 * 2)) x13) x3 0) (wrap64 (x12 - 1))) else (if (sub64c (Go.bits .or .u64 (IntKind.u64.wrap (x10 * 2)) (x11 / 9223372036854775808)) x2 (sub64c (Go.bits .or .u64 (IntKind.u64.wrap (x11 * 2)) x13) x3 0)) = 0 then (wide_divide.l0 k x0 x1 x2 x3 (Go.bits .or .u64 (IntKind.u64.wrap (x8 * 2)) (x9 / 9223372036854775808)) (Go.bits .or .u64 (IntKind.u64.wrap (x9 * 2)) 1) (sub64s (Go.bits .or .u64 (IntKind.u64.wrap (x10 * 2)) (x11 / 9223372036854775808)) x2 (sub64c (Go.bits .or .u64 (IntKind.u64.wrap (x11 * 2)) x13) x3 0)) (sub64s (Go.bits .or .u64 (IntKind.u64.wrap (x11 * 2)) x13) x3 0) (wrap64 (x12 - 1))) else (wide_divide.l0 k x0 x1 x2 x3 (Go.bits .or .u64 (IntKind.u64.wrap (x8 * 2)) (x9 / 9223372036854775808)) (IntKind.u64.wrap (x9 * 2)) (Go.bits .or .u64 (IntKind.u64.wrap (x10 * 2)) (x11 / 9223372036854775808)) (Go.bits .or .u64 (IntKind.u64.wrap (x11 * 2)) x13) (wrap64 (x12 - 1))))) else (none)
end
def wide_divide.f (k : Nat) (a0 : Int) (a1 : Int) (a2 : Int) (a3 : Int) : Option (Int × Int × Int × Int) := wide_divide.l0 k a0 a1 a2 a3 0 0 0 0 127
theorem wide_divide.mono_l : ∀ k, (∀ y0 y1 y2 y3 y4 y5 y6 y7 y8, LeO (wide_divide.l0 k y0 y1 y2 y3 y4 y5 y6 y7 y8) (wide_divide.l0 (k + 1) y0 y1 y2 y3 y4 y5 y6 y7 y8)) ∧ (∀ y0 y1 y2 y3 y4 y5 y6 y7 y8 y9, LeO (wide_divide.j1 k y0 y1 y2 y3 y4 y5 y6 y7 y8 y9) (wide_divide.j1 (k + 1) y0 y1 y2 y3 y4 y5 y6 y7 y8 y9))
 | 0 => ⟨fun _ _ _ _ _ _ _ _ _ r h => by simp [wide_divide.l0] at h, fun _ _ _ _ _ _ _ _ _ _ r h => by simp [wide_divide.j1] at h⟩
 | k + 1 => by
  obtain ⟨ih0, ih1⟩ := wide_divide.mono_l k; refine ⟨?_, ?_⟩
  ·intro y0 y1 y2 y3 y4 y5 y6 y7 y8
   unfold wide_divide.l0
   repeat' first
   | (with_reducible exact ih0 _ _ _ _ _ _ _ _ _)
   | (with_reducible exact ih1 _ _ _ _ _ _ _ _ _ _)
   | (with_reducible exact LeO.refl _)
   | (with_reducible exact LeO.none _)
   | (with_reducible refine LeO.ite ?_ ?_)
   | (with_reducible refine LeO.bind ?_ (fun _ => ?_))
   | exact ih0 _ _ _ _ _ _ _ _ _
   | exact ih1 _ _ _ _ _ _ _ _ _ _
   | exact LeO.none _
   | refine LeO.ite ?_ ?_
   | refine LeO.bind ?_ (fun _ => ?_)
  ·intro y0 y1 y2 y3 y4 y5 y6 y7 y8 y9
   unfold wide_divide.j1
   repeat' first
   | (with_reducible exact ih0 _ _ _ _ _ _ _ _ _)
   | (with_reducible exact ih1 _ _ _ _ _ _ _ _ _ _)
   | (with_reducible exact LeO.refl _)
   | (with_reducible exact LeO.none _)
   | (with_reducible refine LeO.ite ?_ ?_)
   | (with_reducible refine LeO.bind ?_ (fun _ => ?_))
   | exact ih0 _ _ _ _ _ _ _ _ _
   | exact ih1 _ _ _ _ _ _ _ _ _ _
   | exact LeO.none _
   | refine LeO.ite ?_ ?_
   | refine LeO.bind ?_ (fun _ => ?_)
theorem wide_divide.mono : ∀ a0 a1 a2 a3 k, LeO (wide_divide.f k a0 a1 a2 a3) (wide_divide.f (k + 1) a0 a1 a2 a3) := by
 intro a0 a1 a2 a3 k; obtain ⟨ih0, ih1⟩ := wide_divide.mono_l k
 unfold wide_divide.f
 repeat' first
   | (with_reducible exact ih0 _ _ _ _ _ _ _ _ _)
   | (with_reducible exact ih1 _ _ _ _ _ _ _ _ _ _)
   | (with_reducible exact LeO.refl _)
   | (with_reducible exact LeO.none _)
   | (with_reducible refine LeO.ite ?_ ?_)
   | (with_reducible refine LeO.bind ?_ (fun _ => ?_))
   | exact ih0 _ _ _ _ _ _ _ _ _
   | exact ih1 _ _ _ _ _ _ _ _ _ _
   | exact LeO.none _
   | refine LeO.ite ?_ ?_
   | refine LeO.bind ?_ (fun _ => ?_)
set_option maxHeartbeats 8000000 in
set_option maxRecDepth 100000 in
theorem wide_divide.calls (k : Nat) (a0 : Int) (a1 : Int) (a2 : Int) (a3 : Int) (r1 : Int) (r2 : Int) (r3 : Int) (r4 : Int) (w : World) (h : wide_divide.f k a0 a1 a2 a3 = some (r1, r2, r3, r4)) :
  Calls Try.prog 72 #[.int .u64 a0, .int .u64 a1, .int .u64 a2, .int .u64 a3] w fun e w' => e = .returned (.tuple #[.int .u64 r1, .int .u64 r2, .int .u64 r3, .int .u64 r4]) ∧ Drawn0 w w' := by
 have H : (wide_divide.l0 k a0 a1 a2 a3 0 0 0 0 127) = some (r1, r2, r3, r4) := h; clear h; have H' := Aside0.mk H; clear H
 go_enter Try.func72, Try.ntmps72
 go_wp2_with (first | ((first | rw [hq_add64] | rw [hq_sub64]); rotate_left; (first | decide | exact add64c_nn _ _ _ | exact sub64c_nn _ _ _); (first | decide | exact sub64c_le _ _ _ | exact of_eq_true (by assumption))))
 go_loopg [8, 9, 10, 11, 12] k (fun kq v8 v9 v10 v11 v12 w' => ∃ (x8_1 : Int) (x9_1 : Int) (x10_1 : Int) (x11_1 : Int) (x12_1 : Int), v8 = .int .u64 x8_1 ∧ v9 = .int .u64 x9_1 ∧ v10 = .int .u64 x10_1 ∧ v11 = .int .u64 x11_1 ∧ v12 = .int .i64 x12_1 ∧ Aside0 (wide_divide.l0 kq a0 a1 a2 a3 x8_1 x9_1 x10_1 x11_1 x12_1 = some (r1, r2, r3, r4)) ∧ Aside0 (kq ≤ k) ∧ Drawn0 w w')
 case atStart => exact ⟨(0), (0), (0), (0), (127), (by first | rfl | (simp; done) | (simp [*]; done)), (by first | rfl | (simp; done) | (simp [*]; done)), (by first | rfl | (simp; done) | (simp [*]; done)), (by first | rfl | (simp; done) | (simp [*]; done)), (by first | rfl | (simp; done) | (simp [*]; done)), H', ⟨Nat.le_refl _⟩, by repeat (first | exact Drawn0.refl _ | apply Drawn0.step)⟩
 case round =>
  clear H'
  try clear p2
  obtain ⟨x8_1, x9_1, x10_1, x11_1, x12_1, rfl, rfl, rfl, rfl, rfl, HA, HK1, ⟨m1, rfl⟩⟩ := hrel
  cases gk with
  | zero => exact absurd HA.out (by simp [wide_divide.l0])
  | succ k1 =>
   have H := HA.out; clear HA
   simp only [wide_divide.l0] at H
   by_cases c5 : x12_1 ≥ 0
   rotate_left
   ·rw [if_neg c5] at H
    have c5b0 : decide (0 ≤ x12_1) = false := decide_eq_false c5; clear c5
    simp only [Option.some.injEq, Prod.mk.injEq] at H
    obtain ⟨rfl, rfl, rfl, rfl⟩ := H
    go_wp2_with (first | ((first | rw [hq_add64] | rw [hq_sub64]); rotate_left; (first | decide | exact add64c_nn _ _ _ | exact sub64c_nn _ _ _); (first | decide | exact sub64c_le _ _ _ | exact of_eq_true (by assumption))))
    refine bodyPost_ret (results_list (rs := [.tmp 8, .tmp 9, .tmp 10, .tmp 11]) rfl (by simp) (.tmp (.tmp (.tmp (.tmp .nil))))) rfl ?_; exact ⟨by first | rfl | (simp; done) | (simp [*]; done), by repeat (first | exact Drawn0.refl _ | apply Drawn0.step)⟩

   rw [if_pos c5] at H
   have c5b0 : decide (0 ≤ x12_1) = true := decide_eq_true c5; clear c5; obtain ⟨ji6, hji6⟩ : ∃ j_ : Int, (Int.tmod x12_1 64) = j_ := ⟨_, rfl⟩
   replace H : (if 0 ≤ (ji6) then (if x12_1 ≥ 64 then (if 0 ≤ (wrap64 (x12_1 - 64)) then (wide_divide.j1 k1 a0 a1 a2 a3 x8_1 x9_1 x10_1 x11_1 x12_1 (Go.bits .and .u64 (shr .u64 a0 (wrap64 (x12_1 - 64))) 1)) else (none)) else (wide_divide.j1 k1 a0 a1 a2 a3 x8_1 x9_1 x10_1 x11_1 x12_1 (Go.bits .and .u64 (shr .u64 a1 (ji6)) 1))) else (none)) = some (r1, r2, r3, r4) := by first | (rw [hji6] at H; exact H) | (simp only [hji6] at H ⊢; exact H)
   by_cases c7 : 0 ≤ (ji6)
   rotate_left
   ·rw [if_neg c7] at H
    exact absurd H (by simp)
   rw [if_pos c7] at H
   have c7b0 := eq_true c7; have c7b1 : decide (0 ≤ (ji6)) = true := decide_eq_true c7; clear c7; obtain ⟨ji8, hji8⟩ : ∃ j_ : Int, (shr .u64 a1 (ji6)) = j_ := ⟨_, rfl⟩
   replace H : (if x12_1 ≥ 64 then (if 0 ≤ (wrap64 (x12_1 - 64)) then (wide_divide.j1 k1 a0 a1 a2 a3 x8_1 x9_1 x10_1 x11_1 x12_1 (Go.bits .and .u64 (shr .u64 a0 (wrap64 (x12_1 - 64))) 1)) else (none)) else (wide_divide.j1 k1 a0 a1 a2 a3 x8_1 x9_1 x10_1 x11_1 x12_1 (Go.bits .and .u64 (ji8) 1))) = some (r1, r2, r3, r4) := by first | (rw [hji8] at H; exact H) | (simp only [hji8] at H ⊢; exact H)
   have hji8_ : (a1 / 2 ^ min (ji6).toNat 64) = ji8 := hji8; have hji8z : (ji6) ≤ 64 → (a1 / 2 ^ (ji6).toNat) = ji8 := shr_small hji8; have HC9 := Aside0.mk H; clear H
   go_upto_if 29 with (fail)
   go_cut [13] (fun v13 wc => ∃ (kq : Nat) (x13_8 : Int), v13 = .int .u64 x13_8 ∧ Aside0 (wide_divide.j1 kq a0 a1 a2 a3 x8_1 x9_1 x10_1 x11_1 x12_1 x13_8 = some (r1, r2, r3, r4)) ∧ Aside0 (kq ≤ k1) ∧ Drawn0 w wc)
   case first =>
    have H := HC9.out; clear HC9
    by_cases c10 : x12_1 ≥ 64
    rotate_left
    ·rw [if_neg c10] at H
     have c10b0 : decide (64 ≤ x12_1) = false := decide_eq_false c10; clear c10
     (first | rw [c10b0] | (simp only [i64_w, i32_w]; rw [c10b0]) | skip)
     have H' := Aside0.mk H; clear H
     go_wp2_with (first | ((first | rw [hq_add64] | rw [hq_sub64]); rotate_left; (first | decide | exact add64c_nn _ _ _ | exact sub64c_nn _ _ _); (first | decide | exact sub64c_le _ _ _ | exact of_eq_true (by assumption))))
     go_meet
     case rel => exact ⟨_, (Go.bits .and .u64 (ji8) 1), (by first | rfl | (simp; done) | (simp only [← hji8] <;> (first | rfl | simp)) | (simp [*]; done)), H', ⟨by have := HK1.out; first | omega | exact Nat.le_refl _⟩, by repeat (first | exact Drawn0.refl _ | apply Drawn0.step)⟩
    rw [if_pos c10] at H
    have c10b0 : decide (64 ≤ x12_1) = true := decide_eq_true c10; clear c10
    (first | rw [c10b0] | (simp only [i64_w, i32_w]; rw [c10b0]) | skip)
    obtain ⟨ji11, hji11⟩ : ∃ j_ : Int, (wrap64 (x12_1 - 64)) = j_ := ⟨_, rfl⟩
    replace H : (if 0 ≤ (ji11) then (wide_divide.j1 k1 a0 a1 a2 a3 x8_1 x9_1 x10_1 x11_1 x12_1 (Go.bits .and .u64 (shr .u64 a0 (ji11)) 1)) else (none)) = some (r1, r2, r3, r4) := by first | (rw [hji11] at H; exact H) | (simp only [hji11] at H ⊢; exact H)
    have hji11w : (IntKind.i64.wrap (x12_1 - 64)) = ji11 := (i64_w _).trans hji11
    by_cases c12 : 0 ≤ (ji11)
    rotate_left
    ·rw [if_neg c12] at H
     exact absurd H (by simp)
    rw [if_pos c12] at H
    have c12b0 := eq_true c12; have c12b1 : decide (0 ≤ (ji11)) = true := decide_eq_true c12; clear c12; obtain ⟨ji13, hji13⟩ : ∃ j_ : Int, (shr .u64 a0 (ji11)) = j_ := ⟨_, rfl⟩
    replace H : (wide_divide.j1 k1 a0 a1 a2 a3 x8_1 x9_1 x10_1 x11_1 x12_1 (Go.bits .and .u64 (ji13) 1)) = some (r1, r2, r3, r4) := by first | (rw [hji13] at H; exact H) | (simp only [hji13] at H ⊢; exact H)
    have hji13_ : (a0 / 2 ^ min (ji11).toNat 64) = ji13 := hji13; have hji13z : (ji11) ≤ 64 → (a0 / 2 ^ (ji11).toNat) = ji13 := shr_small hji13; have H' := Aside0.mk H; clear H
    go_wp2_with (first | ((first | rw [hq_add64] | rw [hq_sub64]); rotate_left; (first | decide | exact add64c_nn _ _ _ | exact sub64c_nn _ _ _); (first | decide | exact sub64c_le _ _ _ | exact of_eq_true (by assumption))))
    go_meet
    case rel => exact ⟨_, (Go.bits .and .u64 (ji13) 1), (by first | rfl | (simp; done) | (simp only [← hji13] <;> (first | rfl | simp)) | (simp [*]; done)), H', ⟨by have := HK1.out; first | omega | exact Nat.le_refl _⟩, by repeat (first | exact Drawn0.refl _ | apply Drawn0.step)⟩
   case rest =>
    clear HC9; try clear c1; try clear p2; try clear c5; try clear c5b0; try clear p6; try clear c7; try clear c7b0; try clear c7b1; try clear c10; try clear c10b0; try clear c12; try clear c12b0; try clear c12b1; try clear p2
    obtain ⟨kq, x13_8, rfl, HA, HJ8, ⟨mc8, rfl⟩⟩ := hcut
    cases kq with
    | zero => exact absurd HA.out (by simp [wide_divide.j1])
    | succ kj8 =>
     have H := HA.out; clear HA
     simp only [wide_divide.j1] at H
     by_cases c14 : (sub64c (Go.bits .or .u64 (IntKind.u64.wrap (x11_1 * 2)) x13_8) a3 0) ≤ 1
     rotate_left
     ·rw [if_neg c14] at H
      exact absurd H (by simp)
     rw [if_pos c14] at H
     have c14b0 := eq_true c14; have c14b1 : decide ((sub64c (Go.bits .or .u64 (IntKind.u64.wrap (x11_1 * 2)) x13_8) a3 0) ≤ 1) = true := decide_eq_true c14; clear c14
     by_cases c15 : (x10_1 / 9223372036854775808) = 1
     ·rw [if_pos c15] at H
      have c15b0 : ((x10_1 / 9223372036854775808) == 1) = true := beq_iff_eq.mpr c15; have c15b1 : ((x10_1 / 9223372036854775808) != 1) = false := bne_eq_false_iff_eq.mpr c15; clear c15; have H' := Aside0.mk H; clear H
      go_wp2_with (first | ((first | rw [hq_add64] | rw [hq_sub64]); rotate_left; (first | decide | exact add64c_nn _ _ _ | exact sub64c_nn _ _ _); (first | decide | exact sub64c_le _ _ _ | exact of_eq_true (by assumption))))
      go_roundg kj8
      case measure => have := HK1.out; have := HJ8.out; omega
      case rel => exact ⟨(Go.bits .or .u64 (IntKind.u64.wrap (x8_1 * 2)) (x9_1 / 9223372036854775808)), (Go.bits .or .u64 (IntKind.u64.wrap (x9_1 * 2)) 1), (sub64s (Go.bits .or .u64 (IntKind.u64.wrap (x10_1 * 2)) (x11_1 / 9223372036854775808)) a2 (sub64c (Go.bits .or .u64 (IntKind.u64.wrap (x11_1 * 2)) x13_8) a3 0)), (sub64s (Go.bits .or .u64 (IntKind.u64.wrap (x11_1 * 2)) x13_8) a3 0), (wrap64 (x12_1 - 1)), (by first | rfl | (simp; done) | (simp [*]; done)), (by first | rfl | (simp; done) | (simp [*]; done)), (by first | rfl | (simp; done) | (simp [*]; done)), (by first | rfl | (simp; done) | (simp [*]; done)), (by first | rfl | (simp; done) | (simp [*]; done)), H', ⟨by have := HK1.out; have := HJ8.out; omega⟩, by repeat (first | exact Drawn0.refl _ | apply Drawn0.step)⟩
     rw [if_neg c15] at H
     have c15b0 : ((x10_1 / 9223372036854775808) == 1) = false := beq_eq_false_iff_ne.mpr c15; have c15b1 : ((x10_1 / 9223372036854775808) != 1) = true := bne_iff_ne.mpr c15
     by_cases c16 : (sub64c (Go.bits .or .u64 (IntKind.u64.wrap (x10_1 * 2)) (x11_1 / 9223372036854775808)) a2 (sub64c (Go.bits .or .u64 (IntKind.u64.wrap (x11_1 * 2)) x13_8) a3 0)) = 0
     rotate_left
     ·rw [if_neg c16] at H
      have c16b0 : ((sub64c (Go.bits .or .u64 (IntKind.u64.wrap (x10_1 * 2)) (x11_1 / 9223372036854775808)) a2 (sub64c (Go.bits .or .u64 (IntKind.u64.wrap (x11_1 * 2)) x13_8) a3 0)) == 0) = false := beq_eq_false_iff_ne.mpr c16; have c16b1 : ((sub64c (Go.bits .or .u64 (IntKind.u64.wrap (x10_1 * 2)) (x11_1 / 9223372036854775808)) a2 (sub64c (Go.bits .or .u64 (IntKind.u64.wrap (x11_1 * 2)) x13_8) a3 0)) != 0) = true := bne_iff_ne.mpr c16; have H' := Aside0.mk H; clear H
      go_wp2_with (first | ((first | rw [hq_add64] | rw [hq_sub64]); rotate_left; (first | decide | exact add64c_nn _ _ _ | exact sub64c_nn _ _ _); (first | decide | exact sub64c_le _ _ _ | exact of_eq_true (by assumption))))
      go_roundg kj8
      case measure => have := HK1.out; have := HJ8.out; omega
      case rel => exact ⟨(Go.bits .or .u64 (IntKind.u64.wrap (x8_1 * 2)) (x9_1 / 9223372036854775808)), (IntKind.u64.wrap (x9_1 * 2)), (Go.bits .or .u64 (IntKind.u64.wrap (x10_1 * 2)) (x11_1 / 9223372036854775808)), (Go.bits .or .u64 (IntKind.u64.wrap (x11_1 * 2)) x13_8), (wrap64 (x12_1 - 1)), (by first | rfl | (simp; done) | (simp [*]; done)), (by first | rfl | (simp; done) | (simp [*]; done)), (by first | rfl | (simp; done) | (simp [*]; done)), (by first | rfl | (simp; done) | (simp [*]; done)), (by first | rfl | (simp; done) | (simp [*]; done)), H', ⟨by have := HK1.out; have := HJ8.out; omega⟩, by repeat (first | exact Drawn0.refl _ | apply Drawn0.step)⟩
     rw [if_pos c16] at H
     have c16b0 : ((sub64c (Go.bits .or .u64 (IntKind.u64.wrap (x10_1 * 2)) (x11_1 / 9223372036854775808)) a2 (sub64c (Go.bits .or .u64 (IntKind.u64.wrap (x11_1 * 2)) x13_8) a3 0)) == 0) = true := beq_iff_eq.mpr c16; have c16b1 : ((sub64c (Go.bits .or .u64 (IntKind.u64.wrap (x10_1 * 2)) (x11_1 / 9223372036854775808)) a2 (sub64c (Go.bits .or .u64 (IntKind.u64.wrap (x11_1 * 2)) x13_8) a3 0)) != 0) = false := bne_eq_false_iff_eq.mpr c16; clear c16; have H' := Aside0.mk H; clear H
     go_wp2_with (first | ((first | rw [hq_add64] | rw [hq_sub64]); rotate_left; (first | decide | exact add64c_nn _ _ _ | exact sub64c_nn _ _ _); (first | decide | exact sub64c_le _ _ _ | exact of_eq_true (by assumption))))
     go_roundg kj8
     case measure => have := HK1.out; have := HJ8.out; omega
     case rel => exact ⟨(Go.bits .or .u64 (IntKind.u64.wrap (x8_1 * 2)) (x9_1 / 9223372036854775808)), (Go.bits .or .u64 (IntKind.u64.wrap (x9_1 * 2)) 1), (sub64s (Go.bits .or .u64 (IntKind.u64.wrap (x10_1 * 2)) (x11_1 / 9223372036854775808)) a2 (sub64c (Go.bits .or .u64 (IntKind.u64.wrap (x11_1 * 2)) x13_8) a3 0)), (sub64s (Go.bits .or .u64 (IntKind.u64.wrap (x11_1 * 2)) x13_8) a3 0), (wrap64 (x12_1 - 1)), (by first | rfl | (simp; done) | (simp [*]; done)), (by first | rfl | (simp; done) | (simp [*]; done)), (by first | rfl | (simp; done) | (simp [*]; done)), (by first | rfl | (simp; done) | (simp [*]; done)), (by first | rfl | (simp; done) | (simp [*]; done)), H', ⟨by have := HK1.out; have := HJ8.out; omega⟩, by repeat (first | exact Drawn0.refl _ | apply Drawn0.step)⟩
/-! ### wide_Div: function 49 -/
def wide_Div.j0 : Nat → Bool → Int → Int → Int → Int → Int → Int → Option (Int × Int × Int × Int × Bool)
 | 0, _, _, _, _, _, _, _ => none
 | k + 1, x56, x151000, x151001, x152000, x152001, x153000, x153001 => if x56 = true then ((wide_Of.f (-1)).bind fun bt163 => ((wide_wrap.f x152000 x152001 bt163.1 bt163.2).bind fun bt165 => ((wide_turn.f x153000 x153001).bind fun bt167 => ((wide_wrap.f x151000 x151001 bt167.1 bt167.2).bind fun bt169 => (some (bt165.1, bt165.2, bt169.1, bt169.2, true)))))) else (some (x152000, x152001, x153000, x153001, true))
def wide_Div.f (k : Nat) (a0_0 : Int) (a0_1 : Int) (a1_0 : Int) (a1_1 : Int) : Option (Int × Int × Int × Int × Bool) := (wide_Sign.f a1_0 a1_1).bind fun t153 => (if t153 ≤ 0 then (some (0, 0, 0, 0, false)) else ((wide_size.f a0_0 a0_1).bind fun bt154 => ((wide_divide.f k bt154.1 bt154.2 (IntKind.u64.wrap (a1_0)) a1_1).bind fun bt156 => ((wide_signed.f bt156.1 bt156.2.1 (decide (a0_0 < 0))).bind fun bt160 => (if a0_0 < 0 then (wide_Div.j0 k (!((wrap64 (bt156.2.2.1)) == 0) || (!(bt156.2.2.2 == 0))) a1_0 a1_1 bt160.1 bt160.2.1 (wrap64 (bt156.2.2.1)) bt156.2.2.2) else (wide_Div.j0 k false a1_0 a1_1 bt160.1 bt160.2.1 (wrap64 (bt156.2.2.1)) bt156.2.2.2))))))
theorem wide_Div.mono_l : ∀ k, (∀ y0 y1 y2 y3 y4 y5 y6, LeO (wide_Div.j0 k y0 y1 y2 y3 y4 y5 y6) (wide_Div.j0 (k + 1) y0 y1 y2 y3 y4 y5 y6))
 | 0 => fun _ _ _ _ _ _ _ r h => by simp [wide_Div.j0] at h
 | k + 1 => by
  have ih0 := wide_Div.mono_l k
  ·intro y0 y1 y2 y3 y4 y5 y6
   unfold wide_Div.j0
   repeat' first
   | (with_reducible exact ih0 _ _ _ _ _ _ _)
   | (with_reducible exact wide_divide.mono _ _ _ _ _)
   | (with_reducible exact LeO.refl _)
   | (with_reducible exact LeO.none _)
   | (with_reducible refine LeO.ite ?_ ?_)
   | (with_reducible refine LeO.bind ?_ (fun _ => ?_))
   | exact ih0 _ _ _ _ _ _ _
   | exact wide_divide.mono _ _ _ _ _
   | exact LeO.none _
   | refine LeO.ite ?_ ?_
   | refine LeO.bind ?_ (fun _ => ?_)
theorem wide_Div.mono : ∀ a0 a1 a2 a3 k, LeO (wide_Div.f k a0 a1 a2 a3) (wide_Div.f (k + 1) a0 a1 a2 a3) := by
 intro a0 a1 a2 a3 k; have ih0 := wide_Div.mono_l k
 unfold wide_Div.f
 repeat' first
   | (with_reducible exact ih0 _ _ _ _ _ _ _)
   | (with_reducible exact wide_divide.mono _ _ _ _ _)
   | (with_reducible exact LeO.refl _)
   | (with_reducible exact LeO.none _)
   | (with_reducible refine LeO.ite ?_ ?_)
   | (with_reducible refine LeO.bind ?_ (fun _ => ?_))
   | exact ih0 _ _ _ _ _ _ _
   | exact wide_divide.mono _ _ _ _ _
   | exact LeO.none _
   | refine LeO.ite ?_ ?_
   | refine LeO.bind ?_ (fun _ => ?_)
set_option maxHeartbeats 8000000 in
set_option maxRecDepth 100000 in
theorem wide_Div.calls (k : Nat) (a0_0 : Int) (a0_1 : Int) (a1_0 : Int) (a1_1 : Int) (r1 : Int) (r2 : Int) (r3 : Int) (r4 : Int) (r5 : Bool) (w : World) (h : wide_Div.f k a0_0 a0_1 a1_0 a1_1 = some (r1, r2, r3, r4, r5)) :
  Calls Try.prog 49 #[.agg #[.int .i64 a0_0, .int .u64 a0_1], .agg #[.int .i64 a1_0, .int .u64 a1_1]] w fun e w' => e = .returned (.tuple #[.agg #[.int .i64 r1, .int .u64 r2], .agg #[.int .i64 r3, .int .u64 r4], .bool r5]) ∧ Below w.heap.size w w' := by
 have hu24 := Try.underlying24; have HB := Aside0.mk (Below.refl w.heap.size w); have H : ((wide_Sign.f a1_0 a1_1).bind fun t153 => (if t153 ≤ 0 then (some (0, 0, 0, 0, false)) else ((wide_size.f a0_0 a0_1).bind fun bt154 => ((wide_divide.f k bt154.1 bt154.2 (IntKind.u64.wrap (a1_0)) a1_1).bind fun bt156 => ((wide_signed.f bt156.1 bt156.2.1 (decide (a0_0 < 0))).bind fun bt160 => (if a0_0 < 0 then (wide_Div.j0 k (!((wrap64 (bt156.2.2.1)) == 0) || (!(bt156.2.2.2 == 0))) a1_0 a1_1 bt160.1 bt160.2.1 (wrap64 (bt156.2.2.1)) bt156.2.2.2) else (wide_Div.j0 k false a1_0 a1_1 bt160.1 bt160.2.1 (wrap64 (bt156.2.2.1)) bt156.2.2.2))))))) = some (r1, r2, r3, r4, r5) := h; clear h; replace H := Option.bind_eq_some_iff.mp H; obtain ⟨t153, A30, H⟩ := H; (try dsimp only at H); have A3 := Aside0.mk A30; clear A30
 by_cases c4 : t153 ≤ 0
 ·rw [if_pos c4] at H
  have c4b0 : decide (t153 ≤ 0) = true := decide_eq_true c4; clear c4
  simp only [Option.some.injEq, Prod.mk.injEq] at H
  obtain ⟨rfl, rfl, rfl, rfl, rfl⟩ := H
  go_enter Try.func49, Try.ntmps49
  go_wp2_with (first | ((with_reducible refine gate_dst (N := 2) rfl ?_); refine box_event ?hg (N := 2) ?hd (cs := #[.int .i64 a0_0, .int .u64 a0_1]) (t := 24) ?hr ?_; (case hd => rfl); (case hg => rfl); (case hr => first | (go_simp; done) | (go_simp; rfl)); intro gb149 hg w5 hbox hb; have BK149 := Aside0.mk (hbox); have GW149 := kS HB hg; have GE149 := kS HB hg; replace HB := kB HB hb; clear hb hbox hg) | ((with_reducible refine gate_dst (N := 3) rfl ?_); refine box_event ?hg (N := 3) ?hd (cs := #[.int .i64 a1_0, .int .u64 a1_1]) (t := 24) ?hr ?_; (case hd => rfl); (case hg => rfl); (case hr => first | (go_simp; done) | (go_simp; rfl)); intro gb150 hg w6 hbox hb; have BK150 := Aside0.mk (hbox); have GW150 := kS HB hg; have GE150 := kS HB hg; have NB149_150 := kN BK149 hg; have NB150_149 := kM BK149 hg; replace BK149 := kb BK149 hb; replace HB := kB HB hb; clear hb hbox hg) | ((with_reducible refine gate_dst (N := 4) rfl ?_); refine box_event ?hg (N := 4) ?hd (cs := #[.int .i64 0, .int .u64 0]) (t := 24) ?hr ?_; (case hd => rfl); (case hg => rfl); (case hr => first | (go_simp; done) | (go_simp; rfl)); intro gb151 hg w7 hbox hb; have BK151 := Aside0.mk (hbox); have GW151 := kS HB hg; have GE151 := kS HB hg; have NB149_151 := kN BK149 hg; have NB151_149 := kM BK149 hg; have NB150_151 := kN BK150 hg; have NB151_150 := kM BK150 hg; replace BK149 := kb BK149 hb; replace BK150 := kb BK150 hb; replace HB := kB HB hb; clear hb hbox hg) | ((with_reducible refine gate_dst (N := 5) rfl ?_); refine box_event ?hg (N := 5) ?hd (cs := #[.int .i64 0, .int .u64 0]) (t := 24) ?hr ?_; (case hd => rfl); (case hg => rfl); (case hr => first | (go_simp; done) | (go_simp; rfl)); intro gb152 hg w8 hbox hb; have BK152 := Aside0.mk (hbox); have GW152 := kS HB hg; have GE152 := kS HB hg; have NB149_152 := kN BK149 hg; have NB152_149 := kM BK149 hg; have NB150_152 := kN BK150 hg; have NB152_150 := kM BK150 hg; have NB151_152 := kN BK151 hg; have NB152_151 := kM BK151 hg; replace BK149 := kb BK149 hb; replace BK150 := kb BK150 hb; replace BK151 := kb BK151 hb; replace HB := kB HB hb; clear hb hbox hg; have hnb9 := NB150_149.out; have hnc9 := NB149_150.out; have hnb10 := NB150_151.out; have hnc10 := NB151_150.out; have hnb11 := NB150_152.out; have hnc11 := NB152_150.out; have hcz12_0 : w8.cell? ⟨gb150, 0, none⟩ = some (.int .i64 a1_0) := kc BK150 0; have hcz12_1 : w8.cell? ⟨gb150, 1, none⟩ = some (.int .u64 a1_1) := kc BK150 1; have hfz12_0 := blk_frozen BK150.out 0; have hfz12_1 := blk_frozen BK150.out 1) | ((with_reducible refine gate_callee (f := 15) rfl ?_); refine gL 14 Try.func15 #[.agg #[.int .i64 a1_0, .int .u64 a1_1]] ?_; (with_reducible refine (wide_Sign.calls a1_0 a1_1 t153 _ A3.out).mono ?_); rintro e w13 ⟨rfl, hb⟩; refine ⟨_, rfl, ?_⟩; replace BK149 := kb BK149 hb; replace BK150 := kb BK150 hb; replace BK151 := kb BK151 hb; replace BK152 := kb BK152 hb; replace HB := kB HB hb; (try clear hb); (try clear hb2); (try clear hk); (try clear hi); have hnb14 := NB151_149.out; have hnc14 := NB149_151.out; have hnb15 := NB151_152.out; have hnc15 := NB152_151.out; have hcz16_0 : w13.cell? ⟨gb151, 0, none⟩ = some (.int .i64 0) := kc BK151 0; have hcz16_1 : w13.cell? ⟨gb151, 1, none⟩ = some (.int .u64 0) := kc BK151 1; have hfz16_0 := blk_frozen BK151.out 0; have hfz16_1 := blk_frozen BK151.out 1; have hnb17 := NB152_149.out; have hnc17 := NB149_152.out; have hcz18_0 : w13.cell? ⟨gb152, 0, none⟩ = some (.int .i64 0) := kc BK152 0; have hcz18_1 : w13.cell? ⟨gb152, 1, none⟩ = some (.int .u64 0) := kc BK152 1; have hfz18_0 := blk_frozen BK152.out 0; have hfz18_1 := blk_frozen BK152.out 1))
  refine bodyPost_ret (results_list (rs := [.cell 4 24, .cell 5 24, .tmp 6]) rfl (by simp) (.cell gb151 24 #[.int .i64 0, .int .u64 0] (0, 0) _ rfl (by (with_reducible repeat (first | refine zr ?_ _ | refine zw ?_ | refine za ?_ _)); refine blk_far ?_ NB151_152.out _; (with_reducible repeat (first | refine zr ?_ _ | refine zw ?_ | refine za ?_ _)); refine blk_far ?_ NB151_152.out _; (with_reducible repeat (first | refine zr ?_ _ | refine zw ?_ | refine za ?_ _)); refine blk_put (cs := #[.int .i64 0, .int .u64 0]) ?_ 1 _ rfl; (with_reducible repeat (first | refine zr ?_ _ | refine zw ?_ | refine za ?_ _)); refine blk_put (cs := #[.int .i64 0, .int .u64 0]) ?_ 0 _ rfl; (with_reducible repeat (first | refine zr ?_ _ | refine zw ?_ | refine za ?_ _)); exact BK151.out) Try.underlying24 rfl (by kernel_rfl) (.cell gb152 24 #[.int .i64 0, .int .u64 0] (0, 0) _ rfl (by (with_reducible repeat (first | refine zr ?_ _ | refine zw ?_ | refine za ?_ _)); refine blk_put (cs := #[.int .i64 0, .int .u64 0]) ?_ 1 _ rfl; (with_reducible repeat (first | refine zr ?_ _ | refine zw ?_ | refine za ?_ _)); refine blk_put (cs := #[.int .i64 0, .int .u64 0]) ?_ 0 _ rfl; (with_reducible repeat (first | refine zr ?_ _ | refine zw ?_ | refine za ?_ _)); refine blk_far ?_ NB152_151.out _; (with_reducible repeat (first | refine zr ?_ _ | refine zw ?_ | refine za ?_ _)); refine blk_far ?_ NB152_151.out _; (with_reducible repeat (first | refine zr ?_ _ | refine zw ?_ | refine za ?_ _)); exact BK152.out) Try.underlying24 rfl (by kernel_rfl) (.tmp .nil)))) rfl ?_; exact ⟨by first | rfl | (simp [errW_none, errW_some] <;> rfl) | (simp [*, errW_none, errW_some] <;> rfl), ky HB⟩
 rw [if_neg c4] at H
 have c4b0 : decide (t153 ≤ 0) = false := decide_eq_false c4; clear c4; replace H := Option.bind_eq_some_iff.mp H; obtain ⟨⟨t154, t155⟩, A190, H⟩ := H; (try dsimp only at H); have A19 := Aside0.mk A190; clear A190; replace H := Option.bind_eq_some_iff.mp H; obtain ⟨⟨t156, t157, t158, t159⟩, A200, H⟩ := H; (try dsimp only at H); have A20 := Aside0.mk A200; clear A200; replace H := Option.bind_eq_some_iff.mp H; obtain ⟨⟨t160, t161, t162⟩, A210, H⟩ := H; (try dsimp only at H); have A21 := Aside0.mk A210; clear A210; have HC22 := Aside0.mk H; clear H
 go_enter Try.func49, Try.ntmps49
 go_upto_region 7 with (first | ((with_reducible refine gate_dst (N := 2) rfl ?_); refine box_event ?hg (N := 2) ?hd (cs := #[.int .i64 a0_0, .int .u64 a0_1]) (t := 24) ?hr ?_; (case hd => rfl); (case hg => rfl); (case hr => first | (go_simp; done) | (go_simp; rfl)); intro gb149 hg w23 hbox hb; have BK149 := Aside0.mk (hbox); have GW149 := kS HB hg; have GE149 := kS HB hg; replace HB := kB HB hb; clear hb hbox hg) | ((with_reducible refine gate_dst (N := 3) rfl ?_); refine box_event ?hg (N := 3) ?hd (cs := #[.int .i64 a1_0, .int .u64 a1_1]) (t := 24) ?hr ?_; (case hd => rfl); (case hg => rfl); (case hr => first | (go_simp; done) | (go_simp; rfl)); intro gb150 hg w24 hbox hb; have BK150 := Aside0.mk (hbox); have GW150 := kS HB hg; have GE150 := kS HB hg; have NB149_150 := kN BK149 hg; have NB150_149 := kM BK149 hg; replace BK149 := kb BK149 hb; replace HB := kB HB hb; clear hb hbox hg) | ((with_reducible refine gate_dst (N := 4) rfl ?_); refine box_event ?hg (N := 4) ?hd (cs := #[.int .i64 0, .int .u64 0]) (t := 24) ?hr ?_; (case hd => rfl); (case hg => rfl); (case hr => first | (go_simp; done) | (go_simp; rfl)); intro gb151 hg w25 hbox hb; have BK151 := Aside0.mk (hbox); have GW151 := kS HB hg; have GE151 := kS HB hg; have NB149_151 := kN BK149 hg; have NB151_149 := kM BK149 hg; have NB150_151 := kN BK150 hg; have NB151_150 := kM BK150 hg; replace BK149 := kb BK149 hb; replace BK150 := kb BK150 hb; replace HB := kB HB hb; clear hb hbox hg) | ((with_reducible refine gate_dst (N := 5) rfl ?_); refine box_event ?hg (N := 5) ?hd (cs := #[.int .i64 0, .int .u64 0]) (t := 24) ?hr ?_; (case hd => rfl); (case hg => rfl); (case hr => first | (go_simp; done) | (go_simp; rfl)); intro gb152 hg w26 hbox hb; have BK152 := Aside0.mk (hbox); have GW152 := kS HB hg; have GE152 := kS HB hg; have NB149_152 := kN BK149 hg; have NB152_149 := kM BK149 hg; have NB150_152 := kN BK150 hg; have NB152_150 := kM BK150 hg; have NB151_152 := kN BK151 hg; have NB152_151 := kM BK151 hg; replace BK149 := kb BK149 hb; replace BK150 := kb BK150 hb; replace BK151 := kb BK151 hb; replace HB := kB HB hb; clear hb hbox hg; have hnb27 := NB150_149.out; have hnc27 := NB149_150.out; have hnb28 := NB150_151.out; have hnc28 := NB151_150.out; have hnb29 := NB150_152.out; have hnc29 := NB152_150.out; have hcz30_0 : w26.cell? ⟨gb150, 0, none⟩ = some (.int .i64 a1_0) := kc BK150 0; have hcz30_1 : w26.cell? ⟨gb150, 1, none⟩ = some (.int .u64 a1_1) := kc BK150 1; have hfz30_0 := blk_frozen BK150.out 0; have hfz30_1 := blk_frozen BK150.out 1) | ((with_reducible refine gate_callee (f := 15) rfl ?_); refine gL 14 Try.func15 #[.agg #[.int .i64 a1_0, .int .u64 a1_1]] ?_; (with_reducible refine (wide_Sign.calls a1_0 a1_1 t153 _ A3.out).mono ?_); rintro e w31 ⟨rfl, hb⟩; refine ⟨_, rfl, ?_⟩; replace BK149 := kb BK149 hb; replace BK150 := kb BK150 hb; replace BK151 := kb BK151 hb; replace BK152 := kb BK152 hb; replace HB := kB HB hb; (try clear hb); (try clear hb2); (try clear hk); (try clear hi); have hnb32 := NB149_151.out; have hnc32 := NB151_149.out; have hnb33 := NB149_152.out; have hnc33 := NB152_149.out; have hcz34_0 : w31.cell? ⟨gb149, 0, none⟩ = some (.int .i64 a0_0) := kc BK149 0; have hcz34_1 : w31.cell? ⟨gb149, 1, none⟩ = some (.int .u64 a0_1) := kc BK149 1; have hfz34_0 := blk_frozen BK149.out 0; have hfz34_1 := blk_frozen BK149.out 1) | ((with_reducible refine gate_callee (f := 60) rfl ?_); refine gL 20 Try.func60 #[.agg #[.int .i64 a0_0, .int .u64 a0_1]] ?_; (with_reducible refine (wide_size.calls a0_0 a0_1 t154 t155 _ A19.out).mono ?_); rintro e w35 ⟨rfl, hb⟩; refine ⟨_, rfl, ?_⟩; replace BK149 := kb BK149 hb; replace BK150 := kb BK150 hb; replace BK151 := kb BK151 hb; replace BK152 := kb BK152 hb; replace HB := kB HB hb; (try clear hb); (try clear hb2); (try clear hk); (try clear hi); have hcz36_0 : w35.cell? ⟨gb150, 0, none⟩ = some (.int .i64 a1_0) := kc BK150 0; have hcz36_1 : w35.cell? ⟨gb150, 1, none⟩ = some (.int .u64 a1_1) := kc BK150 1; have hfz36_0 := blk_frozen BK150.out 0; have hfz36_1 := blk_frozen BK150.out 1) | ((with_reducible refine gate_callee (f := 72) rfl ?_); refine gL 31 Try.func72 #[.int .u64 t154, .int .u64 t155, .int .u64 (IntKind.u64.wrap (a1_0)), .int .u64 a1_1] ?_; (with_reducible refine (wide_divide.calls k t154 t155 (IntKind.u64.wrap (a1_0)) a1_1 t156 t157 t158 t159 _ A20.out).mono ?_); rintro e w' ⟨rfl, ⟨nd, rfl⟩⟩; refine ⟨_, rfl, ?_⟩; (try (rw [drewN_self w35]; generalize hq_ : World.drewN w35 _ = w35; have n0_ : Aside0 (w35.heap[gb149]? = some (.cells #[.int .i64 a0_0, .int .u64 a0_1] 24 (0, 0))) := ⟨by rw [← hq_]; exact (kx BK149)⟩; have n1_ : Aside0 (w35.heap[gb150]? = some (.cells #[.int .i64 a1_0, .int .u64 a1_1] 24 (0, 0))) := ⟨by rw [← hq_]; exact (kx BK150)⟩; have n2_ : Aside0 (w35.heap[gb151]? = some (.cells #[.int .i64 0, .int .u64 0] 24 (0, 0))) := ⟨by rw [← hq_]; exact (kx BK151)⟩; have n3_ : Aside0 (w35.heap[gb152]? = some (.cells #[.int .i64 0, .int .u64 0] 24 (0, 0))) := ⟨by rw [← hq_]; exact (kx BK152)⟩; have n4_ : Aside0 (Below w.heap.size w w35) := ⟨by rw [← hq_]; exact (ky HB)⟩; clear BK149 BK150 BK151 BK152 HB hq_; have BK149 := n0_; have BK150 := n1_; have BK151 := n2_; have BK152 := n3_; have HB := n4_; clear n0_ n1_ n2_ n3_ n4_)); have hnb37 := NB152_151.out; have hnc37 := NB151_152.out; have hcz38_0 : w35.cell? ⟨gb152, 0, none⟩ = some (.int .i64 0) := kc BK152 0; have hcz38_1 : w35.cell? ⟨gb152, 1, none⟩ = some (.int .u64 0) := kc BK152 1; have hfz38_0 := blk_frozen BK152.out 0; have hfz38_1 := blk_frozen BK152.out 1; have hcz39_0 : w35.cell? ⟨gb149, 0, none⟩ = some (.int .i64 a0_0) := kc BK149 0; have hcz39_1 : w35.cell? ⟨gb149, 1, none⟩ = some (.int .u64 a0_1) := kc BK149 1; have hfz39_0 := blk_frozen BK149.out 0; have hfz39_1 := blk_frozen BK149.out 1) | ((with_reducible refine gate_callee (f := 61) rfl ?_); refine gL 46 Try.func61 #[.int .u64 t156, .int .u64 t157, .bool (decide (a0_0 < 0))] ?_; (with_reducible refine (wide_signed.calls t156 t157 (decide (a0_0 < 0)) t160 t161 t162 _ A21.out).mono ?_); rintro e w40 ⟨rfl, hb⟩; refine ⟨_, rfl, ?_⟩; have n0_ := kb BK149 hb; have n1_ := kb BK150 hb; have n2_ := kb BK151 hb; have n3_ := Aside0.mk (blk_below (g := gb152) (o := .cells #[.int .i64 (wrap64 (t158)), .int .u64 t159] 24 (0, 0)) (by (with_reducible repeat (first | refine zr ?_ _ | refine zw ?_ | refine za ?_ _)); refine blk_put (cs := #[.int .i64 (wrap64 (t158)), .int .u64 0]) ?_ 1 _ rfl; (with_reducible repeat (first | refine zr ?_ _ | refine zw ?_ | refine za ?_ _)); refine blk_put (cs := #[.int .i64 0, .int .u64 0]) ?_ 0 _ rfl; (with_reducible repeat (first | refine zr ?_ _ | refine zw ?_ | refine za ?_ _)); exact BK152.out) hb); have n4_ := kB HB hb; clear BK149; clear BK150; clear BK151; clear BK152; clear HB; have BK149 := n0_; have BK150 := n1_; have BK151 := n2_; have BK152 := n3_; have HB := n4_; clear n0_ n1_ n2_ n3_ n4_; (try clear hb); (try clear hb2); (try clear hk); (try clear hi); have hcz41_0 : w40.cell? ⟨gb151, 0, none⟩ = some (.int .i64 0) := kc BK151 0; have hcz41_1 : w40.cell? ⟨gb151, 1, none⟩ = some (.int .u64 0) := kc BK151 1; have hfz41_0 := blk_frozen BK151.out 0; have hfz41_1 := blk_frozen BK151.out 1))
 (try simp only [Act.put, s1, s2, s3])
 go_cut [56] (fun v56 wc => ∃ (kq : Nat) (x56_21 : Bool), v56 = .bool x56_21 ∧ Aside0 (wide_Div.j0 kq x56_21 a1_0 a1_1 t160 t161 (wrap64 (t158)) t159 = some (r1, r2, r3, r4, r5)) ∧ Aside0 (kq ≤ k) ∧ Aside0 (wc.heap[gb149]? = some (.cells #[.int .i64 a0_0, .int .u64 a0_1] 24 (0, 0))) ∧ Aside0 (wc.heap[gb150]? = some (.cells #[.int .i64 a1_0, .int .u64 a1_1] 24 (0, 0))) ∧ Aside0 (wc.heap[gb151]? = some (.cells #[.int .i64 t160, .int .u64 t161] 24 (0, 0))) ∧ Aside0 (wc.heap[gb152]? = some (.cells #[.int .i64 (wrap64 (t158)), .int .u64 t159] 24 (0, 0))) ∧ Aside0 (Below w.heap.size w wc))
 case first =>
  have H := HC22.out; clear HC22
  by_cases c42 : a0_0 < 0
  rotate_left
  ·rw [if_neg c42] at H
   have c42b0 : decide (a0_0 < 0) = false := decide_eq_false c42; clear c42
   (first | rw [c42b0] | (simp only [i64_w, i32_w]; rw [c42b0]) | skip)
   have H' := Aside0.mk H; clear H; have hnb50 := NB149_150.out; have hnc50 := NB150_149.out; have hnb51 := NB149_151.out; have hnc51 := NB151_149.out; have hnb52 := NB149_152.out; have hnc52 := NB152_149.out; obtain ⟨hcz53_0, hcz53_1⟩ := kc2 BK149; obtain ⟨hfz53_0, hfz53_1⟩ := kf2 BK149
   go_wp2
   go_meet
   case rel => exact ⟨_, (false), (by first | rfl | (simp; done) | (simp [*]; done)), H', ⟨by first | omega | exact Nat.le_refl _⟩, ⟨kx BK149⟩, ⟨kx BK150⟩, ⟨by (with_reducible repeat (first | refine zr ?_ _ | refine zw ?_ | refine za ?_ _)); refine blk_put (cs := #[.int .i64 t160, .int .u64 0]) ?_ 1 _ rfl; (with_reducible repeat (first | refine zr ?_ _ | refine zw ?_ | refine za ?_ _)); refine blk_put (cs := #[.int .i64 0, .int .u64 0]) ?_ 0 _ rfl; (with_reducible repeat (first | refine zr ?_ _ | refine zw ?_ | refine za ?_ _)); exact BK151.out⟩, ⟨kx BK152⟩, ⟨ky HB⟩⟩
  rw [if_pos c42] at H
  have c42b0 : decide (a0_0 < 0) = true := decide_eq_true c42; clear c42
  (first | rw [c42b0] | (simp only [i64_w, i32_w]; rw [c42b0]) | skip)
  have H' := Aside0.mk H; clear H; have hnb43 := NB149_150.out; have hnc43 := NB150_149.out; have hnb44 := NB149_151.out; have hnc44 := NB151_149.out; have hnb45 := NB149_152.out; have hnc45 := NB152_149.out; obtain ⟨hcz46_0, hcz46_1⟩ := kc2 BK149; obtain ⟨hfz46_0, hfz46_1⟩ := kf2 BK149; have hnb47 := NB152_150.out; have hnc47 := NB150_152.out; have hnb48 := NB152_151.out; have hnc48 := NB151_152.out; obtain ⟨hcz49_0, hcz49_1⟩ := kc2 BK152; obtain ⟨hfz49_0, hfz49_1⟩ := kf2 BK152
  go_wp2
  go_meet
  case rel => exact ⟨_, ((!((wrap64 (t158)) == 0) || (!(t159 == 0)))), (by first | rfl | (simp; done) | (simp [*]; done)), H', ⟨by first | omega | exact Nat.le_refl _⟩, ⟨kx BK149⟩, ⟨kx BK150⟩, ⟨by (with_reducible repeat (first | refine zr ?_ _ | refine zw ?_ | refine za ?_ _)); refine blk_put (cs := #[.int .i64 t160, .int .u64 0]) ?_ 1 _ rfl; (with_reducible repeat (first | refine zr ?_ _ | refine zw ?_ | refine za ?_ _)); refine blk_put (cs := #[.int .i64 0, .int .u64 0]) ?_ 0 _ rfl; (with_reducible repeat (first | refine zr ?_ _ | refine zw ?_ | refine za ?_ _)); exact BK151.out⟩, ⟨kx BK152⟩, ⟨ky HB⟩⟩
 case rest =>
  clear HC22; try clear c1; try clear c2; try clear p2; try clear c3; try clear c4; try clear c4b0; try clear c5; try clear c6; try clear p6; try clear c7; try clear c9; try clear c10; try clear c11; try clear c14; try clear c15; try clear c17; try clear c27; try clear c28; try clear c29; try clear c32; try clear c33; try clear c37; try clear c42; try clear c42b0; try clear c43; try clear c44; try clear c45; try clear c47; try clear c48; try clear c49; try clear c50; try clear c51; try clear c52; try clear hcz12_0; try clear hcz12_1; try clear hcz16_0; try clear hcz16_1; try clear hcz18_0; try clear hcz18_1; try clear hcz30_0; try clear hcz30_1; try clear hcz34_0; try clear hcz34_1; try clear hcz36_0; try clear hcz36_1; try clear hcz38_0; try clear hcz38_1; try clear hcz39_0; try clear hcz39_1; try clear hcz41_0; try clear hcz41_1; try clear hcz46_0; try clear hcz46_1; try clear hcz49_0; try clear hcz49_1; try clear hcz53_0; try clear hcz53_1; try clear hfz12_0; try clear hfz12_1; try clear hfz16_0; try clear hfz16_1; try clear hfz18_0; try clear hfz18_1; try clear hfz30_0; try clear hfz30_1; try clear hfz34_0; try clear hfz34_1; try clear hfz36_0; try clear hfz36_1; try clear hfz38_0; try clear hfz38_1; try clear hfz39_0; try clear hfz39_1; try clear hfz41_0; try clear hfz41_1; try clear hfz46_0; try clear hfz46_1; try clear hfz49_0; try clear hfz49_1; try clear hfz53_0; try clear hfz53_1
  obtain ⟨kq, x56_21, rfl, HA, HJ21, BK149, BK150, BK151, BK152, HB⟩ := hcut
  cases kq with
  | zero => exact absurd HA.out (by simp [wide_Div.j0])
  | succ kj21 =>
   have H := HA.out; clear HA
   simp only [wide_Div.j0] at H
   by_cases c54 : x56_21 = true
   rotate_left
   ·replace c54 := Bool.eq_false_iff.mpr c54; subst c54
    rw [if_neg (show ¬ (false = true) by decide)] at H
    simp only [Option.some.injEq, Prod.mk.injEq] at H
    obtain ⟨rfl, rfl, rfl, rfl, rfl⟩ := H; have hnb77 := NB151_149.out; have hnc77 := NB149_151.out; have hnb78 := NB151_150.out; have hnc78 := NB150_151.out; have hnb79 := NB151_152.out; have hnc79 := NB152_151.out; obtain ⟨hcz80_0, hcz80_1⟩ := kc2 BK151; obtain ⟨hfz80_0, hfz80_1⟩ := kf2 BK151; have hnb81 := NB152_149.out; have hnc81 := NB149_152.out; have hnb82 := NB152_150.out; have hnc82 := NB150_152.out; obtain ⟨hcz83_0, hcz83_1⟩ := kc2 BK152; obtain ⟨hfz83_0, hfz83_1⟩ := kf2 BK152
    go_wp2_with fail
    go_region
    all_goals go_wp2
    refine bodyPost_ret (results_list (rs := [.cell 4 24, .cell 5 24, .tmp 6]) rfl (by simp) (.cell gb151 24 #[.int .i64 t160, .int .u64 t161] (0, 0) _ rfl (by (with_reducible repeat (first | refine zr ?_ _ | refine zw ?_ | refine za ?_ _)); refine blk_far ?_ NB151_152.out _; (with_reducible repeat (first | refine zr ?_ _ | refine zw ?_ | refine za ?_ _)); refine blk_far ?_ NB151_152.out _; (with_reducible repeat (first | refine zr ?_ _ | refine zw ?_ | refine za ?_ _)); refine blk_put (cs := #[.int .i64 t160, .int .u64 t161]) ?_ 1 _ rfl; (with_reducible repeat (first | refine zr ?_ _ | refine zw ?_ | refine za ?_ _)); refine blk_put (cs := #[.int .i64 t160, .int .u64 t161]) ?_ 0 _ rfl; (with_reducible repeat (first | refine zr ?_ _ | refine zw ?_ | refine za ?_ _)); exact BK151.out) Try.underlying24 rfl (by kernel_rfl) (.cell gb152 24 #[.int .i64 (wrap64 (t158)), .int .u64 t159] (0, 0) _ rfl (by (with_reducible repeat (first | refine zr ?_ _ | refine zw ?_ | refine za ?_ _)); refine blk_put (cs := #[.int .i64 (wrap64 (t158)), .int .u64 t159]) ?_ 1 _ rfl; (with_reducible repeat (first | refine zr ?_ _ | refine zw ?_ | refine za ?_ _)); refine blk_put (cs := #[.int .i64 (wrap64 (t158)), .int .u64 t159]) ?_ 0 _ rfl; (with_reducible repeat (first | refine zr ?_ _ | refine zw ?_ | refine za ?_ _)); refine blk_far ?_ NB152_151.out _; (with_reducible repeat (first | refine zr ?_ _ | refine zw ?_ | refine za ?_ _)); refine blk_far ?_ NB152_151.out _; (with_reducible repeat (first | refine zr ?_ _ | refine zw ?_ | refine za ?_ _)); exact BK152.out) Try.underlying24 rfl (by kernel_rfl) (.tmp .nil)))) rfl ?_; exact ⟨by first | rfl | (simp [errW_none, errW_some] <;> rfl) | (simp [*, errW_none, errW_some] <;> rfl), ky HB⟩

   subst c54
   rw [if_pos rfl] at H; replace H := Option.bind_eq_some_iff.mp H; obtain ⟨⟨t163, t164⟩, A550, H⟩ := H; (try dsimp only at H); have A55 := Aside0.mk A550; clear A550; replace H := Option.bind_eq_some_iff.mp H; obtain ⟨⟨t165, t166⟩, A560, H⟩ := H; (try dsimp only at H); have A56 := Aside0.mk A560; clear A560; replace H := Option.bind_eq_some_iff.mp H; obtain ⟨⟨t167, t168⟩, A570, H⟩ := H; (try dsimp only at H); have A57 := Aside0.mk A570; clear A570; replace H := Option.bind_eq_some_iff.mp H; obtain ⟨⟨t169, t170⟩, A580, H⟩ := H; (try dsimp only at H); have A58 := Aside0.mk A580; clear A580
   simp only [Option.some.injEq, Prod.mk.injEq] at H
   obtain ⟨rfl, rfl, rfl, rfl, rfl⟩ := H
   try go_wp2
   replace BK149 := Aside0.mk (blk_drew BK149.out); replace BK150 := Aside0.mk (blk_drew BK150.out); replace BK151 := Aside0.mk (blk_drew BK151.out); replace BK152 := Aside0.mk (blk_drew BK152.out); replace HB := Aside0.mk (below_drew1 HB.out); refine start_ (n := 4) (S := fun w' => w'.cell? ⟨gb151, 0, none⟩ = some (.int .i64 t160) ∧ w'.cell? ⟨gb151, 1, none⟩ = some (.int .u64 t161)) (ds := [3]) #[O, O, O, O] (by kernel_rfl) rfl rfl ⟨kc BK151 0, kc BK151 1⟩ (fun hHeld => ?_)
   generalize wc.drew = w59 at BK149 BK150 BK151 BK152 HB hHeld ⊢
   refine take_ (i := 0) (N := some 57) (v := ?_) (a' := ?_) #[T, O, O, O] rfl rfl (by kernel_rfl) (fun _ _ _ h => h) (Or.inl ⟨by rfl, ?_⟩) hHeld ?_ ?_; rotate_left; focus (rintro w' ⟨s0, s1⟩; go_simp; with_reducible rfl)
   rotate_left; focus (simp only [Act.put, s1, s2, s3, i64_w, i32_w]; rfl)
   refine one_ (i := 1) (N := some 58) #[T, T, O, O] rfl rfl (by kernel_rfl) (by decide) (fun K hK => ?_); refine gS Try.func24 #[.int .i64 (-1)] ?_
   with_reducible refine (wide_Of.calls (-1) t163 t164 _ A55.out).mono ?_
   rintro e w60 ⟨rfl, hb⟩; refine ⟨_, rfl, ?_⟩; replace BK149 := kb BK149 hb; replace BK150 := kb BK150 hb; replace BK151 := kb BK151 hb; replace BK152 := kb BK152 hb; replace HB := kB HB hb
   (try clear hb); (try clear hb2); (try clear hk); (try clear hi)
   refine hK.out _ _ ⟨kc BK151 0, kc BK151 1⟩ (fun hHeld => ?_); clear hK K
   refine norm_ (a' := ?_) ?_ ?_; rotate_left; focus (show Act.put _ (some 58) _ = _; simp only [Act.put, s1, s2, s3, i64_w, i32_w]; rfl)
   refine one_ (i := 2) (N := some 59) #[T, T, T, O] rfl rfl (by kernel_rfl) (by decide) (fun K hK => ?_); refine gS Try.func55 #[.agg #[.int .i64 t160, .int .u64 t161], .agg #[.int .i64 t163, .int .u64 t164]] ?_
   with_reducible refine (wide_wrap.calls t160 t161 t163 t164 t165 t166 _ A56.out).mono ?_
   rintro e w61 ⟨rfl, hb⟩; refine ⟨_, rfl, ?_⟩; replace BK149 := kb BK149 hb; replace BK150 := kb BK150 hb; replace BK151 := kb BK151 hb; replace BK152 := kb BK152 hb; replace HB := kB HB hb
   (try clear hb); (try clear hb2); (try clear hk); (try clear hi)
   refine hK.out _ _ ⟨kc BK151 0, kc BK151 1⟩ (fun hHeld => ?_); clear hK K
   refine norm_ (a' := ?_) ?_ ?_; rotate_left; focus (show Act.put _ (some 59) _ = _; simp only [Act.put, s1, s2, s3, i64_w, i32_w]; rfl)
   refine last_ (i := 3) (N := none) #[T, T, T, T] rfl rfl (by kernel_rfl) (by decide) (fun K hK => ?_); have hs62 : w61.cell? ⟨gb151, 0, none⟩ = some (.int .i64 t160) := kc BK151 0; have hfs62 := blk_frozen BK151.out 0; have hns62_0 := NB149_151.out; have hns62_1 := NB150_151.out; have hns62_3 := NB152_151.out; have hms62_0 := NB151_149.out; have hms62_1 := NB151_150.out; have hms62_3 := NB151_152.out; have hs63 : w61.cell? ⟨gb151, 1, none⟩ = some (.int .u64 t161) := kc BK151 1; have hfs63 := blk_frozen BK151.out 1; have hns63_0 := NB149_151.out; have hns63_1 := NB150_151.out; have hns63_3 := NB152_151.out; have hms63_0 := NB151_149.out; have hms63_1 := NB151_150.out; have hms63_3 := NB151_152.out; refine skip_ (w1 := ?_) (by rfl) rfl ?_ ?_; rotate_left
   ·go_simp
    rfl
   refine hK.out _ _ ?_; clear hK K; refine done_ (by kernel_rfl) ?_
   try go_wp2
   have n0_ : Aside0 (((w61.setCell ⟨gb151, 0, none⟩ (.int .i64 t165)).setCell ⟨gb151, 1, none⟩ (.int .u64 t166)).heap[gb149]? = some (.cells #[.int .i64 a0_0, .int .u64 a0_1] 24 (0, 0))) := ⟨kx BK149⟩; have n1_ : Aside0 (((w61.setCell ⟨gb151, 0, none⟩ (.int .i64 t165)).setCell ⟨gb151, 1, none⟩ (.int .u64 t166)).heap[gb150]? = some (.cells #[.int .i64 a1_0, .int .u64 a1_1] 24 (0, 0))) := ⟨kx BK150⟩; have n2_ : Aside0 (((w61.setCell ⟨gb151, 0, none⟩ (.int .i64 t165)).setCell ⟨gb151, 1, none⟩ (.int .u64 t166)).heap[gb151]? = some (.cells #[.int .i64 t165, .int .u64 t166] 24 (0, 0))) := ⟨by (with_reducible repeat (first | refine zr ?_ _ | refine zw ?_ | refine za ?_ _)); refine blk_put (cs := #[.int .i64 t165, .int .u64 t161]) ?_ 1 _ rfl; (with_reducible repeat (first | refine zr ?_ _ | refine zw ?_ | refine za ?_ _)); refine blk_put (cs := #[.int .i64 t160, .int .u64 t161]) ?_ 0 _ rfl; (with_reducible repeat (first | refine zr ?_ _ | refine zw ?_ | refine za ?_ _)); exact BK151.out⟩; have n3_ : Aside0 (((w61.setCell ⟨gb151, 0, none⟩ (.int .i64 t165)).setCell ⟨gb151, 1, none⟩ (.int .u64 t166)).heap[gb152]? = some (.cells #[.int .i64 (wrap64 (t158)), .int .u64 t159] 24 (0, 0))) := ⟨kx BK152⟩; have n4_ : Aside0 (Below w.heap.size w ((w61.setCell ⟨gb151, 0, none⟩ (.int .i64 t165)).setCell ⟨gb151, 1, none⟩ (.int .u64 t166))) := ⟨ky HB⟩
   (try clear BK149); (try clear BK150); (try clear BK151); (try clear BK152); (try clear HB)
   generalize ((w61.setCell ⟨gb151, 0, none⟩ (.int .i64 t165)).setCell ⟨gb151, 1, none⟩ (.int .u64 t166)) = w64 at n0_ n1_ n2_ n3_ n4_ ⊢
   have BK149 := n0_; have BK150 := n1_; have BK151 := n2_; have BK152 := n3_; have HB := n4_; clear n0_ n1_ n2_ n3_ n4_; replace BK149 := Aside0.mk (blk_drew BK149.out); replace BK150 := Aside0.mk (blk_drew BK150.out); replace BK151 := Aside0.mk (blk_drew BK151.out); replace BK152 := Aside0.mk (blk_drew BK152.out); replace HB := Aside0.mk (below_drew1 HB.out); refine start_ (n := 5) (S := fun w' => w'.cell? ⟨gb150, 0, none⟩ = some (.int .i64 a1_0) ∧ w'.cell? ⟨gb150, 1, none⟩ = some (.int .u64 a1_1) ∧ w'.cell? ⟨gb152, 0, none⟩ = some (.int .i64 (wrap64 (t158))) ∧ w'.cell? ⟨gb152, 1, none⟩ = some (.int .u64 t159)) (ds := [4]) #[O, O, O, O, O] (by kernel_rfl) rfl rfl ⟨kc BK150 0, kc BK150 1, kc BK152 0, kc BK152 1⟩ (fun hHeld => ?_)
   generalize w64.drew = w65 at BK149 BK150 BK151 BK152 HB hHeld ⊢
   refine take_ (i := 0) (N := some 60) (v := ?_) (a' := ?_) #[T, O, O, O, O] rfl rfl (by kernel_rfl) (fun _ _ _ h => h) (Or.inl ⟨by rfl, ?_⟩) hHeld ?_ ?_; rotate_left; focus (rintro w' ⟨s0, s1, s2, s3⟩; go_simp; with_reducible rfl)
   rotate_left; focus (simp only [Act.put, s1, s2, s3, i64_w, i32_w]; rfl)
   refine take_ (i := 1) (N := some 61) (v := ?_) (a' := ?_) #[T, T, O, O, O] rfl rfl (by kernel_rfl) (fun _ _ _ h => h) (Or.inl ⟨by rfl, ?_⟩) hHeld ?_ ?_; rotate_left; focus (rintro w' ⟨s0, s1, s2, s3⟩; go_simp; with_reducible rfl)
   rotate_left; focus (simp only [Act.put, s1, s2, s3, i64_w, i32_w]; rfl)
   refine one_ (i := 2) (N := some 62) #[T, T, T, O, O] rfl rfl (by kernel_rfl) (by decide) (fun K hK => ?_); refine gS Try.func65 #[.agg #[.int .i64 (wrap64 (t158)), .int .u64 t159]] ?_
   with_reducible refine (wide_turn.calls (wrap64 (t158)) t159 t167 t168 _ A57.out).mono ?_
   rintro e w66 ⟨rfl, hb⟩; refine ⟨_, rfl, ?_⟩; replace BK149 := kb BK149 hb; replace BK150 := kb BK150 hb; replace BK151 := kb BK151 hb; replace BK152 := kb BK152 hb; replace HB := kB HB hb
   (try clear hb); (try clear hb2); (try clear hk); (try clear hi)
   refine hK.out _ _ ⟨kc BK150 0, kc BK150 1, kc BK152 0, kc BK152 1⟩ (fun hHeld => ?_); clear hK K
   refine norm_ (a' := ?_) ?_ ?_; rotate_left; focus (show Act.put _ (some 62) _ = _; simp only [Act.put, s1, s2, s3, i64_w, i32_w]; rfl)
   refine one_ (i := 3) (N := some 63) #[T, T, T, T, O] rfl rfl (by kernel_rfl) (by decide) (fun K hK => ?_); refine gS Try.func55 #[.agg #[.int .i64 a1_0, .int .u64 a1_1], .agg #[.int .i64 t167, .int .u64 t168]] ?_
   with_reducible refine (wide_wrap.calls a1_0 a1_1 t167 t168 t169 t170 _ A58.out).mono ?_
   rintro e w67 ⟨rfl, hb⟩; refine ⟨_, rfl, ?_⟩; replace BK149 := kb BK149 hb; replace BK150 := kb BK150 hb; replace BK151 := kb BK151 hb; replace BK152 := kb BK152 hb; replace HB := kB HB hb
   (try clear hb); (try clear hb2); (try clear hk); (try clear hi)
   refine hK.out _ _ ⟨kc BK150 0, kc BK150 1, kc BK152 0, kc BK152 1⟩ (fun hHeld => ?_); clear hK K
   refine norm_ (a' := ?_) ?_ ?_; rotate_left; focus (show Act.put _ (some 63) _ = _; simp only [Act.put, s1, s2, s3, i64_w, i32_w]; rfl)
   refine last_ (i := 4) (N := none) #[T, T, T, T, T] rfl rfl (by kernel_rfl) (by decide) (fun K hK => ?_); have hs68 : w67.cell? ⟨gb152, 0, none⟩ = some (.int .i64 (wrap64 (t158))) := kc BK152 0; have hfs68 := blk_frozen BK152.out 0; have hns68_0 := NB149_152.out; have hns68_1 := NB150_152.out; have hns68_2 := NB151_152.out; have hms68_0 := NB152_149.out; have hms68_1 := NB152_150.out; have hms68_2 := NB152_151.out; have hs69 : w67.cell? ⟨gb152, 1, none⟩ = some (.int .u64 t159) := kc BK152 1; have hfs69 := blk_frozen BK152.out 1; have hns69_0 := NB149_152.out; have hns69_1 := NB150_152.out; have hns69_2 := NB151_152.out; have hms69_0 := NB152_149.out; have hms69_1 := NB152_150.out; have hms69_2 := NB152_151.out; refine skip_ (w1 := ?_) (by rfl) rfl ?_ ?_; rotate_left
   ·go_simp
    rfl
   refine hK.out _ _ ?_; clear hK K; refine done_ (by kernel_rfl) ?_; have hnb70 := NB151_149.out; have hnc70 := NB149_151.out; have hnb71 := NB151_150.out; have hnc71 := NB150_151.out; have hnb72 := NB151_152.out; have hnc72 := NB152_151.out; obtain ⟨hcz73_0, hcz73_1⟩ := kc2 BK151; obtain ⟨hfz73_0, hfz73_1⟩ := kf2 BK151; have hnb74 := NB152_149.out; have hnc74 := NB149_152.out; have hnb75 := NB152_150.out; have hnc75 := NB150_152.out; obtain ⟨hcz76_0, hcz76_1⟩ := kc2 BK152; obtain ⟨hfz76_0, hfz76_1⟩ := kf2 BK152
   go_wp2_with fail
   go_region
   all_goals go_wp2
   refine bodyPost_ret (results_list (rs := [.cell 4 24, .cell 5 24, .tmp 6]) rfl (by simp) (.cell gb151 24 #[.int .i64 t165, .int .u64 t166] (0, 0) _ rfl (by (with_reducible repeat (first | refine zr ?_ _ | refine zw ?_ | refine za ?_ _)); refine blk_far ?_ NB151_152.out _; (with_reducible repeat (first | refine zr ?_ _ | refine zw ?_ | refine za ?_ _)); refine blk_far ?_ NB151_152.out _; (with_reducible repeat (first | refine zr ?_ _ | refine zw ?_ | refine za ?_ _)); refine blk_put (cs := #[.int .i64 t165, .int .u64 t166]) ?_ 1 _ rfl; (with_reducible repeat (first | refine zr ?_ _ | refine zw ?_ | refine za ?_ _)); refine blk_put (cs := #[.int .i64 t165, .int .u64 t166]) ?_ 0 _ rfl; (with_reducible repeat (first | refine zr ?_ _ | refine zw ?_ | refine za ?_ _)); refine blk_far ?_ NB151_152.out _; (with_reducible repeat (first | refine zr ?_ _ | refine zw ?_ | refine za ?_ _)); refine blk_far ?_ NB151_152.out _; (with_reducible repeat (first | refine zr ?_ _ | refine zw ?_ | refine za ?_ _)); exact BK151.out) Try.underlying24 rfl (by kernel_rfl) (.cell gb152 24 #[.int .i64 t169, .int .u64 t170] (0, 0) _ rfl (by (with_reducible repeat (first | refine zr ?_ _ | refine zw ?_ | refine za ?_ _)); refine blk_put (cs := #[.int .i64 t169, .int .u64 t170]) ?_ 1 _ rfl; (with_reducible repeat (first | refine zr ?_ _ | refine zw ?_ | refine za ?_ _)); refine blk_put (cs := #[.int .i64 t169, .int .u64 t170]) ?_ 0 _ rfl; (with_reducible repeat (first | refine zr ?_ _ | refine zw ?_ | refine za ?_ _)); refine blk_far ?_ NB152_151.out _; (with_reducible repeat (first | refine zr ?_ _ | refine zw ?_ | refine za ?_ _)); refine blk_far ?_ NB152_151.out _; (with_reducible repeat (first | refine zr ?_ _ | refine zw ?_ | refine za ?_ _)); refine blk_put (cs := #[.int .i64 t169, .int .u64 t159]) ?_ 1 _ rfl; (with_reducible repeat (first | refine zr ?_ _ | refine zw ?_ | refine za ?_ _)); refine blk_put (cs := #[.int .i64 (wrap64 (t158)), .int .u64 t159]) ?_ 0 _ rfl; (with_reducible repeat (first | refine zr ?_ _ | refine zw ?_ | refine za ?_ _)); exact BK152.out) Try.underlying24 rfl (by kernel_rfl) (.tmp .nil)))) rfl ?_; exact ⟨by first | rfl | (simp [errW_none, errW_some] <;> rfl) | (simp [*, errW_none, errW_some] <;> rfl), ky HB⟩
/-! ### frac_Floor: function 19 -/
def frac_Floor.f (k : Nat) (a0_0 : Int) (a0_1 : Int) (a0_2 : Int) (a0_3 : Int) : Option (Int × Int) := (wide_Div.f k a0_0 a0_1 a0_2 a0_3).bind fun bt198 => (some (bt198.1, bt198.2.1))
theorem frac_Floor.mono : ∀ a0 a1 a2 a3 k, LeO (frac_Floor.f k a0 a1 a2 a3) (frac_Floor.f (k + 1) a0 a1 a2 a3) := by
 intro a0 a1 a2 a3 k
 unfold frac_Floor.f
 repeat' first
   | (with_reducible exact wide_Div.mono _ _ _ _ _)
   | (with_reducible exact LeO.refl _)
   | (with_reducible exact LeO.none _)
   | (with_reducible refine LeO.ite ?_ ?_)
   | (with_reducible refine LeO.bind ?_ (fun _ => ?_))
   | exact wide_Div.mono _ _ _ _ _
   | exact LeO.none _
   | refine LeO.ite ?_ ?_
   | refine LeO.bind ?_ (fun _ => ?_)
set_option maxHeartbeats 8000000 in
set_option maxRecDepth 100000 in
theorem frac_Floor.calls (k : Nat) (a0_0 : Int) (a0_1 : Int) (a0_2 : Int) (a0_3 : Int) (r1 : Int) (r2 : Int) (w : World) (h : frac_Floor.f k a0_0 a0_1 a0_2 a0_3 = some (r1, r2)) :
  Calls Try.prog 19 #[.agg #[.int .i64 a0_0, .int .u64 a0_1, .int .i64 a0_2, .int .u64 a0_3]] w fun e w' => e = .returned (.agg #[.int .i64 r1, .int .u64 r2]) ∧ Below w.heap.size w w' := by
 have hu26 := Try.underlying26; have hu24 := Try.underlying24; have HB := Aside0.mk (Below.refl w.heap.size w); have H : ((wide_Div.f k a0_0 a0_1 a0_2 a0_3).bind fun bt198 => (some (bt198.1, bt198.2.1))) = some (r1, r2) := h; clear h; replace H := Option.bind_eq_some_iff.mp H; obtain ⟨⟨t198, t199, t200, t201, t202⟩, A20, H⟩ := H; (try dsimp only at H); have A2 := Aside0.mk A20; clear A20
 simp only [Option.some.injEq, Prod.mk.injEq] at H
 obtain ⟨rfl, rfl⟩ := H
 go_enter Try.func19, Try.ntmps19
 go_wp2_with (first | ((with_reducible refine gate_dst (N := 1) rfl ?_); refine box_event ?hg (N := 1) ?hd (cs := #[.int .i64 a0_0, .int .u64 a0_1, .int .i64 a0_2, .int .u64 a0_3]) (t := 26) ?hr ?_; (case hd => rfl); (case hg => rfl); (case hr => first | (go_simp; done) | (go_simp; rfl)); intro gb196 hg w3 hbox hb; have BK196 := Aside0.mk (hbox); have GW196 := kS HB hg; have GE196 := kS HB hg; replace HB := kB HB hb; clear hb hbox hg) | ((with_reducible refine gate_dst (N := 2) rfl ?_); refine box_event ?hg (N := 2) ?hd (cs := #[.int .i64 0, .int .u64 0]) (t := 24) ?hr ?_; (case hd => rfl); (case hg => rfl); (case hr => first | (go_simp; done) | (go_simp; rfl)); intro gb197 hg w4 hbox hb; have BK197 := Aside0.mk (hbox); have GW197 := kS HB hg; have GE197 := kS HB hg; have NB196_197 := kN BK196 hg; have NB197_196 := kM BK196 hg; replace BK196 := kb BK196 hb; replace HB := kB HB hb; clear hb hbox hg; have hnb5 := NB196_197.out; have hnc5 := NB197_196.out; have hcz6_0 : w4.cell? ⟨gb196, 0, none⟩ = some (.int .i64 a0_0) := kc BK196 0; have hcz6_1 : w4.cell? ⟨gb196, 1, none⟩ = some (.int .u64 a0_1) := kc BK196 1; have hcz6_2 : w4.cell? ⟨gb196, 2, none⟩ = some (.int .i64 a0_2) := kc BK196 2; have hcz6_3 : w4.cell? ⟨gb196, 3, none⟩ = some (.int .u64 a0_3) := kc BK196 3; have hfz6_0 := blk_frozen BK196.out 0; have hfz6_1 := blk_frozen BK196.out 1; have hfz6_2 := blk_frozen BK196.out 2; have hfz6_3 := blk_frozen BK196.out 3) | ((with_reducible refine gate_callee (f := 49) rfl ?_); refine gL 11 Try.func49 #[.agg #[.int .i64 a0_0, .int .u64 a0_1], .agg #[.int .i64 a0_2, .int .u64 a0_3]] ?_; (with_reducible refine (wide_Div.calls k a0_0 a0_1 a0_2 a0_3 t198 t199 t200 t201 t202 _ A2.out).mono ?_); rintro e w7 ⟨rfl, hb⟩; refine ⟨_, rfl, ?_⟩; replace BK196 := kb BK196 hb; replace BK197 := kb BK197 hb; replace HB := kB HB hb; (try clear hb); (try clear hb2); (try clear hk); (try clear hi)) | ((with_reducible refine gate_dst (N := 3) rfl ?_); refine box_event ?hg (N := 3) ?hd (cs := #[.int .i64 0, .int .u64 0]) (t := 24) ?hr ?_; (case hd => rfl); (case hg => rfl); (case hr => first | (go_simp; done) | (go_simp; rfl)); intro gb203 hg w8 hbox hb; have BK203 := Aside0.mk (hbox); have GW203 := kS HB hg; have GE203 := kS HB hg; have NB196_203 := kN BK196 hg; have NB203_196 := kM BK196 hg; have NB197_203 := kN BK197 hg; have NB203_197 := kM BK197 hg; replace BK196 := kb BK196 hb; replace BK197 := kb BK197 hb; replace HB := kB HB hb; clear hb hbox hg) | ((with_reducible refine gate_dst (N := 4) rfl ?_); refine box_event ?hg (N := 4) ?hd (cs := #[.int .i64 0, .int .u64 0]) (t := 24) ?hr ?_; (case hd => rfl); (case hg => rfl); (case hr => first | (go_simp; done) | (go_simp; rfl)); intro gb204 hg w9 hbox hb; have BK204 := Aside0.mk (hbox); have GW204 := kS HB hg; have GE204 := kS HB hg; have NB196_204 := kN BK196 hg; have NB204_196 := kM BK196 hg; have NB197_204 := kN BK197 hg; have NB204_197 := kM BK197 hg; have NB203_204 := kN BK203 hg; have NB204_203 := kM BK203 hg; replace BK196 := kb BK196 hb; replace BK197 := kb BK197 hb; replace BK203 := kb BK203 hb; replace HB := kB HB hb; clear hb hbox hg; have hnb10 := NB203_196.out; have hnc10 := NB196_203.out; have hnb11 := NB203_197.out; have hnc11 := NB197_203.out; have hnb12 := NB203_204.out; have hnc12 := NB204_203.out; have hcz13_0 : w9.cell? ⟨gb203, 0, none⟩ = some (.int .i64 0) := kc BK203 0; have hcz13_1 : w9.cell? ⟨gb203, 1, none⟩ = some (.int .u64 0) := kc BK203 1; have hfz13_0 := blk_frozen BK203.out 0; have hfz13_1 := blk_frozen BK203.out 1; have hnb14 := NB204_196.out; have hnc14 := NB196_204.out; have hnb15 := NB204_197.out; have hnc15 := NB197_204.out; have hcz16_0 : w9.cell? ⟨gb204, 0, none⟩ = some (.int .i64 0) := kc BK204 0; have hcz16_1 : w9.cell? ⟨gb204, 1, none⟩ = some (.int .u64 0) := kc BK204 1; have hfz16_0 := blk_frozen BK204.out 0; have hfz16_1 := blk_frozen BK204.out 1; have hcz17_0 : w9.cell? ⟨gb197, 0, none⟩ = some (.int .i64 0) := kc BK197 0; have hcz17_1 : w9.cell? ⟨gb197, 1, none⟩ = some (.int .u64 0) := kc BK197 1; have hfz17_0 := blk_frozen BK197.out 0; have hfz17_1 := blk_frozen BK197.out 1))
 refine bodyPost_ret (results_cell_row rfl _ _ gb197 24 #[.int .i64 t198, .int .u64 t199] (0, 0) _ rfl (by (with_reducible repeat (first | refine zr ?_ _ | refine zw ?_ | refine za ?_ _)); refine blk_put (cs := #[.int .i64 t198, .int .u64 0]) ?_ 1 _ rfl; (with_reducible repeat (first | refine zr ?_ _ | refine zw ?_ | refine za ?_ _)); refine blk_put (cs := #[.int .i64 0, .int .u64 0]) ?_ 0 _ rfl; (with_reducible repeat (first | refine zr ?_ _ | refine zw ?_ | refine za ?_ _)); refine blk_far ?_ NB197_204.out _; (with_reducible repeat (first | refine zr ?_ _ | refine zw ?_ | refine za ?_ _)); refine blk_far ?_ NB197_204.out _; (with_reducible repeat (first | refine zr ?_ _ | refine zw ?_ | refine za ?_ _)); refine blk_far ?_ NB197_203.out _; (with_reducible repeat (first | refine zr ?_ _ | refine zw ?_ | refine za ?_ _)); refine blk_far ?_ NB197_203.out _; (with_reducible repeat (first | refine zr ?_ _ | refine zw ?_ | refine za ?_ _)); exact BK197.out) Try.underlying24 rfl (by kernel_rfl)) rfl ?_; exact ⟨by first | rfl | (simp [errW_none, errW_some] <;> rfl) | (simp [*, errW_none, errW_some] <;> rfl), ky HB⟩

/-! ### wide_Shl: function 28 -/
mutual
def wide_Shl.j0 : Nat → Int → Int → Int → Bool → Int → Int → Option (Int × Int × Bool)
 | 0, _, _, _, _, _, _ => none
 | k + 1, x1, x6, x7, x18, x206000, x206001 => if x18 = true then (if x1 ≥ 0 then ((wide_told.f 0 0 (x206000 == 0 && (x206001 == 0))).bind fun bt209 => (some (bt209.1, bt209.2.1, bt209.2.2))) else ((wide_told.f 0 0 false).bind fun bt212 => (some (bt212.1, bt212.2.1, bt212.2.2)))) else (wide_Shl.l0 k x6 x7 x1 0 x206000 x206001)
def wide_Shl.l0 : Nat → Int → Int → Int → Int → Int → Int → Option (Int × Int × Bool)
 | 0, _, _, _, _, _, _ => none
 | k + 1, x6, x7, x30, x31, x206000, x206001 => if x31 < x30 then (if (x6 / 9223372036854775808) = 0 then (wide_Shl.l0 k (Go.bits .or .u64 (IntKind.u64.wrap (x6 * 2)) (x7 / 9223372036854775808)) (IntKind.u64.wrap (x7 * 2)) x30 (wrap64 (x31 + 1)) x206000 x206001) else (some (0, 0, false))) else ((wide_signed.f x6 x7 (decide (x206000 < 0))).bind fun bt215 => (some (bt215.1, bt215.2.1, bt215.2.2)))
end
def wide_Shl.f (k : Nat) (a0_0 : Int) (a0_1 : Int) (a1 : Int) : Option (Int × Int × Bool) := (wide_size.f a0_0 a0_1).bind fun bt207 => (if a1 < 0 then (wide_Shl.j0 k a1 bt207.1 bt207.2 true a0_0 a0_1) else (wide_Shl.j0 k a1 bt207.1 bt207.2 (decide (a1 ≥ 128)) a0_0 a0_1))
theorem wide_Shl.mono_l : ∀ k, (∀ y0 y1 y2 y3 y4 y5, LeO (wide_Shl.j0 k y0 y1 y2 y3 y4 y5) (wide_Shl.j0 (k + 1) y0 y1 y2 y3 y4 y5)) ∧ (∀ y0 y1 y2 y3 y4 y5, LeO (wide_Shl.l0 k y0 y1 y2 y3 y4 y5) (wide_Shl.l0 (k + 1) y0 y1 y2 y3 y4 y5))
 | 0 => ⟨fun _ _ _ _ _ _ r h => by simp [wide_Shl.j0] at h, fun _ _ _ _ _ _ r h => by simp [wide_Shl.l0] at h⟩
 | k + 1 => by
  obtain ⟨ih0, ih1⟩ := wide_Shl.mono_l k; refine ⟨?_, ?_⟩
  ·intro y0 y1 y2 y3 y4 y5
   unfold wide_Shl.j0
   repeat' first
   | (with_reducible exact ih0 _ _ _ _ _ _)
   | (with_reducible exact ih1 _ _ _ _ _ _)
   | (with_reducible exact LeO.refl _)
   | (with_reducible exact LeO.none _)
   | (with_reducible refine LeO.ite ?_ ?_)
   | (with_reducible refine LeO.bind ?_ (fun _ => ?_))
   | exact ih0 _ _ _ _ _ _
   | exact ih1 _ _ _ _ _ _
   | exact LeO.none _
   | refine LeO.ite ?_ ?_
   | refine LeO.bind ?_ (fun _ => ?_)
  ·intro y0 y1 y2 y3 y4 y5
   unfold wide_Shl.l0
   repeat' first
   | (with_reducible exact ih0 _ _ _ _ _ _)
   | (with_reducible exact ih1 _ _ _ _ _ _)
   | (with_reducible exact LeO.refl _)
   | (with_reducible exact LeO.none _)
   | (with_reducible refine LeO.ite ?_ ?_)
   | (with_reducible refine LeO.bind ?_ (fun _ => ?_))
   | exact ih0 _ _ _ _ _ _
   | exact ih1 _ _ _ _ _ _
   | exact LeO.none _
   | refine LeO.ite ?_ ?_
   | refine LeO.bind ?_ (fun _ => ?_)
theorem wide_Shl.mono : ∀ a0 a1 a2 k, LeO (wide_Shl.f k a0 a1 a2) (wide_Shl.f (k + 1) a0 a1 a2) := by
 intro a0 a1 a2 k; obtain ⟨ih0, ih1⟩ := wide_Shl.mono_l k
 unfold wide_Shl.f
 repeat' first
   | (with_reducible exact ih0 _ _ _ _ _ _)
   | (with_reducible exact ih1 _ _ _ _ _ _)
   | (with_reducible exact LeO.refl _)
   | (with_reducible exact LeO.none _)
   | (with_reducible refine LeO.ite ?_ ?_)
   | (with_reducible refine LeO.bind ?_ (fun _ => ?_))
   | exact ih0 _ _ _ _ _ _
   | exact ih1 _ _ _ _ _ _
   | exact LeO.none _
   | refine LeO.ite ?_ ?_
   | refine LeO.bind ?_ (fun _ => ?_)
set_option maxHeartbeats 8000000 in
set_option maxRecDepth 100000 in
theorem wide_Shl.calls (k : Nat) (a0_0 : Int) (a0_1 : Int) (a1 : Int) (r1 : Int) (r2 : Int) (r3 : Bool) (w : World) (h : wide_Shl.f k a0_0 a0_1 a1 = some (r1, r2, r3)) :
  Calls Try.prog 28 #[.agg #[.int .i64 a0_0, .int .u64 a0_1], .int .i64 a1] w fun e w' => e = .returned (.tuple #[.agg #[.int .i64 r1, .int .u64 r2], .bool r3]) ∧ Below w.heap.size w w' := by
 have hu24 := Try.underlying24; have HB := Aside0.mk (Below.refl w.heap.size w); have H : ((wide_size.f a0_0 a0_1).bind fun bt207 => (if a1 < 0 then (wide_Shl.j0 k a1 bt207.1 bt207.2 true a0_0 a0_1) else (wide_Shl.j0 k a1 bt207.1 bt207.2 (decide (a1 ≥ 128)) a0_0 a0_1))) = some (r1, r2, r3) := h; clear h; replace H := Option.bind_eq_some_iff.mp H; obtain ⟨⟨t207, t208⟩, A30, H⟩ := H; (try dsimp only at H); have A3 := Aside0.mk A30; clear A30; have HC4 := Aside0.mk H; clear H
 go_enter Try.func28, Try.ntmps28
 go_upto_region 2 with (first | ((with_reducible refine gate_dst (N := 2) rfl ?_); refine box_event ?hg (N := 2) ?hd (cs := #[.int .i64 a0_0, .int .u64 a0_1]) (t := 24) ?hr ?_; (case hd => rfl); (case hg => rfl); (case hr => first | (go_simp; done) | (go_simp; rfl)); intro gb205 hg w5 hbox hb; have BK205 := Aside0.mk (hbox); have GW205 := kS HB hg; have GE205 := kS HB hg; replace HB := kB HB hb; clear hb hbox hg) | ((with_reducible refine gate_dst (N := 4) rfl ?_); refine box_event ?hg (N := 4) ?hd (cs := #[.int .i64 0, .int .u64 0]) (t := 24) ?hr ?_; (case hd => rfl); (case hg => rfl); (case hr => first | (go_simp; done) | (go_simp; rfl)); intro gb206 hg w6 hbox hb; have BK206 := Aside0.mk (hbox); have GW206 := kS HB hg; have GE206 := kS HB hg; have NB205_206 := kN BK205 hg; have NB206_205 := kM BK205 hg; replace BK205 := kb BK205 hb; replace HB := kB HB hb; clear hb hbox hg; have hnb7 := NB205_206.out; have hnc7 := NB206_205.out; have hcz8_0 : w6.cell? ⟨gb205, 0, none⟩ = some (.int .i64 a0_0) := kc BK205 0; have hcz8_1 : w6.cell? ⟨gb205, 1, none⟩ = some (.int .u64 a0_1) := kc BK205 1; have hfz8_0 := blk_frozen BK205.out 0; have hfz8_1 := blk_frozen BK205.out 1) | ((with_reducible refine gate_callee (f := 60) rfl ?_); refine gL 10 Try.func60 #[.agg #[.int .i64 a0_0, .int .u64 a0_1]] ?_; (with_reducible refine (wide_size.calls a0_0 a0_1 t207 t208 _ A3.out).mono ?_); rintro e w9 ⟨rfl, hb⟩; refine ⟨_, rfl, ?_⟩; replace BK205 := kb BK205 hb; replace BK206 := kb BK206 hb; replace HB := kB HB hb; (try clear hb); (try clear hb2); (try clear hk); (try clear hi)))
 (try simp only [Act.put, s1, s2, s3])
 go_cut [18] (fun v18 wc => ∃ (kq : Nat) (x18_3 : Bool), v18 = .bool x18_3 ∧ Aside0 (wide_Shl.j0 kq a1 t207 t208 x18_3 a0_0 a0_1 = some (r1, r2, r3)) ∧ Aside0 (kq ≤ k) ∧ Aside0 (wc.heap[gb205]? = some (.cells #[.int .i64 a0_0, .int .u64 a0_1] 24 (0, 0))) ∧ Aside0 (wc.heap[gb206]? = some (.cells #[.int .i64 0, .int .u64 0] 24 (0, 0))) ∧ Aside0 (Below w.heap.size w wc))
 case first =>
  have H := HC4.out; clear HC4
  by_cases c10 : a1 < 0
  ·rw [if_pos c10] at H
   have c10b0 : decide (a1 < 0) = true := decide_eq_true c10; clear c10
   (first | rw [c10b0] | (simp only [i64_w, i32_w]; rw [c10b0]) | skip)
   have H' := Aside0.mk H; clear H
   go_wp2
   go_meet
   case rel => exact ⟨_, (true), (by first | rfl | (simp; done) | (simp [*]; done)), H', ⟨by first | omega | exact Nat.le_refl _⟩, ⟨kx BK205⟩, ⟨kx BK206⟩, ⟨ky HB⟩⟩
  rw [if_neg c10] at H
  have c10b0 : decide (a1 < 0) = false := decide_eq_false c10; clear c10
  (first | rw [c10b0] | (simp only [i64_w, i32_w]; rw [c10b0]) | skip)
  have H' := Aside0.mk H; clear H
  go_wp2
  go_meet
  case rel => exact ⟨_, (decide (a1 ≥ 128)), (by first | rfl | (simp; done) | (simp [*]; done)), H', ⟨by first | omega | exact Nat.le_refl _⟩, ⟨kx BK205⟩, ⟨kx BK206⟩, ⟨ky HB⟩⟩
 case rest =>
  clear HC4; try clear c1; try clear c2; try clear p2; try clear c6; try clear c7; try clear c10; try clear c10b0; try clear hcz8_0; try clear hcz8_1; try clear hfz8_0; try clear hfz8_1
  obtain ⟨kq, x18_3, rfl, HA, HJ3, BK205, BK206, HB⟩ := hcut
  cases kq with
  | zero => exact absurd HA.out (by simp [wide_Shl.j0])
  | succ kj3 =>
   have H := HA.out; clear HA
   simp only [wide_Shl.j0] at H
   by_cases c11 : x18_3 = true
   ·subst c11
    rw [if_pos rfl] at H
    by_cases c12 : a1 ≥ 0
    rotate_left
    ·rw [if_neg c12] at H
     have c12b0 : decide (0 ≤ a1) = false := decide_eq_false c12; clear c12; replace H := Option.bind_eq_some_iff.mp H; obtain ⟨⟨t212, t213, t214⟩, A180, H⟩ := H; (try dsimp only at H); have A18 := Aside0.mk A180; clear A180
     simp only [Option.some.injEq, Prod.mk.injEq] at H
     obtain ⟨rfl, rfl, rfl⟩ := H
     go_wp2_with (first | ((with_reducible refine gate_callee (f := 56) rfl ?_); refine gL 27 Try.func56 #[.agg #[.int .i64 0, .int .u64 0], .bool false] ?_; (with_reducible refine (wide_told.calls 0 0 false t212 t213 t214 _ A18.out).mono ?_); rintro e w19 ⟨rfl, hb⟩; refine ⟨_, rfl, ?_⟩; replace BK205 := kb BK205 hb; replace BK206 := kb BK206 hb; replace HB := kB HB hb; (try clear hb); (try clear hb2); (try clear hk); (try clear hi); have hnb20 := NB206_205.out; have hnc20 := NB205_206.out; have hcz21_0 : w19.cell? ⟨gb206, 0, none⟩ = some (.int .i64 0) := kc BK206 0; have hcz21_1 : w19.cell? ⟨gb206, 1, none⟩ = some (.int .u64 0) := kc BK206 1; have hfz21_0 := blk_frozen BK206.out 0; have hfz21_1 := blk_frozen BK206.out 1))
     refine bodyPost_ret (results_ct rfl _ _ gb206 24 #[.int .i64 t212, .int .u64 t213] (0, 0) _ rfl (by (with_reducible repeat (first | refine zr ?_ _ | refine zw ?_ | refine za ?_ _)); refine blk_put (cs := #[.int .i64 t212, .int .u64 0]) ?_ 1 _ rfl; (with_reducible repeat (first | refine zr ?_ _ | refine zw ?_ | refine za ?_ _)); refine blk_put (cs := #[.int .i64 0, .int .u64 0]) ?_ 0 _ rfl; (with_reducible repeat (first | refine zr ?_ _ | refine zw ?_ | refine za ?_ _)); exact BK206.out) Try.underlying24 rfl (by kernel_rfl)) rfl ?_; exact ⟨by first | rfl | (simp [errW_none, errW_some] <;> rfl) | (simp [*, errW_none, errW_some] <;> rfl), ky HB⟩
    rw [if_pos c12] at H
    have c12b0 : decide (0 ≤ a1) = true := decide_eq_true c12; clear c12; replace H := Option.bind_eq_some_iff.mp H; obtain ⟨⟨t209, t210, t211⟩, A130, H⟩ := H; (try dsimp only at H); have A13 := Aside0.mk A130; clear A130
    simp only [Option.some.injEq, Prod.mk.injEq] at H
    obtain ⟨rfl, rfl, rfl⟩ := H; have hnb14 := NB205_206.out; have hnc14 := NB206_205.out; obtain ⟨hcz15_0, hcz15_1⟩ := kc2 BK205; obtain ⟨hfz15_0, hfz15_1⟩ := kf2 BK205
    go_wp2_with (first | ((with_reducible refine gate_callee (f := 56) rfl ?_); refine gL 27 Try.func56 #[.agg #[.int .i64 0, .int .u64 0], .bool (a0_0 == 0 && (a0_1 == 0))] ?_; (with_reducible refine (wide_told.calls 0 0 (a0_0 == 0 && (a0_1 == 0)) t209 t210 t211 _ A13.out).mono ?_); rintro e w16 ⟨rfl, hb⟩; refine ⟨_, rfl, ?_⟩; replace BK205 := kb BK205 hb; replace BK206 := kb BK206 hb; replace HB := kB HB hb; (try clear hb); (try clear hb2); (try clear hk); (try clear hi); have hcz17_0 : w16.cell? ⟨gb206, 0, none⟩ = some (.int .i64 0) := kc BK206 0; have hcz17_1 : w16.cell? ⟨gb206, 1, none⟩ = some (.int .u64 0) := kc BK206 1; have hfz17_0 := blk_frozen BK206.out 0; have hfz17_1 := blk_frozen BK206.out 1))
    refine bodyPost_ret (results_ct rfl _ _ gb206 24 #[.int .i64 t209, .int .u64 t210] (0, 0) _ rfl (by (with_reducible repeat (first | refine zr ?_ _ | refine zw ?_ | refine za ?_ _)); refine blk_put (cs := #[.int .i64 t209, .int .u64 0]) ?_ 1 _ rfl; (with_reducible repeat (first | refine zr ?_ _ | refine zw ?_ | refine za ?_ _)); refine blk_put (cs := #[.int .i64 0, .int .u64 0]) ?_ 0 _ rfl; (with_reducible repeat (first | refine zr ?_ _ | refine zw ?_ | refine za ?_ _)); exact BK206.out) Try.underlying24 rfl (by kernel_rfl)) rfl ?_; exact ⟨by first | rfl | (simp [errW_none, errW_some] <;> rfl) | (simp [*, errW_none, errW_some] <;> rfl), ky HB⟩
   replace c11 := Bool.eq_false_iff.mpr c11; subst c11
   rw [if_neg (show ¬ (false = true) by decide)] at H; have H' := Aside0.mk H; clear H
   go_wp2
   go_loopg [6, 7, 31] kj3 (fun kq v6 v7 v31 w' => ∃ (x6_2 : Int) (x7_2 : Int) (x31_2 : Int) (x207000_2 : Int) (x207001_2 : Int), v6 = .int .u64 x6_2 ∧ v7 = .int .u64 x7_2 ∧ v31 = .int .i64 x31_2 ∧ Aside0 (wide_Shl.l0 kq x6_2 x7_2 a1 x31_2 a0_0 a0_1 = some (r1, r2, r3)) ∧ Aside0 (kq ≤ kj3) ∧ Aside0 (w'.heap[gb205]? = some (.cells #[.int .i64 a0_0, .int .u64 a0_1] 24 (0, 0))) ∧ Aside0 (w'.heap[gb206]? = some (.cells #[.int .i64 x207000_2, .int .u64 x207001_2] 24 (0, 0))) ∧ Aside0 (Below w.heap.size w w'))
   case atStart => exact ⟨(t207), (t208), (0), (0), (0), (by first | rfl | (simp; done) | (simp [*]; done)), (by first | rfl | (simp; done) | (simp [*]; done)), (by first | rfl | (simp; done) | (simp [*]; done)), H', ⟨Nat.le_refl _⟩, ⟨kx BK205⟩, ⟨kx BK206⟩, ⟨ky HB⟩⟩
   case round =>
    clear H'
    try clear c1; try clear c2; try clear p2; try clear c5; try clear c6; try clear c7; try clear c10; try clear c10b0; try clear c11; try clear c12; try clear c12b0; try clear c14; try clear c20; try clear hcz15_0; try clear hcz15_1; try clear hcz17_0; try clear hcz17_1; try clear hcz21_0; try clear hcz21_1; try clear hcz8_0; try clear hcz8_1; try clear hfz15_0; try clear hfz15_1; try clear hfz17_0; try clear hfz17_1; try clear hfz21_0; try clear hfz21_1; try clear hfz8_0; try clear hfz8_1; try clear p2
    obtain ⟨x6_2, x7_2, x31_2, x207000_2, x207001_2, rfl, rfl, rfl, HA, HK2, BK205, BK206, HB⟩ := hrel
    cases gk with
    | zero => exact absurd HA.out (by simp [wide_Shl.l0])
    | succ k2 =>
     have H := HA.out; clear HA
     simp only [wide_Shl.l0] at H
     by_cases c22 : x31_2 < a1
     ·rw [if_pos c22] at H
      have c22b0 : decide (x31_2 < a1) = true := decide_eq_true c22; clear c22
      by_cases c23 : (x6_2 / 9223372036854775808) = 0
      ·rw [if_pos c23] at H
       have c23b0 : ((x6_2 / 9223372036854775808) == 0) = true := beq_iff_eq.mpr c23; have c23b1 : ((x6_2 / 9223372036854775808) != 0) = false := bne_eq_false_iff_eq.mpr c23; clear c23; have H' := Aside0.mk H; clear H
       go_wp2
       go_roundg k2
       case measure => have := HJ3.out; have := HK2.out; omega
       case rel => exact ⟨(Go.bits .or .u64 (IntKind.u64.wrap (x6_2 * 2)) (x7_2 / 9223372036854775808)), (IntKind.u64.wrap (x7_2 * 2)), (wrap64 (x31_2 + 1)), (x207000_2), (x207001_2), (by first | rfl | (simp; done) | (simp [*]; done)), (by first | rfl | (simp; done) | (simp [*]; done)), (by first | rfl | (simp; done) | (simp [*]; done)), H', ⟨by have := HJ3.out; have := HK2.out; omega⟩, ⟨kx BK205⟩, ⟨kx BK206⟩, ⟨ky HB⟩⟩
      rw [if_neg c23] at H
      have c23b0 : ((x6_2 / 9223372036854775808) == 0) = false := beq_eq_false_iff_ne.mpr c23; have c23b1 : ((x6_2 / 9223372036854775808) != 0) = true := bne_iff_ne.mpr c23
      simp only [Option.some.injEq, Prod.mk.injEq] at H
      obtain ⟨rfl, rfl, rfl⟩ := H; have hnb24 := NB206_205.out; have hnc24 := NB205_206.out; obtain ⟨hcz25_0, hcz25_1⟩ := kc2 BK206; obtain ⟨hfz25_0, hfz25_1⟩ := kf2 BK206
      go_wp2
      refine bodyPost_ret (results_ct rfl _ _ gb206 24 #[.int .i64 0, .int .u64 0] (0, 0) _ rfl (by (with_reducible repeat (first | refine zr ?_ _ | refine zw ?_ | refine za ?_ _)); refine blk_put (cs := #[.int .i64 0, .int .u64 x207001_2]) ?_ 1 _ rfl; (with_reducible repeat (first | refine zr ?_ _ | refine zw ?_ | refine za ?_ _)); refine blk_put (cs := #[.int .i64 x207000_2, .int .u64 x207001_2]) ?_ 0 _ rfl; (with_reducible repeat (first | refine zr ?_ _ | refine zw ?_ | refine za ?_ _)); exact BK206.out) Try.underlying24 rfl (by kernel_rfl)) rfl ?_; exact ⟨by first | rfl | (simp [errW_none, errW_some] <;> rfl) | (simp [*, errW_none, errW_some] <;> rfl), ky HB⟩
     rw [if_neg c22] at H
     have c22b0 : decide (x31_2 < a1) = false := decide_eq_false c22; clear c22; replace H := Option.bind_eq_some_iff.mp H; obtain ⟨⟨t215, t216, t217⟩, A260, H⟩ := H; (try dsimp only at H); have A26 := Aside0.mk A260; clear A260
     simp only [Option.some.injEq, Prod.mk.injEq] at H
     obtain ⟨rfl, rfl, rfl⟩ := H; have hnb27 := NB205_206.out; have hnc27 := NB206_205.out; obtain ⟨hcz28_0, hcz28_1⟩ := kc2 BK205; obtain ⟨hfz28_0, hfz28_1⟩ := kf2 BK205
     go_wp2_with (first | ((with_reducible refine gate_callee (f := 61) rfl ?_); refine gL 50 Try.func61 #[.int .u64 x6_2, .int .u64 x7_2, .bool (decide (a0_0 < 0))] ?_; (with_reducible refine (wide_signed.calls x6_2 x7_2 (decide (a0_0 < 0)) t215 t216 t217 _ A26.out).mono ?_); rintro e w29 ⟨rfl, hb⟩; refine ⟨_, rfl, ?_⟩; replace BK205 := kb BK205 hb; replace BK206 := kb BK206 hb; replace HB := kB HB hb; (try clear hb); (try clear hb2); (try clear hk); (try clear hi); have hcz30_0 : w29.cell? ⟨gb206, 0, none⟩ = some (.int .i64 x207000_2) := kc BK206 0; have hcz30_1 : w29.cell? ⟨gb206, 1, none⟩ = some (.int .u64 x207001_2) := kc BK206 1; have hfz30_0 := blk_frozen BK206.out 0; have hfz30_1 := blk_frozen BK206.out 1))
     refine bodyPost_ret (results_ct rfl _ _ gb206 24 #[.int .i64 t215, .int .u64 t216] (0, 0) _ rfl (by (with_reducible repeat (first | refine zr ?_ _ | refine zw ?_ | refine za ?_ _)); refine blk_put (cs := #[.int .i64 t215, .int .u64 x207001_2]) ?_ 1 _ rfl; (with_reducible repeat (first | refine zr ?_ _ | refine zw ?_ | refine za ?_ _)); refine blk_put (cs := #[.int .i64 x207000_2, .int .u64 x207001_2]) ?_ 0 _ rfl; (with_reducible repeat (first | refine zr ?_ _ | refine zw ?_ | refine za ?_ _)); exact BK206.out) Try.underlying24 rfl (by kernel_rfl)) rfl ?_; exact ⟨by first | rfl | (simp [errW_none, errW_some] <;> rfl) | (simp [*, errW_none, errW_some] <;> rfl), ky HB⟩

/-! ### wide_Add: function 25 -/
def wide_Add.f (a0_0 : Int) (a0_1 : Int) (a1_0 : Int) (a1_1 : Int) : Option (Int × Int × Bool) := (wide_wrap.f a0_0 a0_1 a1_0 a1_1).bind fun bt221 => (if ((decide (a0_0 < 0)) != (decide (a1_0 < 0))) = true then ((wide_told.f bt221.1 bt221.2 true).bind fun bt224 => (some (bt224.1, bt224.2.1, bt224.2.2))) else ((wide_told.f bt221.1 bt221.2 ((decide (a0_0 < 0)) == (decide (bt221.1 < 0)))).bind fun bt227 => (some (bt227.1, bt227.2.1, bt227.2.2))))
set_option maxHeartbeats 8000000 in
set_option maxRecDepth 100000 in
theorem wide_Add.calls (a0_0 : Int) (a0_1 : Int) (a1_0 : Int) (a1_1 : Int) (r1 : Int) (r2 : Int) (r3 : Bool) (w : World) (h : wide_Add.f a0_0 a0_1 a1_0 a1_1 = some (r1, r2, r3)) :
  Calls Try.prog 25 #[.agg #[.int .i64 a0_0, .int .u64 a0_1], .agg #[.int .i64 a1_0, .int .u64 a1_1]] w fun e w' => e = .returned (.tuple #[.agg #[.int .i64 r1, .int .u64 r2], .bool r3]) ∧ Below w.heap.size w w' := by
 have hu24 := Try.underlying24; have HB := Aside0.mk (Below.refl w.heap.size w); have H : ((wide_wrap.f a0_0 a0_1 a1_0 a1_1).bind fun bt221 => (if ((decide (a0_0 < 0)) != (decide (a1_0 < 0))) = true then ((wide_told.f bt221.1 bt221.2 true).bind fun bt224 => (some (bt224.1, bt224.2.1, bt224.2.2))) else ((wide_told.f bt221.1 bt221.2 ((decide (a0_0 < 0)) == (decide (bt221.1 < 0)))).bind fun bt227 => (some (bt227.1, bt227.2.1, bt227.2.2))))) = some (r1, r2, r3) := h; clear h; replace H := Option.bind_eq_some_iff.mp H; obtain ⟨⟨t221, t222⟩, A30, H⟩ := H; (try dsimp only at H); have A3 := Aside0.mk A30; clear A30
 by_cases c4 : ((decide (a0_0 < 0)) != (decide (a1_0 < 0))) = true
 ·rw [if_pos c4] at H
  have c4b0 : ((decide (a0_0 < 0)) != (decide (a1_0 < 0))) = true := c4
  (try (have c4b1 : decide ((decide (a0_0 < 0)) = (decide (a1_0 < 0))) = false := by simpa using c4))
  (try (have c4b2 : ((decide (a0_0 < 0)) == (decide (a1_0 < 0))) = false := by simpa using c4))
  (try (have c4b3 : ¬ ((decide (a0_0 < 0)) = (decide (a1_0 < 0))) := by simpa using c4))
  clear c4; replace H := Option.bind_eq_some_iff.mp H; obtain ⟨⟨t224, t225, t226⟩, A50, H⟩ := H; (try dsimp only at H); have A5 := Aside0.mk A50; clear A50
  simp only [Option.some.injEq, Prod.mk.injEq] at H
  obtain ⟨rfl, rfl, rfl⟩ := H
  go_enter Try.func25, Try.ntmps25
  go_wp2_with (first | ((with_reducible refine gate_dst (N := 2) rfl ?_); refine box_event ?hg (N := 2) ?hd (cs := #[.int .i64 a0_0, .int .u64 a0_1]) (t := 24) ?hr ?_; (case hd => rfl); (case hg => rfl); (case hr => first | (go_simp; done) | (go_simp; rfl)); intro gb218 hg w6 hbox hb; have BK218 := Aside0.mk (hbox); have GW218 := kS HB hg; have GE218 := kS HB hg; replace HB := kB HB hb; clear hb hbox hg) | ((with_reducible refine gate_dst (N := 3) rfl ?_); refine box_event ?hg (N := 3) ?hd (cs := #[.int .i64 a1_0, .int .u64 a1_1]) (t := 24) ?hr ?_; (case hd => rfl); (case hg => rfl); (case hr => first | (go_simp; done) | (go_simp; rfl)); intro gb219 hg w7 hbox hb; have BK219 := Aside0.mk (hbox); have GW219 := kS HB hg; have GE219 := kS HB hg; have NB218_219 := kN BK218 hg; have NB219_218 := kM BK218 hg; replace BK218 := kb BK218 hb; replace HB := kB HB hb; clear hb hbox hg) | ((with_reducible refine gate_dst (N := 4) rfl ?_); refine box_event ?hg (N := 4) ?hd (cs := #[.int .i64 0, .int .u64 0]) (t := 24) ?hr ?_; (case hd => rfl); (case hg => rfl); (case hr => first | (go_simp; done) | (go_simp; rfl)); intro gb220 hg w8 hbox hb; have BK220 := Aside0.mk (hbox); have GW220 := kS HB hg; have GE220 := kS HB hg; have NB218_220 := kN BK218 hg; have NB220_218 := kM BK218 hg; have NB219_220 := kN BK219 hg; have NB220_219 := kM BK219 hg; replace BK218 := kb BK218 hb; replace BK219 := kb BK219 hb; replace HB := kB HB hb; clear hb hbox hg; have hnb9 := NB218_219.out; have hnc9 := NB219_218.out; have hnb10 := NB218_220.out; have hnc10 := NB220_218.out; have hcz11_0 : w8.cell? ⟨gb218, 0, none⟩ = some (.int .i64 a0_0) := kc BK218 0; have hcz11_1 : w8.cell? ⟨gb218, 1, none⟩ = some (.int .u64 a0_1) := kc BK218 1; have hfz11_0 := blk_frozen BK218.out 0; have hfz11_1 := blk_frozen BK218.out 1; have hnb12 := NB219_220.out; have hnc12 := NB220_219.out; have hcz13_0 : w8.cell? ⟨gb219, 0, none⟩ = some (.int .i64 a1_0) := kc BK219 0; have hcz13_1 : w8.cell? ⟨gb219, 1, none⟩ = some (.int .u64 a1_1) := kc BK219 1; have hfz13_0 := blk_frozen BK219.out 0; have hfz13_1 := blk_frozen BK219.out 1) | ((with_reducible refine gate_callee (f := 55) rfl ?_); refine gL 9 Try.func55 #[.agg #[.int .i64 a0_0, .int .u64 a0_1], .agg #[.int .i64 a1_0, .int .u64 a1_1]] ?_; (with_reducible refine (wide_wrap.calls a0_0 a0_1 a1_0 a1_1 t221 t222 _ A3.out).mono ?_); rintro e w14 ⟨rfl, hb⟩; refine ⟨_, rfl, ?_⟩; replace BK218 := kb BK218 hb; replace BK219 := kb BK219 hb; replace BK220 := kb BK220 hb; replace HB := kB HB hb; (try clear hb); (try clear hb2); (try clear hk); (try clear hi)) | ((with_reducible refine gate_dst (N := 6) rfl ?_); refine box_event ?hg (N := 6) ?hd (cs := #[.int .i64 0, .int .u64 0]) (t := 24) ?hr ?_; (case hd => rfl); (case hg => rfl); (case hr => first | (go_simp; done) | (go_simp; rfl)); intro gb223 hg w15 hbox hb; have BK223 := Aside0.mk (hbox); have GW223 := kS HB hg; have GE223 := kS HB hg; have NB218_223 := kN BK218 hg; have NB223_218 := kM BK218 hg; have NB219_223 := kN BK219 hg; have NB223_219 := kM BK219 hg; have NB220_223 := kN BK220 hg; have NB223_220 := kM BK220 hg; replace BK218 := kb BK218 hb; replace BK219 := kb BK219 hb; replace BK220 := kb BK220 hb; replace HB := kB HB hb; clear hb hbox hg; have hnb16 := NB223_218.out; have hnc16 := NB218_223.out; have hnb17 := NB223_219.out; have hnc17 := NB219_223.out; have hnb18 := NB223_220.out; have hnc18 := NB220_223.out; have hcz19_0 : w15.cell? ⟨gb223, 0, none⟩ = some (.int .i64 0) := kc BK223 0; have hcz19_1 : w15.cell? ⟨gb223, 1, none⟩ = some (.int .u64 0) := kc BK223 1; have hfz19_0 := blk_frozen BK223.out 0; have hfz19_1 := blk_frozen BK223.out 1; have hcz20_0 : w15.cell? ⟨gb218, 0, none⟩ = some (.int .i64 a0_0) := kc BK218 0; have hcz20_1 : w15.cell? ⟨gb218, 1, none⟩ = some (.int .u64 a0_1) := kc BK218 1; have hfz20_0 := blk_frozen BK218.out 0; have hfz20_1 := blk_frozen BK218.out 1; have hcz21_0 : w15.cell? ⟨gb219, 0, none⟩ = some (.int .i64 a1_0) := kc BK219 0; have hcz21_1 : w15.cell? ⟨gb219, 1, none⟩ = some (.int .u64 a1_1) := kc BK219 1; have hfz21_0 := blk_frozen BK219.out 0; have hfz21_1 := blk_frozen BK219.out 1) | ((with_reducible refine gate_callee (f := 56) rfl ?_); refine gL 27 Try.func56 #[.agg #[.int .i64 t221, .int .u64 t222], .bool true] ?_; (with_reducible refine (wide_told.calls t221 t222 true t224 t225 t226 _ A5.out).mono ?_); rintro e w22 ⟨rfl, hb⟩; refine ⟨_, rfl, ?_⟩; have n0_ := kb BK218 hb; have n1_ := kb BK219 hb; have n2_ := kb BK220 hb; have n3_ := Aside0.mk (blk_below (g := gb223) (o := .cells #[.int .i64 t221, .int .u64 t222] 24 (0, 0)) (by (with_reducible repeat (first | refine zr ?_ _ | refine zw ?_ | refine za ?_ _)); refine blk_put (cs := #[.int .i64 t221, .int .u64 0]) ?_ 1 _ rfl; (with_reducible repeat (first | refine zr ?_ _ | refine zw ?_ | refine za ?_ _)); refine blk_put (cs := #[.int .i64 0, .int .u64 0]) ?_ 0 _ rfl; (with_reducible repeat (first | refine zr ?_ _ | refine zw ?_ | refine za ?_ _)); exact BK223.out) hb); have n4_ := kB HB hb; clear BK218; clear BK219; clear BK220; clear BK223; clear HB; have BK218 := n0_; have BK219 := n1_; have BK220 := n2_; have BK223 := n3_; have HB := n4_; clear n0_ n1_ n2_ n3_ n4_; (try clear hb); (try clear hb2); (try clear hk); (try clear hi); have hcz23_0 : w22.cell? ⟨gb220, 0, none⟩ = some (.int .i64 0) := kc BK220 0; have hcz23_1 : w22.cell? ⟨gb220, 1, none⟩ = some (.int .u64 0) := kc BK220 1; have hfz23_0 := blk_frozen BK220.out 0; have hfz23_1 := blk_frozen BK220.out 1))
  refine bodyPost_ret (results_ct rfl _ _ gb220 24 #[.int .i64 t224, .int .u64 t225] (0, 0) _ rfl (by (with_reducible repeat (first | refine zr ?_ _ | refine zw ?_ | refine za ?_ _)); refine blk_put (cs := #[.int .i64 t224, .int .u64 0]) ?_ 1 _ rfl; (with_reducible repeat (first | refine zr ?_ _ | refine zw ?_ | refine za ?_ _)); refine blk_put (cs := #[.int .i64 0, .int .u64 0]) ?_ 0 _ rfl; (with_reducible repeat (first | refine zr ?_ _ | refine zw ?_ | refine za ?_ _)); exact BK220.out) Try.underlying24 rfl (by kernel_rfl)) rfl ?_; exact ⟨by first | rfl | (simp [errW_none, errW_some] <;> rfl) | (simp [*, errW_none, errW_some] <;> rfl), ky HB⟩
 rw [if_neg c4] at H
 have c4b0 : ((decide (a0_0 < 0)) != (decide (a1_0 < 0))) = false := by simpa using c4
 (try (have c4b1 : decide ((decide (a0_0 < 0)) = (decide (a1_0 < 0))) = true := by simpa using c4))
 (try (have c4b2 : ((decide (a0_0 < 0)) == (decide (a1_0 < 0))) = true := by simpa using c4))
 clear c4; replace H := Option.bind_eq_some_iff.mp H; obtain ⟨⟨t227, t228, t229⟩, A240, H⟩ := H; (try dsimp only at H); have A24 := Aside0.mk A240; clear A240
 simp only [Option.some.injEq, Prod.mk.injEq] at H
 obtain ⟨rfl, rfl, rfl⟩ := H
 go_enter Try.func25, Try.ntmps25
 go_wp2_with (first | ((with_reducible refine gate_dst (N := 2) rfl ?_); refine box_event ?hg (N := 2) ?hd (cs := #[.int .i64 a0_0, .int .u64 a0_1]) (t := 24) ?hr ?_; (case hd => rfl); (case hg => rfl); (case hr => first | (go_simp; done) | (go_simp; rfl)); intro gb218 hg w25 hbox hb; have BK218 := Aside0.mk (hbox); have GW218 := kS HB hg; have GE218 := kS HB hg; replace HB := kB HB hb; clear hb hbox hg) | ((with_reducible refine gate_dst (N := 3) rfl ?_); refine box_event ?hg (N := 3) ?hd (cs := #[.int .i64 a1_0, .int .u64 a1_1]) (t := 24) ?hr ?_; (case hd => rfl); (case hg => rfl); (case hr => first | (go_simp; done) | (go_simp; rfl)); intro gb219 hg w26 hbox hb; have BK219 := Aside0.mk (hbox); have GW219 := kS HB hg; have GE219 := kS HB hg; have NB218_219 := kN BK218 hg; have NB219_218 := kM BK218 hg; replace BK218 := kb BK218 hb; replace HB := kB HB hb; clear hb hbox hg) | ((with_reducible refine gate_dst (N := 4) rfl ?_); refine box_event ?hg (N := 4) ?hd (cs := #[.int .i64 0, .int .u64 0]) (t := 24) ?hr ?_; (case hd => rfl); (case hg => rfl); (case hr => first | (go_simp; done) | (go_simp; rfl)); intro gb220 hg w27 hbox hb; have BK220 := Aside0.mk (hbox); have GW220 := kS HB hg; have GE220 := kS HB hg; have NB218_220 := kN BK218 hg; have NB220_218 := kM BK218 hg; have NB219_220 := kN BK219 hg; have NB220_219 := kM BK219 hg; replace BK218 := kb BK218 hb; replace BK219 := kb BK219 hb; replace HB := kB HB hb; clear hb hbox hg; have hnb28 := NB218_219.out; have hnc28 := NB219_218.out; have hnb29 := NB218_220.out; have hnc29 := NB220_218.out; have hcz30_0 : w27.cell? ⟨gb218, 0, none⟩ = some (.int .i64 a0_0) := kc BK218 0; have hcz30_1 : w27.cell? ⟨gb218, 1, none⟩ = some (.int .u64 a0_1) := kc BK218 1; have hfz30_0 := blk_frozen BK218.out 0; have hfz30_1 := blk_frozen BK218.out 1; have hnb31 := NB219_220.out; have hnc31 := NB220_219.out; have hcz32_0 : w27.cell? ⟨gb219, 0, none⟩ = some (.int .i64 a1_0) := kc BK219 0; have hcz32_1 : w27.cell? ⟨gb219, 1, none⟩ = some (.int .u64 a1_1) := kc BK219 1; have hfz32_0 := blk_frozen BK219.out 0; have hfz32_1 := blk_frozen BK219.out 1) | ((with_reducible refine gate_callee (f := 55) rfl ?_); refine gL 9 Try.func55 #[.agg #[.int .i64 a0_0, .int .u64 a0_1], .agg #[.int .i64 a1_0, .int .u64 a1_1]] ?_; (with_reducible refine (wide_wrap.calls a0_0 a0_1 a1_0 a1_1 t221 t222 _ A3.out).mono ?_); rintro e w33 ⟨rfl, hb⟩; refine ⟨_, rfl, ?_⟩; replace BK218 := kb BK218 hb; replace BK219 := kb BK219 hb; replace BK220 := kb BK220 hb; replace HB := kB HB hb; (try clear hb); (try clear hb2); (try clear hk); (try clear hi)) | ((with_reducible refine gate_dst (N := 6) rfl ?_); refine box_event ?hg (N := 6) ?hd (cs := #[.int .i64 0, .int .u64 0]) (t := 24) ?hr ?_; (case hd => rfl); (case hg => rfl); (case hr => first | (go_simp; done) | (go_simp; rfl)); intro gb223 hg w34 hbox hb; have BK223 := Aside0.mk (hbox); have GW223 := kS HB hg; have GE223 := kS HB hg; have NB218_223 := kN BK218 hg; have NB223_218 := kM BK218 hg; have NB219_223 := kN BK219 hg; have NB223_219 := kM BK219 hg; have NB220_223 := kN BK220 hg; have NB223_220 := kM BK220 hg; replace BK218 := kb BK218 hb; replace BK219 := kb BK219 hb; replace BK220 := kb BK220 hb; replace HB := kB HB hb; clear hb hbox hg; have hnb35 := NB223_218.out; have hnc35 := NB218_223.out; have hnb36 := NB223_219.out; have hnc36 := NB219_223.out; have hnb37 := NB223_220.out; have hnc37 := NB220_223.out; have hcz38_0 : w34.cell? ⟨gb223, 0, none⟩ = some (.int .i64 0) := kc BK223 0; have hcz38_1 : w34.cell? ⟨gb223, 1, none⟩ = some (.int .u64 0) := kc BK223 1; have hfz38_0 := blk_frozen BK223.out 0; have hfz38_1 := blk_frozen BK223.out 1; have hcz39_0 : w34.cell? ⟨gb218, 0, none⟩ = some (.int .i64 a0_0) := kc BK218 0; have hcz39_1 : w34.cell? ⟨gb218, 1, none⟩ = some (.int .u64 a0_1) := kc BK218 1; have hfz39_0 := blk_frozen BK218.out 0; have hfz39_1 := blk_frozen BK218.out 1; have hcz40_0 : w34.cell? ⟨gb219, 0, none⟩ = some (.int .i64 a1_0) := kc BK219 0; have hcz40_1 : w34.cell? ⟨gb219, 1, none⟩ = some (.int .u64 a1_1) := kc BK219 1; have hfz40_0 := blk_frozen BK219.out 0; have hfz40_1 := blk_frozen BK219.out 1) | ((with_reducible refine gate_callee (f := 56) rfl ?_); refine gL 27 Try.func56 #[.agg #[.int .i64 t221, .int .u64 t222], .bool ((decide (a0_0 < 0)) == (decide (t221 < 0)))] ?_; (with_reducible refine (wide_told.calls t221 t222 ((decide (a0_0 < 0)) == (decide (t221 < 0))) t227 t228 t229 _ A24.out).mono ?_); rintro e w41 ⟨rfl, hb⟩; refine ⟨_, rfl, ?_⟩; have n0_ := kb BK218 hb; have n1_ := kb BK219 hb; have n2_ := kb BK220 hb; have n3_ := Aside0.mk (blk_below (g := gb223) (o := .cells #[.int .i64 t221, .int .u64 t222] 24 (0, 0)) (by (with_reducible repeat (first | refine zr ?_ _ | refine zw ?_ | refine za ?_ _)); refine blk_put (cs := #[.int .i64 t221, .int .u64 0]) ?_ 1 _ rfl; (with_reducible repeat (first | refine zr ?_ _ | refine zw ?_ | refine za ?_ _)); refine blk_put (cs := #[.int .i64 0, .int .u64 0]) ?_ 0 _ rfl; (with_reducible repeat (first | refine zr ?_ _ | refine zw ?_ | refine za ?_ _)); exact BK223.out) hb); have n4_ := kB HB hb; clear BK218; clear BK219; clear BK220; clear BK223; clear HB; have BK218 := n0_; have BK219 := n1_; have BK220 := n2_; have BK223 := n3_; have HB := n4_; clear n0_ n1_ n2_ n3_ n4_; (try clear hb); (try clear hb2); (try clear hk); (try clear hi); have hcz42_0 : w41.cell? ⟨gb220, 0, none⟩ = some (.int .i64 0) := kc BK220 0; have hcz42_1 : w41.cell? ⟨gb220, 1, none⟩ = some (.int .u64 0) := kc BK220 1; have hfz42_0 := blk_frozen BK220.out 0; have hfz42_1 := blk_frozen BK220.out 1))
 refine bodyPost_ret (results_ct rfl _ _ gb220 24 #[.int .i64 t227, .int .u64 t228] (0, 0) _ rfl (by (with_reducible repeat (first | refine zr ?_ _ | refine zw ?_ | refine za ?_ _)); refine blk_put (cs := #[.int .i64 t227, .int .u64 0]) ?_ 1 _ rfl; (with_reducible repeat (first | refine zr ?_ _ | refine zw ?_ | refine za ?_ _)); refine blk_put (cs := #[.int .i64 0, .int .u64 0]) ?_ 0 _ rfl; (with_reducible repeat (first | refine zr ?_ _ | refine zw ?_ | refine za ?_ _)); exact BK220.out) Try.underlying24 rfl (by kernel_rfl)) rfl ?_; exact ⟨by first | rfl | (simp [errW_none, errW_some] <;> rfl) | (simp [*, errW_none, errW_some] <;> rfl), ky HB⟩

/-! ### wide_Sub: function 31 -/
def wide_Sub.f (a0_0 : Int) (a0_1 : Int) (a1_0 : Int) (a1_1 : Int) : Option (Int × Int × Bool) := (wide_turn.f a1_0 a1_1).bind fun bt233 => ((wide_wrap.f a0_0 a0_1 bt233.1 bt233.2).bind fun bt235 => (if ((decide (a0_0 < 0)) == (decide (a1_0 < 0))) = true then ((wide_told.f bt235.1 bt235.2 true).bind fun bt238 => (some (bt238.1, bt238.2.1, bt238.2.2))) else ((wide_told.f bt235.1 bt235.2 ((decide (a0_0 < 0)) == (decide (bt235.1 < 0)))).bind fun bt241 => (some (bt241.1, bt241.2.1, bt241.2.2)))))
set_option maxHeartbeats 8000000 in
set_option maxRecDepth 100000 in
theorem wide_Sub.calls (a0_0 : Int) (a0_1 : Int) (a1_0 : Int) (a1_1 : Int) (r1 : Int) (r2 : Int) (r3 : Bool) (w : World) (h : wide_Sub.f a0_0 a0_1 a1_0 a1_1 = some (r1, r2, r3)) :
  Calls Try.prog 31 #[.agg #[.int .i64 a0_0, .int .u64 a0_1], .agg #[.int .i64 a1_0, .int .u64 a1_1]] w fun e w' => e = .returned (.tuple #[.agg #[.int .i64 r1, .int .u64 r2], .bool r3]) ∧ Below w.heap.size w w' := by
 have hu24 := Try.underlying24; have HB := Aside0.mk (Below.refl w.heap.size w); have H : ((wide_turn.f a1_0 a1_1).bind fun bt233 => ((wide_wrap.f a0_0 a0_1 bt233.1 bt233.2).bind fun bt235 => (if ((decide (a0_0 < 0)) == (decide (a1_0 < 0))) = true then ((wide_told.f bt235.1 bt235.2 true).bind fun bt238 => (some (bt238.1, bt238.2.1, bt238.2.2))) else ((wide_told.f bt235.1 bt235.2 ((decide (a0_0 < 0)) == (decide (bt235.1 < 0)))).bind fun bt241 => (some (bt241.1, bt241.2.1, bt241.2.2)))))) = some (r1, r2, r3) := h; clear h; replace H := Option.bind_eq_some_iff.mp H; obtain ⟨⟨t233, t234⟩, A30, H⟩ := H; (try dsimp only at H); have A3 := Aside0.mk A30; clear A30; replace H := Option.bind_eq_some_iff.mp H; obtain ⟨⟨t235, t236⟩, A40, H⟩ := H; (try dsimp only at H); have A4 := Aside0.mk A40; clear A40
 by_cases c5 : ((decide (a0_0 < 0)) == (decide (a1_0 < 0))) = true
 ·rw [if_pos c5] at H
  have c5b0 : ((decide (a0_0 < 0)) == (decide (a1_0 < 0))) = true := c5
  (try (have c5b1 : decide ((decide (a0_0 < 0)) = (decide (a1_0 < 0))) = true := by simpa using c5))
  (try (have c5b2 : ((decide (a0_0 < 0)) == (decide (a1_0 < 0))) = true := by simpa using c5))
  clear c5; replace H := Option.bind_eq_some_iff.mp H; obtain ⟨⟨t238, t239, t240⟩, A60, H⟩ := H; (try dsimp only at H); have A6 := Aside0.mk A60; clear A60
  simp only [Option.some.injEq, Prod.mk.injEq] at H
  obtain ⟨rfl, rfl, rfl⟩ := H
  go_enter Try.func31, Try.ntmps31
  try go_wp2_with (first | ((with_reducible refine gate_dst (N := 2) rfl ?_); refine box_event ?hg (N := 2) ?hd (cs := #[.int .i64 a0_0, .int .u64 a0_1]) (t := 24) ?hr ?_; (case hd => rfl); (case hg => rfl); (case hr => first | (go_simp; done) | (go_simp; rfl)); intro gb230 hg w7 hbox hb; have BK230 := Aside0.mk (hbox); have GW230 := kS HB hg; have GE230 := kS HB hg; replace HB := kB HB hb; clear hb hbox hg) | ((with_reducible refine gate_dst (N := 3) rfl ?_); refine box_event ?hg (N := 3) ?hd (cs := #[.int .i64 a1_0, .int .u64 a1_1]) (t := 24) ?hr ?_; (case hd => rfl); (case hg => rfl); (case hr => first | (go_simp; done) | (go_simp; rfl)); intro gb231 hg w8 hbox hb; have BK231 := Aside0.mk (hbox); have GW231 := kS HB hg; have GE231 := kS HB hg; have NB230_231 := kN BK230 hg; have NB231_230 := kM BK230 hg; replace BK230 := kb BK230 hb; replace HB := kB HB hb; clear hb hbox hg) | ((with_reducible refine gate_dst (N := 4) rfl ?_); refine box_event ?hg (N := 4) ?hd (cs := #[.int .i64 0, .int .u64 0]) (t := 24) ?hr ?_; (case hd => rfl); (case hg => rfl); (case hr => first | (go_simp; done) | (go_simp; rfl)); intro gb232 hg w9 hbox hb; have BK232 := Aside0.mk (hbox); have GW232 := kS HB hg; have GE232 := kS HB hg; have NB230_232 := kN BK230 hg; have NB232_230 := kM BK230 hg; have NB231_232 := kN BK231 hg; have NB232_231 := kM BK231 hg; replace BK230 := kb BK230 hb; replace BK231 := kb BK231 hb; replace HB := kB HB hb; clear hb hbox hg))
  replace BK230 := Aside0.mk (blk_drew BK230.out); replace BK231 := Aside0.mk (blk_drew BK231.out); replace BK232 := Aside0.mk (blk_drew BK232.out); replace HB := Aside0.mk (below_drew1 HB.out); refine start_ (n := 6) (S := fun w' => w'.cell? ⟨gb230, 0, none⟩ = some (.int .i64 a0_0) ∧ w'.cell? ⟨gb230, 1, none⟩ = some (.int .u64 a0_1) ∧ w'.cell? ⟨gb231, 0, none⟩ = some (.int .i64 a1_0) ∧ w'.cell? ⟨gb231, 1, none⟩ = some (.int .u64 a1_1)) (ds := []) #[O, O, O, O, O, O] (by kernel_rfl) rfl rfl ⟨kc BK230 0, kc BK230 1, kc BK231 0, kc BK231 1⟩ (fun hHeld => ?_)
  generalize w9.drew = w10 at BK230 BK231 BK232 HB hHeld ⊢
  refine take_ (i := 0) (N := some 7) (v := ?_) (a' := ?_) #[T, O, O, O, O, O] rfl rfl (by kernel_rfl) (fun _ _ _ h => h) (Or.inl ⟨by rfl, ?_⟩) hHeld ?_ ?_; rotate_left; focus (rintro w' ⟨s0, s1, s2, s3⟩; go_simp; with_reducible rfl)
  rotate_left; focus (simp only [Act.put, s1, s2, s3, i64_w, i32_w]; rfl)
  refine take_ (i := 1) (N := some 8) (v := ?_) (a' := ?_) #[T, T, O, O, O, O] rfl rfl (by kernel_rfl) (fun _ _ _ h => h) (Or.inl ⟨by rfl, ?_⟩) hHeld ?_ ?_; rotate_left; focus (rintro w' ⟨s0, s1, s2, s3⟩; go_simp; with_reducible rfl)
  rotate_left; focus (simp only [Act.put, s1, s2, s3, i64_w, i32_w]; rfl)
  refine join_ (σ := Nat) 1 #[T, T, T, T, T, O] (fun s_ => [(9, .agg #[.int .i64 t233, .int .u64 t234]), (10, .agg #[.int .i64 t235, .int .u64 t236]), (6, .pointer (some ⟨s_, 0, none⟩))]) (fun s_ w' => (w'.cell? ⟨gb230, 0, none⟩ = some (.int .i64 a0_0) ∧ w'.cell? ⟨gb230, 1, none⟩ = some (.int .u64 a0_1) ∧ w'.cell? ⟨gb231, 0, none⟩ = some (.int .i64 a1_0) ∧ w'.cell? ⟨gb231, 1, none⟩ = some (.int .u64 a1_1)) ∧ (w'.heap[gb230]? = some (.cells #[.int .i64 a0_0, .int .u64 a0_1] 24 (0, 0))) ∧ (w'.heap[gb231]? = some (.cells #[.int .i64 a1_0, .int .u64 a1_1] 24 (0, 0))) ∧ (w'.heap[gb232]? = some (.cells #[.int .i64 0, .int .u64 0] 24 (0, 0))) ∧ (w'.heap[s_]? = some (.cells #[.int .i64 0, .int .u64 0] 24 (0, 0))) ∧ (w.heap.size ≤ s_) ∧ (w.heap.size ≤ s_) ∧ (gb230 ≠ s_) ∧ (s_ ≠ gb230) ∧ (gb231 ≠ s_) ∧ (s_ ≠ gb231) ∧ (gb232 ≠ s_) ∧ (s_ ≠ gb232) ∧ (Below w.heap.size w w')) ?_ ?_; rotate_left
  ·intro hJ
   refine web_ #[T, T, T, T, T, O] [⟨2, 9, [], [], E0 [.agg #[.int .i64 t233, .int .u64 t234]]⟩, ⟨3, 10, [], [2], E0 [.agg #[.int .i64 t235, .int .u64 t236]]⟩, ⟨4, 6, [], [], EB 4 #[.int .i64 0, .int .u64 0] 24⟩] 1 (by kernel_rfl) rfl (fun _ t _ _ _ h => by cases t <;> exact h) hHeld (fun _ _ h hb => ⟨cB h.1 hb, cB h.2.1 hb, cB h.2.2.1 hb, cB h.2.2.2 hb⟩) (And.intro (oE0 _) (And.intro (oE0 _) (And.intro (oEB _ _) trivial))) (And.intro ?_ (And.intro ?_ (And.intro ?_ trivial))) ?_
   ·intro x wa lo hi a hb0 hS ha hd; clear hd
    simp only [stA, slots, Ev.sl, vca, vna, zc, zn, putAll, Act.put, s1, s2, s3] at ha; subst ha; refine ⟨_, rfl, fun K hK => ?_⟩
    refine gS Try.func65 #[.agg #[.int .i64 a1_0, .int .u64 a1_1]] ?_
    with_reducible refine (wide_turn.calls a1_0 a1_1 t233 t234 _ A3.out).mono ?_
    rintro e wb ⟨rfl, hb⟩; refine ⟨_, rfl, hK _ [] _ hb rfl trivial⟩
   ·rintro x wa lo hi a hb0 hS ha ⟨d2, -, -, _⟩
    have hv2 := d2 (.head _); have hv2 : x 2 = .agg #[.int .i64 t233, .int .u64 t234] := (List.cons.inj hv2).1; simp only [stA, slots, Ev.sl, vca, vna, zc, zn, putAll, Act.put, s1, s2, s3, hv2] at ha; subst ha; refine ⟨_, rfl, fun K hK => ?_⟩
    refine gS Try.func55 #[.agg #[.int .i64 a0_0, .int .u64 a0_1], .agg #[.int .i64 t233, .int .u64 t234]] ?_
    with_reducible refine (wide_wrap.calls a0_0 a0_1 t233 t234 t235 t236 _ A4.out).mono ?_
    rintro e wb ⟨rfl, hb⟩; refine ⟨_, rfl, hK _ [] _ hb rfl trivial⟩
   ·intro x wa lo hi a hb0 hS ha hd; refine ⟨_, rfl, fun K hK => ?_⟩; refine box_step ?hg (N := 6) ?hd (cs := #[.int .i64 0, .int .u64 0]) (t := 24) ?hr ?_; (case hd => rfl); (case hg => rfl); (case hr => first | (go_simp; done) | (go_simp; rfl)); intro g hg wb hbox hb; exact hK _ [] _ hb ⟨g, rfl, hbox, Nat.le_of_eq hg.symm, blk_lt hbox⟩ trivial
   ·rintro x wb lo hi hb0 hS ⟨⟨e2, r2⟩, ⟨e3, r3⟩, ⟨⟨gb4_, e4, K4, q4a, q4b⟩, r4⟩, _⟩ ⟨⟨p2_3, p2_4, _⟩, ⟨p3_4, _⟩, _⟩
    simp only [E0, Ev.ix, zc, zn, List.cons.injEq, and_true] at e2 e3 e4
    dsimp only at r2 r3 r4 p2_3 p2_4 p3_4
    have zb := below_size HB.out; have zBK230 := blk_lt BK230.out; have zBK231 := blk_lt BK231.out; have zBK232 := blk_lt BK232.out
    refine norm_ (by simp only [stA, slots, Ev.sl, vca, vna, zc, zn, putAll, Act.put, s1, s2, s3, e2, e3, e4]) (hJ gb4_ _ ?_); (try dsimp only); exact ⟨hS, (kb BK230 hb0).out, (kb BK231 hb0).out, (kb BK232 hb0).out, K4, by omega, by omega, by omega, by omega, by omega, by omega, by omega, by omega, (kB HB hb0).out⟩
  rintro gb237 w14 ⟨hS_, h0_, h1_, h2_, h3_, h4_, h5_, h6_, h7_, h8_, h9_, h10_, h11_, h12_⟩; clear BK230 BK231 BK232 HB; have BK230 := A0 h0_; have BK231 := A0 h1_; have BK232 := A0 h2_; have BK237 := A0 h3_; have GW237 := A0 h4_; have GE237 := A0 h5_; have NB230_237 := A0 h6_; have NB237_230 := A0 h7_; have NB231_237 := A0 h8_; have NB237_231 := A0 h9_; have NB232_237 := A0 h10_; have NB237_232 := A0 h11_; have HB := A0 h12_; clear h0_ h1_ h2_ h3_ h4_ h5_ h6_ h7_ h8_ h9_ h10_ h11_ h12_; have hHeld := hS_
  refine norm_ (a' := ?_) ?_ ?_; rotate_left; focus (simp only [putAll, Act.put, s1, s2, s3]; rfl)
  refine one_ (i := 5) (N := none) #[T, T, T, T, T, T] rfl rfl (by kernel_rfl) (by decide) (fun K hK => ?_); have hs15 : w14.cell? ⟨gb237, 0, none⟩ = some (.int .i64 0) := kc BK237 0; have hfs15 := blk_frozen BK237.out 0; have hns15_0 := NB230_237.out; have hns15_1 := NB231_237.out; have hns15_2 := NB232_237.out; have hms15_0 := NB237_230.out; have hms15_1 := NB237_231.out; have hms15_2 := NB237_232.out; have hs16 : w14.cell? ⟨gb237, 1, none⟩ = some (.int .u64 0) := kc BK237 1; have hfs16 := blk_frozen BK237.out 1; have hns16_0 := NB230_237.out; have hns16_1 := NB231_237.out; have hns16_2 := NB232_237.out; have hms16_0 := NB237_230.out; have hms16_1 := NB237_231.out; have hms16_2 := NB237_232.out; refine skip_ (w1 := ?_) (by rfl) rfl ?_ ?_; rotate_left
  ·go_simp
   rfl
  refine hK.out _ _ ⟨((cell_far (p := ⟨gb237, _, none⟩) NB230_237.out _).trans (((cell_far (p := ⟨gb237, _, none⟩) NB230_237.out _).trans (hHeld.1)))), ((cell_far (p := ⟨gb237, _, none⟩) NB230_237.out _).trans (((cell_far (p := ⟨gb237, _, none⟩) NB230_237.out _).trans (hHeld.2.1)))), ((cell_far (p := ⟨gb237, _, none⟩) NB231_237.out _).trans (((cell_far (p := ⟨gb237, _, none⟩) NB231_237.out _).trans (hHeld.2.2.1)))), ((cell_far (p := ⟨gb237, _, none⟩) NB231_237.out _).trans (((cell_far (p := ⟨gb237, _, none⟩) NB231_237.out _).trans (hHeld.2.2.2))))⟩ (fun hHeld => ?_); clear hK K; refine done_ (by kernel_rfl) ?_; have hnb17 := NB237_230.out; have hnc17 := NB230_237.out; have hnb18 := NB237_231.out; have hnc18 := NB231_237.out; have hnb19 := NB237_232.out; have hnc19 := NB232_237.out; obtain ⟨hcz20_0, hcz20_1⟩ := kc2 BK237; obtain ⟨hfz20_0, hfz20_1⟩ := kf2 BK237; have hnb21 := NB230_231.out; have hnc21 := NB231_230.out; have hnb22 := NB230_232.out; have hnc22 := NB232_230.out; obtain ⟨hcz23_0, hcz23_1⟩ := kc2 BK230; obtain ⟨hfz23_0, hfz23_1⟩ := kf2 BK230; have hnb24 := NB231_232.out; have hnc24 := NB232_231.out; obtain ⟨hcz25_0, hcz25_1⟩ := kc2 BK231; obtain ⟨hfz25_0, hfz25_1⟩ := kf2 BK231
  try go_wp2_with (first | ((with_reducible refine gate_callee (f := 56) rfl ?_); refine gL 28 Try.func56 #[.agg #[.int .i64 t235, .int .u64 t236], .bool true] ?_; (with_reducible refine (wide_told.calls t235 t236 true t238 t239 t240 _ A6.out).mono ?_); rintro e w26 ⟨rfl, hb⟩; refine ⟨_, rfl, ?_⟩; have n0_ := kb BK230 hb; have n1_ := kb BK231 hb; have n2_ := kb BK232 hb; have n3_ := Aside0.mk (blk_below (g := gb237) (o := .cells #[.int .i64 t235, .int .u64 t236] 24 (0, 0)) (by (with_reducible repeat (first | refine zr ?_ _ | refine zw ?_ | refine za ?_ _)); refine blk_put (cs := #[.int .i64 t235, .int .u64 0]) ?_ 1 _ rfl; (with_reducible repeat (first | refine zr ?_ _ | refine zw ?_ | refine za ?_ _)); refine blk_put (cs := #[.int .i64 0, .int .u64 0]) ?_ 0 _ rfl; (with_reducible repeat (first | refine zr ?_ _ | refine zw ?_ | refine za ?_ _)); exact BK237.out) hb); have n4_ := kB HB hb; clear BK230; clear BK231; clear BK232; clear BK237; clear HB; have BK230 := n0_; have BK231 := n1_; have BK232 := n2_; have BK237 := n3_; have HB := n4_; clear n0_ n1_ n2_ n3_ n4_; (try clear hb); (try clear hb2); (try clear hk); (try clear hi); have hcz27_0 : w26.cell? ⟨gb232, 0, none⟩ = some (.int .i64 0) := kc BK232 0; have hcz27_1 : w26.cell? ⟨gb232, 1, none⟩ = some (.int .u64 0) := kc BK232 1; have hfz27_0 := blk_frozen BK232.out 0; have hfz27_1 := blk_frozen BK232.out 1))
  refine bodyPost_ret (results_ct rfl _ _ gb232 24 #[.int .i64 t238, .int .u64 t239] (0, 0) _ rfl (by (with_reducible repeat (first | refine zr ?_ _ | refine zw ?_ | refine za ?_ _)); refine blk_put (cs := #[.int .i64 t238, .int .u64 0]) ?_ 1 _ rfl; (with_reducible repeat (first | refine zr ?_ _ | refine zw ?_ | refine za ?_ _)); refine blk_put (cs := #[.int .i64 0, .int .u64 0]) ?_ 0 _ rfl; (with_reducible repeat (first | refine zr ?_ _ | refine zw ?_ | refine za ?_ _)); exact BK232.out) Try.underlying24 rfl (by kernel_rfl)) rfl ?_; exact ⟨by first | rfl | (simp [errW_none, errW_some] <;> rfl) | (simp [*, errW_none, errW_some] <;> rfl), ky HB⟩
 rw [if_neg c5] at H
 have c5b0 : ((decide (a0_0 < 0)) == (decide (a1_0 < 0))) = false := by simpa using c5
 (try (have c5b1 : decide ((decide (a0_0 < 0)) = (decide (a1_0 < 0))) = false := by simpa using c5))
 (try (have c5b2 : ((decide (a0_0 < 0)) == (decide (a1_0 < 0))) = false := by simpa using c5))
 (try (have c5b3 : ¬ ((decide (a0_0 < 0)) = (decide (a1_0 < 0))) := by simpa using c5))
 clear c5; replace H := Option.bind_eq_some_iff.mp H; obtain ⟨⟨t241, t242, t243⟩, A280, H⟩ := H; (try dsimp only at H); have A28 := Aside0.mk A280; clear A280
 simp only [Option.some.injEq, Prod.mk.injEq] at H
 obtain ⟨rfl, rfl, rfl⟩ := H
 go_enter Try.func31, Try.ntmps31
 try go_wp2_with (first | ((with_reducible refine gate_dst (N := 2) rfl ?_); refine box_event ?hg (N := 2) ?hd (cs := #[.int .i64 a0_0, .int .u64 a0_1]) (t := 24) ?hr ?_; (case hd => rfl); (case hg => rfl); (case hr => first | (go_simp; done) | (go_simp; rfl)); intro gb230 hg w29 hbox hb; have BK230 := Aside0.mk (hbox); have GW230 := kS HB hg; have GE230 := kS HB hg; replace HB := kB HB hb; clear hb hbox hg) | ((with_reducible refine gate_dst (N := 3) rfl ?_); refine box_event ?hg (N := 3) ?hd (cs := #[.int .i64 a1_0, .int .u64 a1_1]) (t := 24) ?hr ?_; (case hd => rfl); (case hg => rfl); (case hr => first | (go_simp; done) | (go_simp; rfl)); intro gb231 hg w30 hbox hb; have BK231 := Aside0.mk (hbox); have GW231 := kS HB hg; have GE231 := kS HB hg; have NB230_231 := kN BK230 hg; have NB231_230 := kM BK230 hg; replace BK230 := kb BK230 hb; replace HB := kB HB hb; clear hb hbox hg) | ((with_reducible refine gate_dst (N := 4) rfl ?_); refine box_event ?hg (N := 4) ?hd (cs := #[.int .i64 0, .int .u64 0]) (t := 24) ?hr ?_; (case hd => rfl); (case hg => rfl); (case hr => first | (go_simp; done) | (go_simp; rfl)); intro gb232 hg w31 hbox hb; have BK232 := Aside0.mk (hbox); have GW232 := kS HB hg; have GE232 := kS HB hg; have NB230_232 := kN BK230 hg; have NB232_230 := kM BK230 hg; have NB231_232 := kN BK231 hg; have NB232_231 := kM BK231 hg; replace BK230 := kb BK230 hb; replace BK231 := kb BK231 hb; replace HB := kB HB hb; clear hb hbox hg))
 replace BK230 := Aside0.mk (blk_drew BK230.out); replace BK231 := Aside0.mk (blk_drew BK231.out); replace BK232 := Aside0.mk (blk_drew BK232.out); replace HB := Aside0.mk (below_drew1 HB.out); refine start_ (n := 6) (S := fun w' => w'.cell? ⟨gb230, 0, none⟩ = some (.int .i64 a0_0) ∧ w'.cell? ⟨gb230, 1, none⟩ = some (.int .u64 a0_1) ∧ w'.cell? ⟨gb231, 0, none⟩ = some (.int .i64 a1_0) ∧ w'.cell? ⟨gb231, 1, none⟩ = some (.int .u64 a1_1)) (ds := []) #[O, O, O, O, O, O] (by kernel_rfl) rfl rfl ⟨kc BK230 0, kc BK230 1, kc BK231 0, kc BK231 1⟩ (fun hHeld => ?_)
 generalize w31.drew = w32 at BK230 BK231 BK232 HB hHeld ⊢
 refine take_ (i := 0) (N := some 7) (v := ?_) (a' := ?_) #[T, O, O, O, O, O] rfl rfl (by kernel_rfl) (fun _ _ _ h => h) (Or.inl ⟨by rfl, ?_⟩) hHeld ?_ ?_; rotate_left; focus (rintro w' ⟨s0, s1, s2, s3⟩; go_simp; with_reducible rfl)
 rotate_left; focus (simp only [Act.put, s1, s2, s3, i64_w, i32_w]; rfl)
 refine take_ (i := 1) (N := some 8) (v := ?_) (a' := ?_) #[T, T, O, O, O, O] rfl rfl (by kernel_rfl) (fun _ _ _ h => h) (Or.inl ⟨by rfl, ?_⟩) hHeld ?_ ?_; rotate_left; focus (rintro w' ⟨s0, s1, s2, s3⟩; go_simp; with_reducible rfl)
 rotate_left; focus (simp only [Act.put, s1, s2, s3, i64_w, i32_w]; rfl)
 refine join_ (σ := Nat) 1 #[T, T, T, T, T, O] (fun s_ => [(9, .agg #[.int .i64 t233, .int .u64 t234]), (10, .agg #[.int .i64 t235, .int .u64 t236]), (6, .pointer (some ⟨s_, 0, none⟩))]) (fun s_ w' => (w'.cell? ⟨gb230, 0, none⟩ = some (.int .i64 a0_0) ∧ w'.cell? ⟨gb230, 1, none⟩ = some (.int .u64 a0_1) ∧ w'.cell? ⟨gb231, 0, none⟩ = some (.int .i64 a1_0) ∧ w'.cell? ⟨gb231, 1, none⟩ = some (.int .u64 a1_1)) ∧ (w'.heap[gb230]? = some (.cells #[.int .i64 a0_0, .int .u64 a0_1] 24 (0, 0))) ∧ (w'.heap[gb231]? = some (.cells #[.int .i64 a1_0, .int .u64 a1_1] 24 (0, 0))) ∧ (w'.heap[gb232]? = some (.cells #[.int .i64 0, .int .u64 0] 24 (0, 0))) ∧ (w'.heap[s_]? = some (.cells #[.int .i64 0, .int .u64 0] 24 (0, 0))) ∧ (w.heap.size ≤ s_) ∧ (w.heap.size ≤ s_) ∧ (gb230 ≠ s_) ∧ (s_ ≠ gb230) ∧ (gb231 ≠ s_) ∧ (s_ ≠ gb231) ∧ (gb232 ≠ s_) ∧ (s_ ≠ gb232) ∧ (Below w.heap.size w w')) ?_ ?_; rotate_left
 ·intro hJ
  refine web_ #[T, T, T, T, T, O] [⟨2, 9, [], [], E0 [.agg #[.int .i64 t233, .int .u64 t234]]⟩, ⟨3, 10, [], [2], E0 [.agg #[.int .i64 t235, .int .u64 t236]]⟩, ⟨4, 6, [], [], EB 4 #[.int .i64 0, .int .u64 0] 24⟩] 1 (by kernel_rfl) rfl (fun _ t _ _ _ h => by cases t <;> exact h) hHeld (fun _ _ h hb => ⟨cB h.1 hb, cB h.2.1 hb, cB h.2.2.1 hb, cB h.2.2.2 hb⟩) (And.intro (oE0 _) (And.intro (oE0 _) (And.intro (oEB _ _) trivial))) (And.intro ?_ (And.intro ?_ (And.intro ?_ trivial))) ?_
  ·intro x wa lo hi a hb0 hS ha hd; clear hd
   simp only [stA, slots, Ev.sl, vca, vna, zc, zn, putAll, Act.put, s1, s2, s3] at ha; subst ha; refine ⟨_, rfl, fun K hK => ?_⟩
   refine gS Try.func65 #[.agg #[.int .i64 a1_0, .int .u64 a1_1]] ?_
   with_reducible refine (wide_turn.calls a1_0 a1_1 t233 t234 _ A3.out).mono ?_
   rintro e wb ⟨rfl, hb⟩; refine ⟨_, rfl, hK _ [] _ hb rfl trivial⟩
  ·rintro x wa lo hi a hb0 hS ha ⟨d2, -, -, _⟩
   have hv2 := d2 (.head _); have hv2 : x 2 = .agg #[.int .i64 t233, .int .u64 t234] := (List.cons.inj hv2).1; simp only [stA, slots, Ev.sl, vca, vna, zc, zn, putAll, Act.put, s1, s2, s3, hv2] at ha; subst ha; refine ⟨_, rfl, fun K hK => ?_⟩
   refine gS Try.func55 #[.agg #[.int .i64 a0_0, .int .u64 a0_1], .agg #[.int .i64 t233, .int .u64 t234]] ?_
   with_reducible refine (wide_wrap.calls a0_0 a0_1 t233 t234 t235 t236 _ A4.out).mono ?_
   rintro e wb ⟨rfl, hb⟩; refine ⟨_, rfl, hK _ [] _ hb rfl trivial⟩
  ·intro x wa lo hi a hb0 hS ha hd; refine ⟨_, rfl, fun K hK => ?_⟩; refine box_step ?hg (N := 6) ?hd (cs := #[.int .i64 0, .int .u64 0]) (t := 24) ?hr ?_; (case hd => rfl); (case hg => rfl); (case hr => first | (go_simp; done) | (go_simp; rfl)); intro g hg wb hbox hb; exact hK _ [] _ hb ⟨g, rfl, hbox, Nat.le_of_eq hg.symm, blk_lt hbox⟩ trivial
  ·rintro x wb lo hi hb0 hS ⟨⟨e2, r2⟩, ⟨e3, r3⟩, ⟨⟨gb4_, e4, K4, q4a, q4b⟩, r4⟩, _⟩ ⟨⟨p2_3, p2_4, _⟩, ⟨p3_4, _⟩, _⟩
   simp only [E0, Ev.ix, zc, zn, List.cons.injEq, and_true] at e2 e3 e4
   dsimp only at r2 r3 r4 p2_3 p2_4 p3_4
   have zb := below_size HB.out; have zBK230 := blk_lt BK230.out; have zBK231 := blk_lt BK231.out; have zBK232 := blk_lt BK232.out
   refine norm_ (by simp only [stA, slots, Ev.sl, vca, vna, zc, zn, putAll, Act.put, s1, s2, s3, e2, e3, e4]) (hJ gb4_ _ ?_); (try dsimp only); exact ⟨hS, (kb BK230 hb0).out, (kb BK231 hb0).out, (kb BK232 hb0).out, K4, by omega, by omega, by omega, by omega, by omega, by omega, by omega, by omega, (kB HB hb0).out⟩
 rintro gb237 w36 ⟨hS_, h0_, h1_, h2_, h3_, h4_, h5_, h6_, h7_, h8_, h9_, h10_, h11_, h12_⟩; clear BK230 BK231 BK232 HB; have BK230 := A0 h0_; have BK231 := A0 h1_; have BK232 := A0 h2_; have BK237 := A0 h3_; have GW237 := A0 h4_; have GE237 := A0 h5_; have NB230_237 := A0 h6_; have NB237_230 := A0 h7_; have NB231_237 := A0 h8_; have NB237_231 := A0 h9_; have NB232_237 := A0 h10_; have NB237_232 := A0 h11_; have HB := A0 h12_; clear h0_ h1_ h2_ h3_ h4_ h5_ h6_ h7_ h8_ h9_ h10_ h11_ h12_; have hHeld := hS_
 refine norm_ (a' := ?_) ?_ ?_; rotate_left; focus (simp only [putAll, Act.put, s1, s2, s3]; rfl)
 refine one_ (i := 5) (N := none) #[T, T, T, T, T, T] rfl rfl (by kernel_rfl) (by decide) (fun K hK => ?_); have hs37 : w36.cell? ⟨gb237, 0, none⟩ = some (.int .i64 0) := kc BK237 0; have hfs37 := blk_frozen BK237.out 0; have hns37_0 := NB230_237.out; have hns37_1 := NB231_237.out; have hns37_2 := NB232_237.out; have hms37_0 := NB237_230.out; have hms37_1 := NB237_231.out; have hms37_2 := NB237_232.out; have hs38 : w36.cell? ⟨gb237, 1, none⟩ = some (.int .u64 0) := kc BK237 1; have hfs38 := blk_frozen BK237.out 1; have hns38_0 := NB230_237.out; have hns38_1 := NB231_237.out; have hns38_2 := NB232_237.out; have hms38_0 := NB237_230.out; have hms38_1 := NB237_231.out; have hms38_2 := NB237_232.out; refine skip_ (w1 := ?_) (by rfl) rfl ?_ ?_; rotate_left
 ·go_simp
  rfl
 refine hK.out _ _ ⟨((cell_far (p := ⟨gb237, _, none⟩) NB230_237.out _).trans (((cell_far (p := ⟨gb237, _, none⟩) NB230_237.out _).trans (hHeld.1)))), ((cell_far (p := ⟨gb237, _, none⟩) NB230_237.out _).trans (((cell_far (p := ⟨gb237, _, none⟩) NB230_237.out _).trans (hHeld.2.1)))), ((cell_far (p := ⟨gb237, _, none⟩) NB231_237.out _).trans (((cell_far (p := ⟨gb237, _, none⟩) NB231_237.out _).trans (hHeld.2.2.1)))), ((cell_far (p := ⟨gb237, _, none⟩) NB231_237.out _).trans (((cell_far (p := ⟨gb237, _, none⟩) NB231_237.out _).trans (hHeld.2.2.2))))⟩ (fun hHeld => ?_); clear hK K; refine done_ (by kernel_rfl) ?_; have hnb39 := NB237_230.out; have hnc39 := NB230_237.out; have hnb40 := NB237_231.out; have hnc40 := NB231_237.out; have hnb41 := NB237_232.out; have hnc41 := NB232_237.out; obtain ⟨hcz42_0, hcz42_1⟩ := kc2 BK237; obtain ⟨hfz42_0, hfz42_1⟩ := kf2 BK237; have hnb43 := NB230_231.out; have hnc43 := NB231_230.out; have hnb44 := NB230_232.out; have hnc44 := NB232_230.out; obtain ⟨hcz45_0, hcz45_1⟩ := kc2 BK230; obtain ⟨hfz45_0, hfz45_1⟩ := kf2 BK230; have hnb46 := NB231_232.out; have hnc46 := NB232_231.out; obtain ⟨hcz47_0, hcz47_1⟩ := kc2 BK231; obtain ⟨hfz47_0, hfz47_1⟩ := kf2 BK231
 try go_wp2_with (first | ((with_reducible refine gate_callee (f := 56) rfl ?_); refine gL 28 Try.func56 #[.agg #[.int .i64 t235, .int .u64 t236], .bool ((decide (a0_0 < 0)) == (decide (t235 < 0)))] ?_; (with_reducible refine (wide_told.calls t235 t236 ((decide (a0_0 < 0)) == (decide (t235 < 0))) t241 t242 t243 _ A28.out).mono ?_); rintro e w48 ⟨rfl, hb⟩; refine ⟨_, rfl, ?_⟩; have n0_ := kb BK230 hb; have n1_ := kb BK231 hb; have n2_ := kb BK232 hb; have n3_ := Aside0.mk (blk_below (g := gb237) (o := .cells #[.int .i64 t235, .int .u64 t236] 24 (0, 0)) (by (with_reducible repeat (first | refine zr ?_ _ | refine zw ?_ | refine za ?_ _)); refine blk_put (cs := #[.int .i64 t235, .int .u64 0]) ?_ 1 _ rfl; (with_reducible repeat (first | refine zr ?_ _ | refine zw ?_ | refine za ?_ _)); refine blk_put (cs := #[.int .i64 0, .int .u64 0]) ?_ 0 _ rfl; (with_reducible repeat (first | refine zr ?_ _ | refine zw ?_ | refine za ?_ _)); exact BK237.out) hb); have n4_ := kB HB hb; clear BK230; clear BK231; clear BK232; clear BK237; clear HB; have BK230 := n0_; have BK231 := n1_; have BK232 := n2_; have BK237 := n3_; have HB := n4_; clear n0_ n1_ n2_ n3_ n4_; (try clear hb); (try clear hb2); (try clear hk); (try clear hi); have hcz49_0 : w48.cell? ⟨gb232, 0, none⟩ = some (.int .i64 0) := kc BK232 0; have hcz49_1 : w48.cell? ⟨gb232, 1, none⟩ = some (.int .u64 0) := kc BK232 1; have hfz49_0 := blk_frozen BK232.out 0; have hfz49_1 := blk_frozen BK232.out 1))
 refine bodyPost_ret (results_ct rfl _ _ gb232 24 #[.int .i64 t241, .int .u64 t242] (0, 0) _ rfl (by (with_reducible repeat (first | refine zr ?_ _ | refine zw ?_ | refine za ?_ _)); refine blk_put (cs := #[.int .i64 t241, .int .u64 0]) ?_ 1 _ rfl; (with_reducible repeat (first | refine zr ?_ _ | refine zw ?_ | refine za ?_ _)); refine blk_put (cs := #[.int .i64 0, .int .u64 0]) ?_ 0 _ rfl; (with_reducible repeat (first | refine zr ?_ _ | refine zw ?_ | refine za ?_ _)); exact BK232.out) Try.underlying24 rfl (by kernel_rfl)) rfl ?_; exact ⟨by first | rfl | (simp [errW_none, errW_some] <;> rfl) | (simp [*, errW_none, errW_some] <;> rfl), ky HB⟩

end Go.Proofs.Ytpjbniihdndlmab.Q
