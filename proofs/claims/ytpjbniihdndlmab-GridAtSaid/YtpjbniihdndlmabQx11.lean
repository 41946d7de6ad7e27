-- Printed by wip/pp.sh (a session's own turning of the kit's print) for this seat.
import Derived.Test.YtpjbniihdndlmabQx0
namespace Go.Proofs.Ytpjbniihdndlmab.Q
open Go.RowKit Go.Proofs.YtpjbniihdndlmabW.PrintWords Go.Proofs.YtpjbniihdndlmabW.PrintLast Go.Proofs.YtpjbniihdndlmabW.PrintMore
open Go.Proofs.Ytpjbniihdndlmab.H
attribute [local go_sem] hq_add64 hq_sub64 hq_not64 add64c_nn sub64c_nn sub64c_le
attribute [local go_sem] max2_int min2_int max_two min_two max_three min_three max_four min_four   -- for this text's walks alone
set_option linter.unusedVariables false
set_option linter.unusedSimpArgs false

/-! ### cobwebref01_digit: function 73 -/
def cobwebref01_digit.f (l0 : List Int) (a1 : Int) : Option (Int) := if a1 < (l0.length : Int) then (if 0 ≤ a1 then (some (rd l0 a1)) else (none)) else (some 0)
set_option maxHeartbeats 8000000 in
set_option maxRecDepth 100000 in
theorem cobwebref01_digit.calls (A0 : Option Addr) (c0 : Nat) (l0 : List Int) (a1 : Int) (r : Int) (w : World) (hr0 : Kd.C (Kd.int .i64) w A0 l0.length l0) (hc0 : l0.length ≤ c0) (h : cobwebref01_digit.f l0 a1 = some r) :
  Calls Try.prog 73 #[.slice A0 l0.length c0, .int .i64 a1] w fun e w' => e = .returned (.int .i64 r) ∧ Drawn0 w w' := by
 have HR0 := Aside0.mk hr0; have HC0 := Aside0.mk hc0; clear hr0 hc0; have H : (if a1 < (l0.length : Int) then (if 0 ≤ a1 then (some (rd l0 a1)) else (none)) else (some 0)) = some r := h; clear h
 by_cases c3 : a1 < (l0.length : Int)
 rotate_left
 ·rw [if_neg c3] at H
  have c3b0 : decide (a1 < (l0.length : Int)) = false := decide_eq_false c3; clear c3; obtain rfl := Option.some.inj H
  go_enter Try.func73, Try.ntmps73
  go_wp2
  go_ret
  exact ⟨by first | rfl | (simp; done) | (simp [*]; done), by repeat (first | exact Drawn0.refl _ | apply Drawn0.step)⟩

 rw [if_pos c3] at H
 have c3b0 : decide (a1 < (l0.length : Int)) = true := decide_eq_true c3; clear c3
 by_cases c4 : 0 ≤ a1
 rotate_left
 ·rw [if_neg c4] at H
  exact absurd H (by simp)
 rw [if_pos c4] at H
 have c4b0 : decide (0 ≤ a1) = true := decide_eq_true c4; clear c4; obtain rfl := Option.some.inj H; have p355 : 0 ≤ (a1 : Int) := of_decide_eq_true (by first | (with_reducible assumption) | assumption); have q355 : a1 < (l0.length : Int) := of_decide_eq_true (by first | (with_reducible assumption) | assumption); obtain ⟨ad355, e355, hx355_0⟩ := Kd.at_int HR0.out a1 p355 q355
 cases e355
 replace p355 := eq_true p355; replace q355 := eq_true q355
 go_enter Try.func73, Try.ntmps73
 go_wp2
 go_ret
 exact ⟨by first | rfl | (simp; done) | (simp [*]; done), by repeat (first | exact Drawn0.refl _ | apply Drawn0.step)⟩
/-! ### cobwebref01_size: function 52 -/
def cobwebref01_size.l0 : Nat → List Int → List Int → Int → Option (Int)
 | 0, _, _, _ => none
 | k + 1, x0, x1, x5 => if x5 ≥ 0 then ((cobwebref01_digit.f x0 x5).bind fun t356 => ((cobwebref01_digit.f x1 x5).bind fun t357 => (if t356 < t357 then (some (-1)) else ((cobwebref01_digit.f x0 x5).bind fun t358 => ((cobwebref01_digit.f x1 x5).bind fun t359 => (if t358 > t359 then (some 1) else (cobwebref01_size.l0 k x0 x1 (wrap64 (x5 - 1))))))))) else (some 0)
def cobwebref01_size.f (k : Nat) (l0 : List Int) (l1 : List Int) : Option (Int) := cobwebref01_size.l0 k l0 l1 (wrap64 ((mx (l0.length : Int) (l1.length : Int)) - 1))
theorem cobwebref01_size.mono_l : ∀ k, (∀ y0 y1 y2, LeO (cobwebref01_size.l0 k y0 y1 y2) (cobwebref01_size.l0 (k + 1) y0 y1 y2))
 | 0 => fun _ _ _ r h => by simp [cobwebref01_size.l0] at h
 | k + 1 => by
  have ih0 := cobwebref01_size.mono_l k
  ·intro y0 y1 y2
   unfold cobwebref01_size.l0
   repeat' first
   | (with_reducible exact ih0 _ _ _)
   | (with_reducible exact LeO.refl _)
   | (with_reducible exact LeO.none _)
   | (with_reducible refine LeO.ite ?_ ?_)
   | (with_reducible refine LeO.bind ?_ (fun _ => ?_))
   | exact ih0 _ _ _
   | exact LeO.none _
   | refine LeO.ite ?_ ?_
   | refine LeO.bind ?_ (fun _ => ?_)
theorem cobwebref01_size.mono : ∀ a0 a1 k, LeO (cobwebref01_size.f k a0 a1) (cobwebref01_size.f (k + 1) a0 a1) := by
 intro a0 a1 k; have ih0 := cobwebref01_size.mono_l k
 unfold cobwebref01_size.f
 repeat' first
   | (with_reducible exact ih0 _ _ _)
   | (with_reducible exact LeO.refl _)
   | (with_reducible exact LeO.none _)
   | (with_reducible refine LeO.ite ?_ ?_)
   | (with_reducible refine LeO.bind ?_ (fun _ => ?_))
   | exact ih0 _ _ _
   | exact LeO.none _
   | refine LeO.ite ?_ ?_
   | refine LeO.bind ?_ (fun _ => ?_)
set_option maxHeartbeats 8000000 in
set_option maxRecDepth 100000 in
theorem cobwebref01_size.calls (k : Nat) (A0 : Option Addr) (c0 : Nat) (l0 : List Int) (A1 : Option Addr) (c1 : Nat) (l1 : List Int) (r : Int) (w : World) (hr0 : Kd.C (Kd.int .i64) w A0 l0.length l0) (hc0 : l0.length ≤ c0) (hr1 : Kd.C (Kd.int .i64) w A1 l1.length l1) (hc1 : l1.length ≤ c1) (h : cobwebref01_size.f k l0 l1 = some r) :
  Calls Try.prog 52 #[.slice A0 l0.length c0, .slice A1 l1.length c1] w fun e w' => e = .returned (.int .i64 r) ∧ Below w.heap.size w w' := by
 have HR0 := Aside0.mk hr0; have HC0 := Aside0.mk hc0; clear hr0 hc0; have HR1 := Aside0.mk hr1; have HC1 := Aside0.mk hc1; clear hr1 hc1; have HB := Aside0.mk (Below.refl w.heap.size w); have H : (cobwebref01_size.l0 k l0 l1 (wrap64 ((mx (l0.length : Int) (l1.length : Int)) - 1))) = some r := h; clear h; obtain ⟨ji3, hji3⟩ : ∃ j_ : Int, (mx (l0.length : Int) (l1.length : Int)) = j_ := ⟨_, rfl⟩
 replace H : (cobwebref01_size.l0 k l0 l1 (wrap64 ((ji3) - 1))) = some r := by first | (rw [hji3] at H; exact H) | (simp only [hji3] at H ⊢; exact H)
 (try (have hji3l : 0 ≤ ji3 := by (rw [← hji3]; unfold mx; (repeat' split) <;> omega)))
 (try (have hji3m : 0 ≤ ji3 := by omega))
 have hji3n_ : (if l0.length < l1.length then (l1.length : Int) else (l0.length : Int)) = ji3 := by (simp only [← Int.ofNat_lt]; exact hji3)
 have hji3_ : (if (l0.length : Int) < (l1.length : Int) then (l1.length : Int) else (l0.length : Int)) = ji3 := hji3; have H' := Aside0.mk H; clear H
 go_enter Try.func52, Try.ntmps52
 go_wp2
 go_loopg [5] k (fun kq v5 w' => ∃ (x5_1 : Int), v5 = .int .i64 x5_1 ∧ Aside0 (cobwebref01_size.l0 kq l0 l1 x5_1 = some r) ∧ Aside0 (kq ≤ k) ∧ Aside0 (Below w.heap.size w w'))
 case atStart => exact ⟨(wrap64 ((ji3) - 1)), (by first | rfl | (simp; done) | (simp only [← hji3] <;> (first | rfl | simp)) | (simp [*]; done)), H', ⟨Nat.le_refl _⟩, ⟨ky HB⟩⟩
 case round =>
  clear H'
  try clear c1; try clear p2
  obtain ⟨x5_1, rfl, HA, HK1, HB⟩ := hrel
  cases gk with
  | zero => exact absurd HA.out (by simp [cobwebref01_size.l0])
  | succ k1 =>
   have H := HA.out; clear HA
   simp only [cobwebref01_size.l0] at H
   by_cases c4 : x5_1 ≥ 0
   rotate_left
   ·rw [if_neg c4] at H
    have c4b0 : decide (0 ≤ x5_1) = false := decide_eq_false c4; clear c4; obtain rfl := Option.some.inj H
    go_wp2
    go_ret
    exact ⟨by first | rfl | (simp [errW_none, errW_some] <;> rfl) | (simp only [← hji3]; first | rfl | (simp [errW_none, errW_some] <;> rfl)) | (simp [*, errW_none, errW_some] <;> rfl), ky HB⟩

   rw [if_pos c4] at H
   have c4b0 : decide (0 ≤ x5_1) = true := decide_eq_true c4; clear c4; replace H := Option.bind_eq_some_iff.mp H; obtain ⟨t356, A50, H⟩ := H; (try dsimp only at H); have A5 := Aside0.mk A50; clear A50; replace H := Option.bind_eq_some_iff.mp H; obtain ⟨t357, A60, H⟩ := H; (try dsimp only at H); have A6 := Aside0.mk A60; clear A60
   by_cases c7 : t356 < t357
   ·rw [if_pos c7] at H
    have c7b0 : decide (t356 < t357) = true := decide_eq_true c7; clear c7; obtain rfl := Option.some.inj H
    go_wp2_with (first | ((with_reducible refine gate_callee (f := 73) rfl ?_); refine gL 18 Try.func73 #[.slice A0 l0.length c0, .int .i64 x5_1] ?_; (with_reducible refine (cobwebref01_digit.calls _ _ l0 x5_1 t356 _ ?side1 ?side2 A5.out).mono ?_); (case side1 => exact kQ (Kd.C_below HR0.out HB.out)); (case side2 => exact HC0.out); rintro e w' ⟨rfl, ⟨nd, rfl⟩⟩; refine ⟨_, rfl, ?_⟩) | ((with_reducible refine gate_callee (f := 73) rfl ?_); refine gL 21 Try.func73 #[.slice A1 l1.length c1, .int .i64 x5_1] ?_; (with_reducible refine (cobwebref01_digit.calls _ _ l1 x5_1 t357 _ ?side1 ?side2 A6.out).mono ?_); (case side1 => exact (Kd.C_below HR1.out (ky HB))); (case side2 => exact HC1.out); rintro e w' ⟨rfl, ⟨nd, rfl⟩⟩; refine ⟨_, rfl, ?_⟩))
    go_ret
    exact ⟨by first | rfl | (simp [errW_none, errW_some] <;> rfl) | (simp only [← hji3]; first | rfl | (simp [errW_none, errW_some] <;> rfl)) | (simp [*, errW_none, errW_some] <;> rfl), ky HB⟩
   rw [if_neg c7] at H
   have c7b0 : decide (t356 < t357) = false := decide_eq_false c7; clear c7; replace H := Option.bind_eq_some_iff.mp H; obtain ⟨t358, A80, H⟩ := H; (try dsimp only at H); have A8 := Aside0.mk A80; clear A80; replace H := Option.bind_eq_some_iff.mp H; obtain ⟨t359, A90, H⟩ := H; (try dsimp only at H); have A9 := Aside0.mk A90; clear A90
   by_cases c10 : t358 > t359
   ·rw [if_pos c10] at H
    have c10b0 : decide (t359 < t358) = true := decide_eq_true c10; clear c10; obtain rfl := Option.some.inj H
    go_wp2_with (first | ((with_reducible refine gate_callee (f := 73) rfl ?_); refine gL 18 Try.func73 #[.slice A0 l0.length c0, .int .i64 x5_1] ?_; (with_reducible refine (cobwebref01_digit.calls _ _ l0 x5_1 t356 _ ?side1 ?side2 A5.out).mono ?_); (case side1 => exact kQ (Kd.C_below HR0.out HB.out)); (case side2 => exact HC0.out); rintro e w' ⟨rfl, ⟨nd, rfl⟩⟩; refine ⟨_, rfl, ?_⟩) | ((with_reducible refine gate_callee (f := 73) rfl ?_); refine gL 21 Try.func73 #[.slice A1 l1.length c1, .int .i64 x5_1] ?_; (with_reducible refine (cobwebref01_digit.calls _ _ l1 x5_1 t357 _ ?side1 ?side2 A6.out).mono ?_); (case side1 => exact (Kd.C_below HR1.out (ky HB))); (case side2 => exact HC1.out); rintro e w' ⟨rfl, ⟨nd, rfl⟩⟩; refine ⟨_, rfl, ?_⟩) | ((with_reducible refine gate_callee (f := 73) rfl ?_); refine gL 25 Try.func73 #[.slice A0 l0.length c0, .int .i64 x5_1] ?_; (with_reducible refine (cobwebref01_digit.calls _ _ l0 x5_1 t358 _ ?side1 ?side2 A8.out).mono ?_); (case side1 => exact (Kd.C_below HR0.out (ky HB))); (case side2 => exact HC0.out); rintro e w' ⟨rfl, ⟨nd, rfl⟩⟩; refine ⟨_, rfl, ?_⟩) | ((with_reducible refine gate_callee (f := 73) rfl ?_); refine gL 28 Try.func73 #[.slice A1 l1.length c1, .int .i64 x5_1] ?_; (with_reducible refine (cobwebref01_digit.calls _ _ l1 x5_1 t359 _ ?side1 ?side2 A9.out).mono ?_); (case side1 => exact (Kd.C_below HR1.out (ky HB))); (case side2 => exact HC1.out); rintro e w' ⟨rfl, ⟨nd, rfl⟩⟩; refine ⟨_, rfl, ?_⟩))
    go_ret
    exact ⟨by first | rfl | (simp [errW_none, errW_some] <;> rfl) | (simp only [← hji3]; first | rfl | (simp [errW_none, errW_some] <;> rfl)) | (simp [*, errW_none, errW_some] <;> rfl), ky HB⟩
   rw [if_neg c10] at H
   have c10b0 : decide (t359 < t358) = false := decide_eq_false c10; clear c10; have H' := Aside0.mk H; clear H
   go_wp2_with (first | ((with_reducible refine gate_callee (f := 73) rfl ?_); refine gL 18 Try.func73 #[.slice A0 l0.length c0, .int .i64 x5_1] ?_; (with_reducible refine (cobwebref01_digit.calls _ _ l0 x5_1 t356 _ ?side1 ?side2 A5.out).mono ?_); (case side1 => exact kQ (Kd.C_below HR0.out HB.out)); (case side2 => exact HC0.out); rintro e w' ⟨rfl, ⟨nd, rfl⟩⟩; refine ⟨_, rfl, ?_⟩) | ((with_reducible refine gate_callee (f := 73) rfl ?_); refine gL 21 Try.func73 #[.slice A1 l1.length c1, .int .i64 x5_1] ?_; (with_reducible refine (cobwebref01_digit.calls _ _ l1 x5_1 t357 _ ?side1 ?side2 A6.out).mono ?_); (case side1 => exact (Kd.C_below HR1.out (ky HB))); (case side2 => exact HC1.out); rintro e w' ⟨rfl, ⟨nd, rfl⟩⟩; refine ⟨_, rfl, ?_⟩) | ((with_reducible refine gate_callee (f := 73) rfl ?_); refine gL 25 Try.func73 #[.slice A0 l0.length c0, .int .i64 x5_1] ?_; (with_reducible refine (cobwebref01_digit.calls _ _ l0 x5_1 t358 _ ?side1 ?side2 A8.out).mono ?_); (case side1 => exact (Kd.C_below HR0.out (ky HB))); (case side2 => exact HC0.out); rintro e w' ⟨rfl, ⟨nd, rfl⟩⟩; refine ⟨_, rfl, ?_⟩) | ((with_reducible refine gate_callee (f := 73) rfl ?_); refine gL 28 Try.func73 #[.slice A1 l1.length c1, .int .i64 x5_1] ?_; (with_reducible refine (cobwebref01_digit.calls _ _ l1 x5_1 t359 _ ?side1 ?side2 A9.out).mono ?_); (case side1 => exact (Kd.C_below HR1.out (ky HB))); (case side2 => exact HC1.out); rintro e w' ⟨rfl, ⟨nd, rfl⟩⟩; refine ⟨_, rfl, ?_⟩))
   go_roundg k1
   case measure => have := HK1.out; omega
   case rel => exact ⟨(wrap64 (x5_1 - 1)), (by first | rfl | (simp; done) | (simp [*]; done)), H', ⟨by have := HK1.out; omega⟩, ⟨ky HB⟩⟩
/-! ### cobwebref01_Cmp: function 21 -/
def cobwebref01_Cmp.f (k : Nat) (a0_0 : Bool) (l0_1 : List Int) (a1_0 : Bool) (l1_1 : List Int) : Option (Int) := if (a0_0 != a1_0) = true then (if a0_0 = true then (some (-1)) else (some 1)) else (if a0_0 = true then ((cobwebref01_size.f k l1_1 l0_1).bind fun t362 => (some t362)) else ((cobwebref01_size.f k l0_1 l1_1).bind fun t363 => (some t363)))
theorem cobwebref01_Cmp.mono : ∀ a0 a1 a2 a3 k, LeO (cobwebref01_Cmp.f k a0 a1 a2 a3) (cobwebref01_Cmp.f (k + 1) a0 a1 a2 a3) := by
 intro a0 a1 a2 a3 k
 unfold cobwebref01_Cmp.f
 repeat' first
   | (with_reducible exact cobwebref01_size.mono _ _ _)
   | (with_reducible exact LeO.refl _)
   | (with_reducible exact LeO.none _)
   | (with_reducible refine LeO.ite ?_ ?_)
   | (with_reducible refine LeO.bind ?_ (fun _ => ?_))
   | exact cobwebref01_size.mono _ _ _
   | exact LeO.none _
   | refine LeO.ite ?_ ?_
   | refine LeO.bind ?_ (fun _ => ?_)
set_option maxHeartbeats 8000000 in
set_option maxRecDepth 100000 in
theorem cobwebref01_Cmp.calls (k : Nat) (a0_0 : Bool) (A0_1 : Option Addr) (c0_1 : Nat) (l0_1 : List Int) (a1_0 : Bool) (A1_1 : Option Addr) (c1_1 : Nat) (l1_1 : List Int) (r : Int) (w : World) (hr0_1 : Kd.C (Kd.int .i64) w A0_1 l0_1.length l0_1) (hc0_1 : l0_1.length ≤ c0_1) (hr1_1 : Kd.C (Kd.int .i64) w A1_1 l1_1.length l1_1) (hc1_1 : l1_1.length ≤ c1_1) (h : cobwebref01_Cmp.f k a0_0 l0_1 a1_0 l1_1 = some r) :
  Calls Try.prog 21 #[.agg #[.bool a0_0, .slice A0_1 l0_1.length c0_1], .agg #[.bool a1_0, .slice A1_1 l1_1.length c1_1]] w fun e w' => e = .returned (.int .i64 r) ∧ Below w.heap.size w w' := by
 have hu33 := Try.underlying33; have HR0_1 := Aside0.mk hr0_1; have HC0_1 := Aside0.mk hc0_1; clear hr0_1 hc0_1; have HR1_1 := Aside0.mk hr1_1; have HC1_1 := Aside0.mk hc1_1; clear hr1_1 hc1_1; have HB := Aside0.mk (Below.refl w.heap.size w); have H : (if (a0_0 != a1_0) = true then (if a0_0 = true then (some (-1)) else (some 1)) else (if a0_0 = true then ((cobwebref01_size.f k l1_1 l0_1).bind fun t362 => (some t362)) else ((cobwebref01_size.f k l0_1 l1_1).bind fun t363 => (some t363)))) = some r := h; clear h
 by_cases c3 : (a0_0 != a1_0) = true
 ·rw [if_pos c3] at H
  have c3b0 : (a0_0 != a1_0) = true := c3
  (try (have c3b1 : decide (a0_0 = a1_0) = false := by simpa using c3))
  (try (have c3b2 : (a0_0 == a1_0) = false := by simpa using c3))
  (try (have c3b3 : ¬ (a0_0 = a1_0) := by simpa using c3))
  clear c3
  by_cases c4 : a0_0 = true
  ·subst c4
   rw [if_pos rfl] at H; obtain rfl := Option.some.inj H
   go_enter Try.func21, Try.ntmps21
   go_wp2_with (first | ((with_reducible refine gate_dst (N := 2) rfl ?_); refine box_event ?hg (N := 2) ?hd (cs := #[.bool true, .slice A0_1 l0_1.length c0_1]) (t := 33) ?hr ?_; (case hd => rfl); (case hg => rfl); (case hr => first | (go_simp; done) | (go_simp; rfl)); intro gb360 hg w5 hbox hb; have BK360 := Aside0.mk (hbox); have GW360 := kS HB hg; have GE360 := kS HB hg; replace HB := kB HB hb; clear hb hbox hg) | ((with_reducible refine gate_dst (N := 3) rfl ?_); refine box_event ?hg (N := 3) ?hd (cs := #[.bool a1_0, .slice A1_1 l1_1.length c1_1]) (t := 33) ?hr ?_; (case hd => rfl); (case hg => rfl); (case hr => first | (go_simp; done) | (go_simp; rfl)); intro gb361 hg w6 hbox hb; have BK361 := Aside0.mk (hbox); have GW361 := kS HB hg; have GE361 := kS HB hg; have NB360_361 := kN BK360 hg; have NB361_360 := kM BK360 hg; replace BK360 := kb BK360 hb; replace HB := kB HB hb; clear hb hbox hg; have hnb7 := NB360_361.out; have hnc7 := NB361_360.out; have hcz8_0 : w6.cell? ⟨gb360, 0, none⟩ = some (.bool true) := kc BK360 0; have hcz8_1 : w6.cell? ⟨gb360, 1, none⟩ = some (.slice A0_1 l0_1.length c0_1) := kc BK360 1; have hfz8_0 := blk_frozen BK360.out 0; have hfz8_1 := blk_frozen BK360.out 1; have hcz9_0 : w6.cell? ⟨gb361, 0, none⟩ = some (.bool a1_0) := kc BK361 0; have hcz9_1 : w6.cell? ⟨gb361, 1, none⟩ = some (.slice A1_1 l1_1.length c1_1) := kc BK361 1; have hfz9_0 := blk_frozen BK361.out 0; have hfz9_1 := blk_frozen BK361.out 1))
   go_ret
   exact ⟨by first | rfl | (simp [errW_none, errW_some] <;> rfl) | (simp [*, errW_none, errW_some] <;> rfl), ky HB⟩
  replace c4 := Bool.eq_false_iff.mpr c4; subst c4
  rw [if_neg (show ¬ (false = true) by decide)] at H; obtain rfl := Option.some.inj H
  go_enter Try.func21, Try.ntmps21
  go_wp2_with (first | ((with_reducible refine gate_dst (N := 2) rfl ?_); refine box_event ?hg (N := 2) ?hd (cs := #[.bool false, .slice A0_1 l0_1.length c0_1]) (t := 33) ?hr ?_; (case hd => rfl); (case hg => rfl); (case hr => first | (go_simp; done) | (go_simp; rfl)); intro gb360 hg w10 hbox hb; have BK360 := Aside0.mk (hbox); have GW360 := kS HB hg; have GE360 := kS HB hg; replace HB := kB HB hb; clear hb hbox hg) | ((with_reducible refine gate_dst (N := 3) rfl ?_); refine box_event ?hg (N := 3) ?hd (cs := #[.bool a1_0, .slice A1_1 l1_1.length c1_1]) (t := 33) ?hr ?_; (case hd => rfl); (case hg => rfl); (case hr => first | (go_simp; done) | (go_simp; rfl)); intro gb361 hg w11 hbox hb; have BK361 := Aside0.mk (hbox); have GW361 := kS HB hg; have GE361 := kS HB hg; have NB360_361 := kN BK360 hg; have NB361_360 := kM BK360 hg; replace BK360 := kb BK360 hb; replace HB := kB HB hb; clear hb hbox hg; have hnb12 := NB360_361.out; have hnc12 := NB361_360.out; have hcz13_0 : w11.cell? ⟨gb360, 0, none⟩ = some (.bool false) := kc BK360 0; have hcz13_1 : w11.cell? ⟨gb360, 1, none⟩ = some (.slice A0_1 l0_1.length c0_1) := kc BK360 1; have hfz13_0 := blk_frozen BK360.out 0; have hfz13_1 := blk_frozen BK360.out 1; have hcz14_0 : w11.cell? ⟨gb361, 0, none⟩ = some (.bool a1_0) := kc BK361 0; have hcz14_1 : w11.cell? ⟨gb361, 1, none⟩ = some (.slice A1_1 l1_1.length c1_1) := kc BK361 1; have hfz14_0 := blk_frozen BK361.out 0; have hfz14_1 := blk_frozen BK361.out 1))
  go_ret
  exact ⟨by first | rfl | (simp [errW_none, errW_some] <;> rfl) | (simp [*, errW_none, errW_some] <;> rfl), ky HB⟩
 rw [if_neg c3] at H
 have c3b0 : (a0_0 != a1_0) = false := by simpa using c3
 (try (have c3b1 : decide (a0_0 = a1_0) = true := by simpa using c3))
 (try (have c3b2 : (a0_0 == a1_0) = true := by simpa using c3))
 clear c3
 by_cases c15 : a0_0 = true
 ·subst c15
  rw [if_pos rfl] at H; replace H := Option.bind_eq_some_iff.mp H; obtain ⟨t362, A160, H⟩ := H; (try dsimp only at H); have A16 := Aside0.mk A160; clear A160; obtain rfl := Option.some.inj H
  go_enter Try.func21, Try.ntmps21
  go_wp2_with (first | ((with_reducible refine gate_dst (N := 2) rfl ?_); refine box_event ?hg (N := 2) ?hd (cs := #[.bool true, .slice A0_1 l0_1.length c0_1]) (t := 33) ?hr ?_; (case hd => rfl); (case hg => rfl); (case hr => first | (go_simp; done) | (go_simp; rfl)); intro gb360 hg w17 hbox hb; have BK360 := Aside0.mk (hbox); have GW360 := kS HB hg; have GE360 := kS HB hg; replace HB := kB HB hb; clear hb hbox hg) | ((with_reducible refine gate_dst (N := 3) rfl ?_); refine box_event ?hg (N := 3) ?hd (cs := #[.bool a1_0, .slice A1_1 l1_1.length c1_1]) (t := 33) ?hr ?_; (case hd => rfl); (case hg => rfl); (case hr => first | (go_simp; done) | (go_simp; rfl)); intro gb361 hg w18 hbox hb; have BK361 := Aside0.mk (hbox); have GW361 := kS HB hg; have GE361 := kS HB hg; have NB360_361 := kN BK360 hg; have NB361_360 := kM BK360 hg; replace BK360 := kb BK360 hb; replace HB := kB HB hb; clear hb hbox hg; have hnb19 := NB360_361.out; have hnc19 := NB361_360.out; have hcz20_0 : w18.cell? ⟨gb360, 0, none⟩ = some (.bool true) := kc BK360 0; have hcz20_1 : w18.cell? ⟨gb360, 1, none⟩ = some (.slice A0_1 l0_1.length c0_1) := kc BK360 1; have hfz20_0 := blk_frozen BK360.out 0; have hfz20_1 := blk_frozen BK360.out 1; have hcz21_0 : w18.cell? ⟨gb361, 0, none⟩ = some (.bool a1_0) := kc BK361 0; have hcz21_1 : w18.cell? ⟨gb361, 1, none⟩ = some (.slice A1_1 l1_1.length c1_1) := kc BK361 1; have hfz21_0 := blk_frozen BK361.out 0; have hfz21_1 := blk_frozen BK361.out 1) | ((with_reducible refine gate_callee (f := 52) rfl ?_); refine gL 18 Try.func52 #[.slice A1_1 l1_1.length c1_1, .slice A0_1 l0_1.length c0_1] ?_; (with_reducible refine (cobwebref01_size.calls k _ _ l1_1 _ _ l0_1 t362 _ ?side1 ?side2 ?side3 ?side4 A16.out).mono ?_); (case side1 => exact kQ (Kd.C_below HR1_1.out HB.out)); (case side2 => exact HC1_1.out); (case side3 => exact kQ (Kd.C_below HR0_1.out HB.out)); (case side4 => exact HC0_1.out); rintro e w22 ⟨rfl, hb⟩; refine ⟨_, rfl, ?_⟩; replace BK360 := kb BK360 hb; replace BK361 := kb BK361 hb; replace HB := kB HB hb; (try clear hb); (try clear hb2); (try clear hk); (try clear hi)))
  go_ret
  exact ⟨by first | rfl | (simp [errW_none, errW_some] <;> rfl) | (simp [*, errW_none, errW_some] <;> rfl), ky HB⟩
 replace c15 := Bool.eq_false_iff.mpr c15; subst c15
 rw [if_neg (show ¬ (false = true) by decide)] at H; replace H := Option.bind_eq_some_iff.mp H; obtain ⟨t363, A230, H⟩ := H; (try dsimp only at H); have A23 := Aside0.mk A230; clear A230; obtain rfl := Option.some.inj H
 go_enter Try.func21, Try.ntmps21
 go_wp2_with (first | ((with_reducible refine gate_dst (N := 2) rfl ?_); refine box_event ?hg (N := 2) ?hd (cs := #[.bool false, .slice A0_1 l0_1.length c0_1]) (t := 33) ?hr ?_; (case hd => rfl); (case hg => rfl); (case hr => first | (go_simp; done) | (go_simp; rfl)); intro gb360 hg w24 hbox hb; have BK360 := Aside0.mk (hbox); have GW360 := kS HB hg; have GE360 := kS HB hg; replace HB := kB HB hb; clear hb hbox hg) | ((with_reducible refine gate_dst (N := 3) rfl ?_); refine box_event ?hg (N := 3) ?hd (cs := #[.bool a1_0, .slice A1_1 l1_1.length c1_1]) (t := 33) ?hr ?_; (case hd => rfl); (case hg => rfl); (case hr => first | (go_simp; done) | (go_simp; rfl)); intro gb361 hg w25 hbox hb; have BK361 := Aside0.mk (hbox); have GW361 := kS HB hg; have GE361 := kS HB hg; have NB360_361 := kN BK360 hg; have NB361_360 := kM BK360 hg; replace BK360 := kb BK360 hb; replace HB := kB HB hb; clear hb hbox hg; have hnb26 := NB360_361.out; have hnc26 := NB361_360.out; have hcz27_0 : w25.cell? ⟨gb360, 0, none⟩ = some (.bool false) := kc BK360 0; have hcz27_1 : w25.cell? ⟨gb360, 1, none⟩ = some (.slice A0_1 l0_1.length c0_1) := kc BK360 1; have hfz27_0 := blk_frozen BK360.out 0; have hfz27_1 := blk_frozen BK360.out 1; have hcz28_0 : w25.cell? ⟨gb361, 0, none⟩ = some (.bool a1_0) := kc BK361 0; have hcz28_1 : w25.cell? ⟨gb361, 1, none⟩ = some (.slice A1_1 l1_1.length c1_1) := kc BK361 1; have hfz28_0 := blk_frozen BK361.out 0; have hfz28_1 := blk_frozen BK361.out 1) | ((with_reducible refine gate_callee (f := 52) rfl ?_); refine gL 23 Try.func52 #[.slice A0_1 l0_1.length c0_1, .slice A1_1 l1_1.length c1_1] ?_; (with_reducible refine (cobwebref01_size.calls k _ _ l0_1 _ _ l1_1 t363 _ ?side1 ?side2 ?side3 ?side4 A23.out).mono ?_); (case side1 => exact kQ (Kd.C_below HR0_1.out HB.out)); (case side2 => exact HC0_1.out); (case side3 => exact kQ (Kd.C_below HR1_1.out HB.out)); (case side4 => exact HC1_1.out); rintro e w29 ⟨rfl, hb⟩; refine ⟨_, rfl, ?_⟩; replace BK360 := kb BK360 hb; replace BK361 := kb BK361 hb; replace HB := kB HB hb; (try clear hb); (try clear hb2); (try clear hk); (try clear hi)))
 go_ret
 exact ⟨by first | rfl | (simp [errW_none, errW_some] <;> rfl) | (simp [*, errW_none, errW_some] <;> rfl), ky HB⟩

/-! ### cobwebref01_base: function 74 -/
def cobwebref01_base.f  : Option (Int) := some 10000
set_option maxHeartbeats 8000000 in
set_option maxRecDepth 100000 in
theorem cobwebref01_base.calls  (r : Int) (w : World) (h : cobwebref01_base.f  = some r) :
  Calls Try.prog 74 #[] w fun e w' => e = .returned (.int .i64 r) ∧ Drawn0 w w' := by
 have H : (some 10000) = some r := h; clear h; obtain rfl := Option.some.inj H
 go_enter Try.func74, Try.ntmps74
 go_wp2
 go_ret
 exact ⟨by first | rfl | (simp; done) | (simp [*]; done), by repeat (first | exact Drawn0.refl _ | apply Drawn0.step)⟩

/-! ### cobwebref01_trim: function 75 -/
def cobwebref01_trim.l0 : Nat → List Int → Bool → List Int → Option (Bool × List Int)
 | 0, _, _, _ => none
 | k + 1, x3, x365000, x365001 => if (x3.length : Int) > 0 then (if 0 ≤ (wrap64 ((x3.length : Int) - 1)) then (if (wrap64 ((x3.length : Int) - 1)) < (x3.length : Int) then (if (rd x3 (wrap64 ((x3.length : Int) - 1))) = 0 then (if (wrap64 ((x3.length : Int) - 1)) ≤ (x3.length : Int) then (cobwebref01_trim.l0 k (x3.take ((wrap64 ((x3.length : Int) - 1)) : Int).toNat) x365000 x365001) else (none)) else (if x365000 = true then (some (true, x3)) else (some (false, x3)))) else (none)) else (none)) else (if x365000 = true then (some (false, x3)) else (some (false, x3)))
def cobwebref01_trim.f (k : Nat) (a0_0 : Bool) (l0_1 : List Int) : Option (Bool × List Int) := cobwebref01_trim.l0 k l0_1 a0_0 l0_1
theorem cobwebref01_trim.mono_l : ∀ k, (∀ y0 y1 y2, LeO (cobwebref01_trim.l0 k y0 y1 y2) (cobwebref01_trim.l0 (k + 1) y0 y1 y2))
 | 0 => fun _ _ _ r h => by simp [cobwebref01_trim.l0] at h
 | k + 1 => by
  have ih0 := cobwebref01_trim.mono_l k
  ·intro y0 y1 y2
   unfold cobwebref01_trim.l0
   repeat' first
   | (with_reducible exact ih0 _ _ _)
   | (with_reducible exact LeO.refl _)
   | (with_reducible exact LeO.none _)
   | (with_reducible refine LeO.ite ?_ ?_)
   | (with_reducible refine LeO.bind ?_ (fun _ => ?_))
   | exact ih0 _ _ _
   | exact LeO.none _
   | refine LeO.ite ?_ ?_
   | refine LeO.bind ?_ (fun _ => ?_)
theorem cobwebref01_trim.mono : ∀ a0 a1 k, LeO (cobwebref01_trim.f k a0 a1) (cobwebref01_trim.f (k + 1) a0 a1) := by
 intro a0 a1 k; have ih0 := cobwebref01_trim.mono_l k
 unfold cobwebref01_trim.f
 repeat' first
   | (with_reducible exact ih0 _ _ _)
   | (with_reducible exact LeO.refl _)
   | (with_reducible exact LeO.none _)
   | (with_reducible refine LeO.ite ?_ ?_)
   | (with_reducible refine LeO.bind ?_ (fun _ => ?_))
   | exact ih0 _ _ _
   | exact LeO.none _
   | refine LeO.ite ?_ ?_
   | refine LeO.bind ?_ (fun _ => ?_)
set_option maxHeartbeats 8000000 in
set_option maxRecDepth 100000 in
theorem cobwebref01_trim.calls (k : Nat) (a0_0 : Bool) (P0_1_ : Nat → Prop) (A0_1 : Option Addr) (c0_1 : Nat) (l0_1 : List Int) (r1 : Bool) (r2 : List Int) (w : World) (hs0_1 : Kd.V (Kd.int .i64) 3 w w.heap.size (fun k_ => P0_1_ k_) (.slice A0_1 l0_1.length c0_1) l0_1) (h : cobwebref01_trim.f k a0_0 l0_1 = some (r1, r2)) :
  Calls Try.prog 75 #[.agg #[.bool a0_0, .slice A0_1 l0_1.length c0_1]] w fun e w' => ∃ v1_ : Value, e = .returned (.agg #[.bool r1, v1_]) ∧ Kd.V (Kd.int .i64) 3 w' w.heap.size (fun k_ => (P0_1_ k_ ∨ w.heap.size ≤ k_)) v1_ r2 ∧ Below w.heap.size w w' := by
 have hu33 := Try.underlying33; have HO0_1 := Aside0.mk (show Kd.V (Kd.int .i64) 3 w w.heap.size (fun k_ => (P0_1_ k_ ∨ w.heap.size ≤ k_)) (.slice A0_1 l0_1.length c0_1) l0_1 from Kd.V_mono hs0_1 (fun k_ hk => .inl hk)); have HB := Aside0.mk (Below.refl w.heap.size w); have H : (cobwebref01_trim.l0 k l0_1 a0_0 l0_1) = some (r1, r2) := h; clear h; have H' := Aside0.mk H; clear H
 go_enter Try.func75, Try.ntmps75
 go_wp2_with (first | ((with_reducible refine gate_dst (N := 1) rfl ?_); refine box_event ?hg (N := 1) ?hd (cs := #[.bool a0_0, .slice A0_1 l0_1.length c0_1]) (t := 33) ?hr ?_; (case hd => rfl); (case hg => rfl); (case hr => first | (go_simp; done) | (go_simp; rfl)); intro gb364 hg w2 hbox hb; have n0_ := kE HO0_1 gb364 hg hb; have n1_ := kB HB hb; have n2_ := Aside0.mk (hbox); have n3_ := kS HB hg; have n4_ := kS HB hg; clear HO0_1; clear HB; have HO0_1 := n0_; have HB := n1_; have BK364 := n2_; have GW364 := n3_; have GE364 := n4_; clear n0_ n1_ n2_ n3_ n4_; clear hb hbox hg) | ((with_reducible refine gate_dst (N := 2) rfl ?_); refine box_event ?hg (N := 2) ?hd (cs := #[.bool false, .slice none 0 0]) (t := 33) ?hr ?_; (case hd => rfl); (case hg => rfl); (case hr => first | (go_simp; done) | (go_simp; rfl)); intro gb365 hg w3 hbox hb; have n0_ := kE HO0_1 gb365 hg hb; have n1_ := kb BK364 hb; have n2_ := kB HB hb; have n3_ := Aside0.mk (hbox); have n4_ := kS HB hg; have n5_ := kS HB hg; have n6_ := kN BK364 hg; have n7_ := kM BK364 hg; clear HO0_1; clear BK364; clear HB; have HO0_1 := n0_; have BK364 := n1_; have HB := n2_; have BK365 := n3_; have GW365 := n4_; have GE365 := n5_; have NB364_365 := n6_; have NB365_364 := n7_; clear n0_ n1_ n2_ n3_ n4_ n5_ n6_ n7_; clear hb hbox hg; have hnb4 := NB364_365.out; have hnc4 := NB365_364.out; have hcz5_0 : w3.cell? ⟨gb364, 0, none⟩ = some (.bool a0_0) := kc BK364 0; have hcz5_1 : w3.cell? ⟨gb364, 1, none⟩ = some (.slice A0_1 l0_1.length c0_1) := kc BK364 1; have hfz5_0 := blk_frozen BK364.out 0; have hfz5_1 := blk_frozen BK364.out 1))
 go_loopg [3] k (fun kq v3 w' => ∃ (x3_1 : List Int), Aside0 (cobwebref01_trim.l0 kq x3_1 a0_0 l0_1 = some (r1, r2)) ∧ Aside0 (kq ≤ k) ∧ Aside0 (Kd.V (Kd.int .i64) 3 w' w.heap.size (fun k_ => (P0_1_ k_ ∨ w.heap.size ≤ k_) ∧ k_ ≠ gb364 ∧ k_ ≠ gb365) v3 x3_1) ∧ Aside0 (Kd.V (Kd.int .i64) 3 w' w.heap.size (fun k_ => (P0_1_ k_ ∨ w.heap.size ≤ k_) ∧ k_ ≠ gb364 ∧ k_ ≠ gb365) (.slice A0_1 l0_1.length c0_1) l0_1) ∧ Aside0 (w'.heap[gb364]? = some (.cells #[.bool a0_0, (.slice A0_1 l0_1.length c0_1)] 33 (0, 0))) ∧ Aside0 (w'.heap[gb365]? = some (.cells #[.bool false, (.slice none 0 0)] 33 (0, 0))) ∧ Aside0 (Below w.heap.size w w'))
 case atStart => exact ⟨(l0_1), H', ⟨Nat.le_refl _⟩, ⟨by (with_reducible repeat (first | apply Kd.V_alloc | apply Kd.V_drewN | apply Kd.V_drew)); exact Kd.V_mono HO0_1.out (fun _ => u2)⟩, ⟨by (with_reducible repeat (first | apply Kd.V_alloc | apply Kd.V_drewN | apply Kd.V_drew)); exact Kd.V_mono HO0_1.out (fun _ => u2)⟩, ⟨kx BK364⟩, ⟨kx BK365⟩, ⟨ky HB⟩⟩
 case round =>
  clear H'
  try clear p2; try clear c4; try clear hcz5_0; try clear hcz5_1; try clear hfz5_0; try clear hfz5_1
  obtain ⟨x3_1, HA, HK1, HO_3, HO_365001, BK364, BK365, HB⟩ := hrel
  cases gk with
  | zero => exact absurd HA.out (by simp [cobwebref01_trim.l0])
  | succ k1 =>
   have H := HA.out; clear HA
   simp only [cobwebref01_trim.l0] at H
   by_cases c6 : (x3_1.length : Int) > 0
   rotate_left
   ·rw [if_neg c6] at H
    have c6b0 : decide (0 < (x3_1.length : Int)) = false := decide_eq_false c6; have c6b1 : decide (0 < x3_1.length) = false := decide_eq_false (by omega); clear c6
    by_cases c24 : a0_0 = true
    ·subst c24
     rw [if_pos rfl] at H
     simp only [Option.some.injEq, Prod.mk.injEq] at H
     obtain ⟨rfl, rfl⟩ := H; obtain ⟨Ao25, co25, eo25⟩ := Kd.V_slice HO_3.out; subst eo25; have hnb26 := NB364_365.out; have hnc26 := NB365_364.out; obtain ⟨hcz27_0, hcz27_1⟩ := kc2 BK364; obtain ⟨hfz27_0, hfz27_1⟩ := kf2 BK364; obtain ⟨hcz28_0, hcz28_1⟩ := kc2 BK365; obtain ⟨hfz28_0, hfz28_1⟩ := kf2 BK365
     go_wp2
     refine bodyPost_ret (results_cell_row rfl _ _ gb365 33 #[.bool false, .slice Ao25 x3_1.length co25] (0, 0) _ rfl (by (with_reducible repeat (first | refine zr ?_ _ | refine zw ?_ | refine za ?_ _)); refine blk_put (cs := #[.bool false, .slice none 0 0]) ?_ 1 _ rfl; (with_reducible repeat (first | refine zr ?_ _ | refine zw ?_ | refine za ?_ _)); refine blk_put (cs := #[.bool false, .slice none 0 0]) ?_ 0 _ rfl; (with_reducible repeat (first | refine zr ?_ _ | refine zw ?_ | refine za ?_ _)); exact BK365.out) Try.underlying33 rfl (by kernel_rfl)) rfl ?_; exact ⟨_, by first | rfl | (simp [errW_none, errW_some] <;> rfl) | (simp [*, errW_none, errW_some] <;> rfl), by (with_reducible repeat (first | apply Kd.V_alloc | apply Kd.V_drewN | apply Kd.V_drew)); exact Kd.V_mono (Kd.V_far (p := ⟨gb365, 1, none⟩) (Kd.V_far (p := ⟨gb365, 0, none⟩) (Kd.V_mono HO_3.out (fun k_ hk => (⟨hk, hk.2.2⟩ : _ ∧ k_ ≠ gb365))) (fun _ hk => hk.2) (.bool false)) (fun _ hk => hk.2) (.slice Ao25 x3_1.length co25)) (fun _ hk => hk.1.1), ky HB⟩
    replace c24 := Bool.eq_false_iff.mpr c24; subst c24
    rw [if_neg (show ¬ (false = true) by decide)] at H
    simp only [Option.some.injEq, Prod.mk.injEq] at H
    obtain ⟨rfl, rfl⟩ := H; obtain ⟨Ao29, co29, eo29⟩ := Kd.V_slice HO_3.out; subst eo29; have hnb30 := NB364_365.out; have hnc30 := NB365_364.out; obtain ⟨hcz31_0, hcz31_1⟩ := kc2 BK364; obtain ⟨hfz31_0, hfz31_1⟩ := kf2 BK364; obtain ⟨hcz32_0, hcz32_1⟩ := kc2 BK365; obtain ⟨hfz32_0, hfz32_1⟩ := kf2 BK365
    go_wp2
    refine bodyPost_ret (results_cell_row rfl _ _ gb365 33 #[.bool false, .slice Ao29 x3_1.length co29] (0, 0) _ rfl (by (with_reducible repeat (first | refine zr ?_ _ | refine zw ?_ | refine za ?_ _)); refine blk_put (cs := #[.bool false, .slice none 0 0]) ?_ 1 _ rfl; (with_reducible repeat (first | refine zr ?_ _ | refine zw ?_ | refine za ?_ _)); refine blk_put (cs := #[.bool false, .slice none 0 0]) ?_ 0 _ rfl; (with_reducible repeat (first | refine zr ?_ _ | refine zw ?_ | refine za ?_ _)); exact BK365.out) Try.underlying33 rfl (by kernel_rfl)) rfl ?_; exact ⟨_, by first | rfl | (simp [errW_none, errW_some] <;> rfl) | (simp [*, errW_none, errW_some] <;> rfl), by (with_reducible repeat (first | apply Kd.V_alloc | apply Kd.V_drewN | apply Kd.V_drew)); exact Kd.V_mono (Kd.V_far (p := ⟨gb365, 1, none⟩) (Kd.V_far (p := ⟨gb365, 0, none⟩) (Kd.V_mono HO_3.out (fun k_ hk => (⟨hk, hk.2.2⟩ : _ ∧ k_ ≠ gb365))) (fun _ hk => hk.2) (.bool false)) (fun _ hk => hk.2) (.slice Ao29 x3_1.length co29)) (fun _ hk => hk.1.1), ky HB⟩

   rw [if_pos c6] at H
   have c6b0 : decide (0 < (x3_1.length : Int)) = true := decide_eq_true c6; have c6b1 : decide (0 < x3_1.length) = true := decide_eq_true (by omega); clear c6; obtain ⟨ji7, hji7⟩ : ∃ j_ : Int, (wrap64 ((x3_1.length : Int) - 1)) = j_ := ⟨_, rfl⟩
   replace H : (if 0 ≤ (ji7) then (if (ji7) < (x3_1.length : Int) then (if (rd x3_1 (ji7)) = 0 then (if (ji7) ≤ (x3_1.length : Int) then (cobwebref01_trim.l0 k1 (x3_1.take ((ji7) : Int).toNat) a0_0 l0_1) else (none)) else (if a0_0 = true then (some (true, x3_1)) else (some (false, x3_1)))) else (none)) else (none)) = some (r1, r2) := by first | (rw [hji7] at H; exact H) | (simp only [hji7] at H ⊢; exact H)
   have hji7w : (IntKind.i64.wrap ((x3_1.length : Int) - 1)) = ji7 := (i64_w _).trans hji7
   by_cases c8 : 0 ≤ (ji7)
   rotate_left
   ·rw [if_neg c8] at H
    exact absurd H (by simp)
   rw [if_pos c8] at H
   have c8b0 : decide (0 ≤ (ji7)) = true := decide_eq_true c8; clear c8
   by_cases c9 : (ji7) < (x3_1.length : Int)
   rotate_left
   ·rw [if_neg c9] at H
    exact absurd H (by simp)
   rw [if_pos c9] at H
   have c9b0 : decide ((ji7) < (x3_1.length : Int)) = true := decide_eq_true c9; clear c9
   by_cases c10 : (rd x3_1 (ji7)) = 0
   ·rw [if_pos c10] at H
    have c10b0 : ((rd x3_1 (ji7)) == 0) = true := beq_iff_eq.mpr c10; have c10b1 : ((rd x3_1 (ji7)) != 0) = false := bne_eq_false_iff_eq.mpr c10; clear c10; have c11b0 := eq_true (of_decide_eq_true (by first | (with_reducible assumption) | assumption) : 0 ≤ (ji7))
    by_cases c12 : (ji7) ≤ (x3_1.length : Int)
    rotate_left
    ·rw [if_neg c12] at H
     exact absurd H (by simp)
    rw [if_pos c12] at H
    have c12b0 := eq_true c12; have c12b1 : decide ((ji7) ≤ (x3_1.length : Int)) = true := decide_eq_true c12; clear c12; obtain ⟨y367, hy367⟩ : ∃ y_ : List Int, y_ = (x3_1.take ((ji7) : Int).toNat) := ⟨_, rfl⟩
    replace H : (cobwebref01_trim.l0 k1 y367 a0_0 l0_1) = some (r1, r2) := by first | (rw [hy367]; with_reducible exact H) | (have H2_ := (Option.bind_some _ _).symm.trans H; rw [hy367]; with_reducible exact H2_) | (have H2_ := (Option.bind_some _ _).symm.trans H; with_reducible exact H2_) | with_reducible exact H | (rw [hy367]; exact H) | exact H
    have Ny367 := Aside0.mk hy367; clear hy367; have H' := Aside0.mk H; clear H; obtain ⟨Ao13, co13, eo13⟩ := Kd.V_slice HO_3.out; subst eo13; have p366 : 0 ≤ ((ji7) : Int) := of_decide_eq_true (by first | (with_reducible assumption) | assumption); have q366 : (ji7) < (x3_1.length : Int) := of_decide_eq_true (by first | (with_reducible assumption) | assumption); obtain ⟨ad366, e366, hx366_0⟩ := Kd.at_int (Kd.V_reads' HO_3.out).2.2 (ji7) p366 q366
    cases e366
    replace p366 := eq_true p366; replace q366 := eq_true q366; have q14 : ((ji7) : Int) ≤ ((x3_1.length : Int) : Int) := of_decide_eq_true (by first | (with_reducible assumption) | assumption); obtain ⟨i014, hi014, _, hsz14, _⟩ := info_parts info3; have hroom14 : x3_1.length ≤ co13 := (Kd.V_reads' HO_3.out).2.1; have hC14 : Kd.F (Kd.int .i64) _ _ (some ad366) x3_1.length x3_1 := (Kd.V_at (base := w.heap.size) HO_3.out).2.2; have hcut14 := cut_to (P := Try.prog) 31 3 .i64 Try.underlying31 hi014 (some ad366) x3_1.length co13 (ji7) (of_decide_eq_true (by first | (with_reducible assumption) | assumption)) q14 hroom14; have hr14 := Kd.F_take (m := ((ji7) : Int).toNat) hC14 (by omega); have hy14 : y367.length = ((ji7) : Int).toNat := (by rw [Ny367.out, List.length_take]; omega)
    rw [← Ny367.out] at hr14
    rw [← hy14] at hcut14
    have HO371 := Aside0.mk (show Kd.V (Kd.int .i64) 3 _ w.heap.size _ (.slice (some ad366) y367.length co13) y367 from Kd.V_mk (by omega) hr14); have HC371 := Aside0.mk (show y367.length ≤ co13 from by omega); clear hr14 hC14 hroom14 hi014 hsz14; have KY14 := Aside0.mk hy14; clear hy14; replace q14 := eq_true q14
    go_wp2
    go_roundg k1
    case measure => have := HK1.out; omega
    case rel => exact ⟨(y367), H', ⟨by have := HK1.out; omega⟩, ⟨by (with_reducible repeat (first | apply Kd.V_alloc | apply Kd.V_drewN | apply Kd.V_drew)); exact HO371.out⟩, ⟨by (with_reducible repeat (first | apply Kd.V_alloc | apply Kd.V_drewN | apply Kd.V_drew)); exact HO_365001.out⟩, ⟨kx BK364⟩, ⟨kx BK365⟩, ⟨ky HB⟩⟩
   rw [if_neg c10] at H
   have c10b0 : ((rd x3_1 (ji7)) == 0) = false := beq_eq_false_iff_ne.mpr c10; have c10b1 : ((rd x3_1 (ji7)) != 0) = true := bne_iff_ne.mpr c10
   by_cases c15 : a0_0 = true
   ·subst c15
    rw [if_pos rfl] at H
    simp only [Option.some.injEq, Prod.mk.injEq] at H
    obtain ⟨rfl, rfl⟩ := H; obtain ⟨Ao16, co16, eo16⟩ := Kd.V_slice HO_3.out; subst eo16; have p366 : 0 ≤ ((ji7) : Int) := of_decide_eq_true (by first | (with_reducible assumption) | assumption); have q366 : (ji7) < (x3_1.length : Int) := of_decide_eq_true (by first | (with_reducible assumption) | assumption); obtain ⟨ad366, e366, hx366_0⟩ := Kd.at_int (Kd.V_reads' HO_3.out).2.2 (ji7) p366 q366
    cases e366
    replace p366 := eq_true p366; replace q366 := eq_true q366; have hnb17 := NB364_365.out; have hnc17 := NB365_364.out; obtain ⟨hcz18_0, hcz18_1⟩ := kc2 BK364; obtain ⟨hfz18_0, hfz18_1⟩ := kf2 BK364; obtain ⟨hcz19_0, hcz19_1⟩ := kc2 BK365; obtain ⟨hfz19_0, hfz19_1⟩ := kf2 BK365
    go_wp2
    refine bodyPost_ret (results_cell_row rfl _ _ gb365 33 #[.bool true, .slice (some ad366) x3_1.length co16] (0, 0) _ rfl (by (with_reducible repeat (first | refine zr ?_ _ | refine zw ?_ | refine za ?_ _)); refine blk_put (cs := #[.bool true, .slice none 0 0]) ?_ 1 _ rfl; (with_reducible repeat (first | refine zr ?_ _ | refine zw ?_ | refine za ?_ _)); refine blk_put (cs := #[.bool false, .slice none 0 0]) ?_ 0 _ rfl; (with_reducible repeat (first | refine zr ?_ _ | refine zw ?_ | refine za ?_ _)); exact BK365.out) Try.underlying33 rfl (by kernel_rfl)) rfl ?_; exact ⟨_, by first | rfl | (simp [errW_none, errW_some] <;> rfl) | (simp only [← hji7]; first | rfl | (simp [errW_none, errW_some] <;> rfl)) | (simp [*, errW_none, errW_some] <;> rfl), by (with_reducible repeat (first | apply Kd.V_alloc | apply Kd.V_drewN | apply Kd.V_drew)); exact Kd.V_mono (Kd.V_far (p := ⟨gb365, 1, none⟩) (Kd.V_far (p := ⟨gb365, 0, none⟩) (Kd.V_mono HO_3.out (fun k_ hk => (⟨hk, hk.2.2⟩ : _ ∧ k_ ≠ gb365))) (fun _ hk => hk.2) (.bool true)) (fun _ hk => hk.2) (.slice (some ad366) x3_1.length co16)) (fun _ hk => hk.1.1), ky HB⟩
   replace c15 := Bool.eq_false_iff.mpr c15; subst c15
   rw [if_neg (show ¬ (false = true) by decide)] at H
   simp only [Option.some.injEq, Prod.mk.injEq] at H
   obtain ⟨rfl, rfl⟩ := H; obtain ⟨Ao20, co20, eo20⟩ := Kd.V_slice HO_3.out; subst eo20; have p366 : 0 ≤ ((ji7) : Int) := of_decide_eq_true (by first | (with_reducible assumption) | assumption); have q366 : (ji7) < (x3_1.length : Int) := of_decide_eq_true (by first | (with_reducible assumption) | assumption); obtain ⟨ad366, e366, hx366_0⟩ := Kd.at_int (Kd.V_reads' HO_3.out).2.2 (ji7) p366 q366
   cases e366
   replace p366 := eq_true p366; replace q366 := eq_true q366; have hnb21 := NB364_365.out; have hnc21 := NB365_364.out; obtain ⟨hcz22_0, hcz22_1⟩ := kc2 BK364; obtain ⟨hfz22_0, hfz22_1⟩ := kf2 BK364; obtain ⟨hcz23_0, hcz23_1⟩ := kc2 BK365; obtain ⟨hfz23_0, hfz23_1⟩ := kf2 BK365
   go_wp2
   refine bodyPost_ret (results_cell_row rfl _ _ gb365 33 #[.bool false, .slice (some ad366) x3_1.length co20] (0, 0) _ rfl (by (with_reducible repeat (first | refine zr ?_ _ | refine zw ?_ | refine za ?_ _)); refine blk_put (cs := #[.bool false, .slice none 0 0]) ?_ 1 _ rfl; (with_reducible repeat (first | refine zr ?_ _ | refine zw ?_ | refine za ?_ _)); refine blk_put (cs := #[.bool false, .slice none 0 0]) ?_ 0 _ rfl; (with_reducible repeat (first | refine zr ?_ _ | refine zw ?_ | refine za ?_ _)); exact BK365.out) Try.underlying33 rfl (by kernel_rfl)) rfl ?_; exact ⟨_, by first | rfl | (simp [errW_none, errW_some] <;> rfl) | (simp only [← hji7]; first | rfl | (simp [errW_none, errW_some] <;> rfl)) | (simp [*, errW_none, errW_some] <;> rfl), by (with_reducible repeat (first | apply Kd.V_alloc | apply Kd.V_drewN | apply Kd.V_drew)); exact Kd.V_mono (Kd.V_far (p := ⟨gb365, 1, none⟩) (Kd.V_far (p := ⟨gb365, 0, none⟩) (Kd.V_mono HO_3.out (fun k_ hk => (⟨hk, hk.2.2⟩ : _ ∧ k_ ≠ gb365))) (fun _ hk => hk.2) (.bool false)) (fun _ hk => hk.2) (.slice (some ad366) x3_1.length co20)) (fun _ hk => hk.1.1), ky HB⟩
/-! ### cobwebref01_Mul: function 51 -/
mutual
def cobwebref01_Mul.l0 : Nat → List Int → Int → Bool → List Int → Bool → List Int → Option (Bool × List Int)
 | 0, _, _, _, _, _, _ => none
 | k + 1, x5, x6, x373000, x373001, x374000, x374001 => if x6 < (x373001.length : Int) then (cobwebref01_Mul.l1 k x5 x6 0 0 x373000 x373001 x374000 x374001) else ((cobwebref01_trim.f k (!(x373000 == x374000)) x5).bind fun bt378 => (some (bt378.1, bt378.2)))
def cobwebref01_Mul.l1 : Nat → List Int → Int → Int → Int → Bool → List Int → Bool → List Int → Option (Bool × List Int)
 | 0, _, _, _, _, _, _, _, _ => none
 | k + 1, x5, x6, x7, x8, x373000, x373001, x374000, x374001 => if x8 < (x374001.length : Int) then (cobwebref01_Mul.j2 k x5 x6 x7 x8 true x373000 x373001 x374000 x374001) else (cobwebref01_Mul.j2 k x5 x6 x7 x8 (decide (x7 > 0)) x373000 x373001 x374000 x374001)
def cobwebref01_Mul.j2 : Nat → List Int → Int → Int → Int → Bool → Bool → List Int → Bool → List Int → Option (Bool × List Int)
 | 0, _, _, _, _, _, _, _, _, _ => none
 | k + 1, x5, x6, x7, x8, x33, x373000, x373001, x374000, x374001 => if x33 = true then (if 0 ≤ (wrap64 (x6 + x8)) then (if (wrap64 (x6 + x8)) < (x5.length : Int) then (if 0 ≤ x6 then (if x6 < (x373001.length : Int) then ((cobwebref01_digit.f x374001 x8).bind fun t384 => ((cobwebref01_base.f).bind fun t385 => (if t385 = 0 then (none) else ((cobwebref01_base.f).bind fun t387 => (if t387 = 0 then (none) else (cobwebref01_Mul.l1 k (x5.set ((wrap64 (x6 + x8)) : Int).toNat (Int.tmod (wrap64 ((wrap64 (x7 + (rd x5 (wrap64 (x6 + x8))))) + (wrap64 ((rd x373001 x6) * t384)))) t385)) x6 (wrap64 (Int.tdiv (wrap64 ((wrap64 (x7 + (rd x5 (wrap64 (x6 + x8))))) + (wrap64 ((rd x373001 x6) * t384)))) t387)) (wrap64 (x8 + 1)) x373000 x373001 x374000 x374001)))))) else (none)) else (none)) else (none)) else (none)) else (cobwebref01_Mul.l0 k x5 (wrap64 (x6 + 1)) x373000 x373001 x374000 x374001)
end
def cobwebref01_Mul.f (k : Nat) (a0_0 : Bool) (l0_1 : List Int) (a1_0 : Bool) (l1_1 : List Int) : Option (Bool × List Int) := if 0 ≤ (wrap64 ((wrap64 ((l0_1.length : Int) + (l1_1.length : Int))) + 1)) then (if (wrap64 ((wrap64 ((l0_1.length : Int) + (l1_1.length : Int))) + 1) : Int).toNat ≤ 35184372088832 then (cobwebref01_Mul.l0 k (List.replicate (wrap64 ((wrap64 ((l0_1.length : Int) + (l1_1.length : Int))) + 1) : Int).toNat 0) 0 a0_0 l0_1 a1_0 l1_1) else (none)) else (none)
theorem cobwebref01_Mul.mono_l : ∀ k, (∀ y0 y1 y2 y3 y4 y5, LeO (cobwebref01_Mul.l0 k y0 y1 y2 y3 y4 y5) (cobwebref01_Mul.l0 (k + 1) y0 y1 y2 y3 y4 y5)) ∧ (∀ y0 y1 y2 y3 y4 y5 y6 y7, LeO (cobwebref01_Mul.l1 k y0 y1 y2 y3 y4 y5 y6 y7) (cobwebref01_Mul.l1 (k + 1) y0 y1 y2 y3 y4 y5 y6 y7)) ∧ (∀ y0 y1 y2 y3 y4 y5 y6 y7 y8, LeO (cobwebref01_Mul.j2 k y0 y1 y2 y3 y4 y5 y6 y7 y8) (cobwebref01_Mul.j2 (k + 1) y0 y1 y2 y3 y4 y5 y6 y7 y8))
 | 0 => ⟨fun _ _ _ _ _ _ r h => by simp [cobwebref01_Mul.l0] at h, fun _ _ _ _ _ _ _ _ r h => by simp [cobwebref01_Mul.l1] at h, fun _ _ _ _ _ _ _ _ _ r h => by simp [cobwebref01_Mul.j2] at h⟩
 | k + 1 => by
  obtain ⟨ih0, ih1, ih2⟩ := cobwebref01_Mul.mono_l k; refine ⟨?_, ?_, ?_⟩
  ·intro y0 y1 y2 y3 y4 y5
   unfold cobwebref01_Mul.l0
   repeat' first
   | (with_reducible exact ih0 _ _ _ _ _ _)
   | (with_reducible exact ih1 _ _ _ _ _ _ _ _)
   | (with_reducible exact ih2 _ _ _ _ _ _ _ _ _)
   | (with_reducible exact cobwebref01_trim.mono _ _ _)
   | (with_reducible exact LeO.refl _)
   | (with_reducible exact LeO.none _)
   | (with_reducible refine LeO.ite ?_ ?_)
   | (with_reducible refine LeO.bind ?_ (fun _ => ?_))
   | exact ih0 _ _ _ _ _ _
   | exact ih1 _ _ _ _ _ _ _ _
   | exact ih2 _ _ _ _ _ _ _ _ _
   | exact cobwebref01_trim.mono _ _ _
   | exact LeO.none _
   | refine LeO.ite ?_ ?_
   | refine LeO.bind ?_ (fun _ => ?_)
  ·intro y0 y1 y2 y3 y4 y5 y6 y7
   unfold cobwebref01_Mul.l1
   repeat' first
   | (with_reducible exact ih0 _ _ _ _ _ _)
   | (with_reducible exact ih1 _ _ _ _ _ _ _ _)
   | (with_reducible exact ih2 _ _ _ _ _ _ _ _ _)
   | (with_reducible exact cobwebref01_trim.mono _ _ _)
   | (with_reducible exact LeO.refl _)
   | (with_reducible exact LeO.none _)
   | (with_reducible refine LeO.ite ?_ ?_)
   | (with_reducible refine LeO.bind ?_ (fun _ => ?_))
   | exact ih0 _ _ _ _ _ _
   | exact ih1 _ _ _ _ _ _ _ _
   | exact ih2 _ _ _ _ _ _ _ _ _
   | exact cobwebref01_trim.mono _ _ _
   | exact LeO.none _
   | refine LeO.ite ?_ ?_
   | refine LeO.bind ?_ (fun _ => ?_)
  ·intro y0 y1 y2 y3 y4 y5 y6 y7 y8
   unfold cobwebref01_Mul.j2
   repeat' first
   | (with_reducible exact ih0 _ _ _ _ _ _)
   | (with_reducible exact ih1 _ _ _ _ _ _ _ _)
   | (with_reducible exact ih2 _ _ _ _ _ _ _ _ _)
   | (with_reducible exact cobwebref01_trim.mono _ _ _)
   | (with_reducible exact LeO.refl _)
   | (with_reducible exact LeO.none _)
   | (with_reducible refine LeO.ite ?_ ?_)
   | (with_reducible refine LeO.bind ?_ (fun _ => ?_))
   | exact ih0 _ _ _ _ _ _
   | exact ih1 _ _ _ _ _ _ _ _
   | exact ih2 _ _ _ _ _ _ _ _ _
   | exact cobwebref01_trim.mono _ _ _
   | exact LeO.none _
   | refine LeO.ite ?_ ?_
   | refine LeO.bind ?_ (fun _ => ?_)
theorem cobwebref01_Mul.mono : ∀ a0 a1 a2 a3 k, LeO (cobwebref01_Mul.f k a0 a1 a2 a3) (cobwebref01_Mul.f (k + 1) a0 a1 a2 a3) := by
 intro a0 a1 a2 a3 k; obtain ⟨ih0, ih1, ih2⟩ := cobwebref01_Mul.mono_l k
 unfold cobwebref01_Mul.f
 repeat' first
   | (with_reducible exact ih0 _ _ _ _ _ _)
   | (with_reducible exact ih1 _ _ _ _ _ _ _ _)
   | (with_reducible exact ih2 _ _ _ _ _ _ _ _ _)
   | (with_reducible exact cobwebref01_trim.mono _ _ _)
   | (with_reducible exact LeO.refl _)
   | (with_reducible exact LeO.none _)
   | (with_reducible refine LeO.ite ?_ ?_)
   | (with_reducible refine LeO.bind ?_ (fun _ => ?_))
   | exact ih0 _ _ _ _ _ _
   | exact ih1 _ _ _ _ _ _ _ _
   | exact ih2 _ _ _ _ _ _ _ _ _
   | exact cobwebref01_trim.mono _ _ _
   | exact LeO.none _
   | refine LeO.ite ?_ ?_
   | refine LeO.bind ?_ (fun _ => ?_)
set_option maxHeartbeats 8000000 in
set_option maxRecDepth 100000 in
theorem cobwebref01_Mul.calls (k : Nat) (a0_0 : Bool) (A0_1 : Option Addr) (c0_1 : Nat) (l0_1 : List Int) (a1_0 : Bool) (A1_1 : Option Addr) (c1_1 : Nat) (l1_1 : List Int) (r1 : Bool) (r2 : List Int) (w : World) (hr0_1 : Kd.C (Kd.int .i64) w A0_1 l0_1.length l0_1) (hc0_1 : l0_1.length ≤ c0_1) (hr1_1 : Kd.C (Kd.int .i64) w A1_1 l1_1.length l1_1) (hc1_1 : l1_1.length ≤ c1_1) (h : cobwebref01_Mul.f k a0_0 l0_1 a1_0 l1_1 = some (r1, r2)) :
  Calls Try.prog 51 #[.agg #[.bool a0_0, .slice A0_1 l0_1.length c0_1], .agg #[.bool a1_0, .slice A1_1 l1_1.length c1_1]] w fun e w' => ∃ v1_ : Value, e = .returned (.agg #[.bool r1, v1_]) ∧ Kd.V (Kd.int .i64) 3 w' w.heap.size (fun k_ => (w.heap.size ≤ k_)) v1_ r2 ∧ Below w.heap.size w w' := by
 have hu33 := Try.underlying33; have HR0_1 := Aside0.mk hr0_1; have HC0_1 := Aside0.mk hc0_1; clear hr0_1 hc0_1; have HR1_1 := Aside0.mk hr1_1; have HC1_1 := Aside0.mk hc1_1; clear hr1_1 hc1_1; have HB := Aside0.mk (Below.refl w.heap.size w); have H : (if 0 ≤ (wrap64 ((wrap64 ((l0_1.length : Int) + (l1_1.length : Int))) + 1)) then (if (wrap64 ((wrap64 ((l0_1.length : Int) + (l1_1.length : Int))) + 1) : Int).toNat ≤ 35184372088832 then (cobwebref01_Mul.l0 k (List.replicate (wrap64 ((wrap64 ((l0_1.length : Int) + (l1_1.length : Int))) + 1) : Int).toNat 0) 0 a0_0 l0_1 a1_0 l1_1) else (none)) else (none)) = some (r1, r2) := h; clear h; obtain ⟨ji3, hji3⟩ : ∃ j_ : Int, (wrap64 ((wrap64 ((l0_1.length : Int) + (l1_1.length : Int))) + 1)) = j_ := ⟨_, rfl⟩
 replace H : (if 0 ≤ (ji3) then (if (ji3 : Int).toNat ≤ 35184372088832 then (cobwebref01_Mul.l0 k (List.replicate (ji3 : Int).toNat 0) 0 a0_0 l0_1 a1_0 l1_1) else (none)) else (none)) = some (r1, r2) := by first | (rw [hji3] at H; exact H) | (simp only [hji3] at H ⊢; exact H)
 have hji3w : (IntKind.i64.wrap ((wrap64 ((l0_1.length : Int) + (l1_1.length : Int))) + 1)) = ji3 := (i64_w _).trans hji3
 by_cases c4 : 0 ≤ (ji3)
 rotate_left
 ·rw [if_neg c4] at H
  exact absurd H (by simp)

 rw [if_pos c4] at H
 have c4b0 := eq_true c4; have c4b1 : decide (0 ≤ (ji3)) = true := decide_eq_true c4; clear c4
 by_cases c5 : (ji3 : Int).toNat ≤ 35184372088832
 rotate_left
 ·rw [if_neg c5] at H
  exact absurd H (by simp)
 rw [if_pos c5] at H
 have c5b0 := eq_true c5; have c5b1 : decide ((ji3 : Int).toNat ≤ 35184372088832) = true := decide_eq_true c5; clear c5; obtain ⟨y375, hy375⟩ : ∃ y_ : List Int, y_ = (List.replicate (ji3 : Int).toNat 0) := ⟨_, rfl⟩
 replace H : (cobwebref01_Mul.l0 k y375 0 a0_0 l0_1 a1_0 l1_1) = some (r1, r2) := by first | (rw [hy375]; with_reducible exact H) | (have H2_ := (Option.bind_some _ _).symm.trans H; rw [hy375]; with_reducible exact H2_) | (have H2_ := (Option.bind_some _ _).symm.trans H; with_reducible exact H2_) | with_reducible exact H | (rw [hy375]; exact H) | exact H
 have Ny375 := Aside0.mk hy375; clear hy375; have H' := Aside0.mk H; clear H
 go_enter Try.func51, Try.ntmps51
 go_wp2_with (first | ((with_reducible refine gate_dst (N := 2) rfl ?_); refine box_event ?hg (N := 2) ?hd (cs := #[.bool a0_0, .slice A0_1 l0_1.length c0_1]) (t := 33) ?hr ?_; (case hd => rfl); (case hg => rfl); (case hr => first | (go_simp; done) | (go_simp; rfl)); intro gb372 hg w6 hbox hb; have BK372 := Aside0.mk (hbox); have GW372 := kS HB hg; have GE372 := kS HB hg; replace HB := kB HB hb; clear hb hbox hg) | ((with_reducible refine gate_dst (N := 3) rfl ?_); refine box_event ?hg (N := 3) ?hd (cs := #[.bool a1_0, .slice A1_1 l1_1.length c1_1]) (t := 33) ?hr ?_; (case hd => rfl); (case hg => rfl); (case hr => first | (go_simp; done) | (go_simp; rfl)); intro gb373 hg w7 hbox hb; have BK373 := Aside0.mk (hbox); have GW373 := kS HB hg; have GE373 := kS HB hg; have NB372_373 := kN BK372 hg; have NB373_372 := kM BK372 hg; replace BK372 := kb BK372 hb; replace HB := kB HB hb; clear hb hbox hg) | ((with_reducible refine gate_dst (N := 4) rfl ?_); refine box_event ?hg (N := 4) ?hd (cs := #[.bool false, .slice none 0 0]) (t := 33) ?hr ?_; (case hd => rfl); (case hg => rfl); (case hr => first | (go_simp; done) | (go_simp; rfl)); intro gb374 hg w8 hbox hb; have BK374 := Aside0.mk (hbox); have GW374 := kS HB hg; have GE374 := kS HB hg; have NB372_374 := kN BK372 hg; have NB374_372 := kM BK372 hg; have NB373_374 := kN BK373 hg; have NB374_373 := kM BK373 hg; replace BK372 := kb BK372 hb; replace BK373 := kb BK373 hb; replace HB := kB HB hb; clear hb hbox hg; have hnb9 := NB372_373.out; have hnc9 := NB373_372.out; have hnb10 := NB372_374.out; have hnc10 := NB374_372.out; have hcz11_0 : w8.cell? ⟨gb372, 0, none⟩ = some (.bool a0_0) := kc BK372 0; have hcz11_1 : w8.cell? ⟨gb372, 1, none⟩ = some (.slice A0_1 l0_1.length c0_1) := kc BK372 1; have hfz11_0 := blk_frozen BK372.out 0; have hfz11_1 := blk_frozen BK372.out 1; have hnb12 := NB373_374.out; have hnc12 := NB374_373.out; have hcz13_0 : w8.cell? ⟨gb373, 0, none⟩ = some (.bool a1_0) := kc BK373 0; have hcz13_1 : w8.cell? ⟨gb373, 1, none⟩ = some (.slice A1_1 l1_1.length c1_1) := kc BK373 1; have hfz13_0 := blk_frozen BK373.out 0; have hfz13_1 := blk_frozen BK373.out 1) | ((with_reducible refine gate_dst (N := 17) rfl ?_); refine Kd.R_make (Kd.int .i64) _ 3 rfl (N := 17) rfl 31 _ _ rfl ji3 rfl rfl Try.underlying31 (.int .i64 0) 8 info3 rfl (by decide) (by omega) 0 (ok := fun _ => True) (okp := fun _ => True) rfl (fun _ hk => hk) trivial (of_decide_eq_true (by first | (with_reducible assumption) | assumption)) (Nat.le_trans (Nat.mul_le_mul_right _ (of_decide_eq_true (by first | (with_reducible assumption) | assumption) : ji3.toNat ≤ 35184372088832)) (by omega)) (Below.refl _ _) (Nat.le_refl _) ?_; intro v376 w14 ho15 hb hg_ hnew_; clear hg_ hnew_; (first | rw [← Ny375.out] at ho15 | (simp only [Int.reduceToNat] at ho15; rw [← Ny375.out] at ho15)); have HO377 := Aside0.mk (Kd.R_lower (Kd.R_newM (M := fun k_ => (w.heap.size ≤ k_)) ho15 (ko HB) (fun k_ h_ => h_)) (ko HB)); replace BK372 := kb BK372 hb; replace BK373 := kb BK373 hb; replace BK374 := kb BK374 hb; replace HB := kB HB hb; clear hb ho15))
 repeat (go_quiet (first | ((with_reducible refine gate_dst (N := 2) rfl ?_); refine box_event ?hg (N := 2) ?hd (cs := #[.bool a0_0, .slice A0_1 l0_1.length c0_1]) (t := 33) ?hr ?_; (case hd => rfl); (case hg => rfl); (case hr => first | (go_simp; done) | (go_simp; rfl)); intro gb372 hg w6 hbox hb; have BK372 := Aside0.mk (hbox); have GW372 := kS HB hg; have GE372 := kS HB hg; replace HB := kB HB hb; clear hb hbox hg) | ((with_reducible refine gate_dst (N := 3) rfl ?_); refine box_event ?hg (N := 3) ?hd (cs := #[.bool a1_0, .slice A1_1 l1_1.length c1_1]) (t := 33) ?hr ?_; (case hd => rfl); (case hg => rfl); (case hr => first | (go_simp; done) | (go_simp; rfl)); intro gb373 hg w7 hbox hb; have BK373 := Aside0.mk (hbox); have GW373 := kS HB hg; have GE373 := kS HB hg; have NB372_373 := kN BK372 hg; have NB373_372 := kM BK372 hg; replace BK372 := kb BK372 hb; replace HB := kB HB hb; clear hb hbox hg) | ((with_reducible refine gate_dst (N := 4) rfl ?_); refine box_event ?hg (N := 4) ?hd (cs := #[.bool false, .slice none 0 0]) (t := 33) ?hr ?_; (case hd => rfl); (case hg => rfl); (case hr => first | (go_simp; done) | (go_simp; rfl)); intro gb374 hg w8 hbox hb; have BK374 := Aside0.mk (hbox); have GW374 := kS HB hg; have GE374 := kS HB hg; have NB372_374 := kN BK372 hg; have NB374_372 := kM BK372 hg; have NB373_374 := kN BK373 hg; have NB374_373 := kM BK373 hg; replace BK372 := kb BK372 hb; replace BK373 := kb BK373 hb; replace HB := kB HB hb; clear hb hbox hg; have hnb9 := NB372_373.out; have hnc9 := NB373_372.out; have hnb10 := NB372_374.out; have hnc10 := NB374_372.out; have hcz11_0 : w8.cell? ⟨gb372, 0, none⟩ = some (.bool a0_0) := kc BK372 0; have hcz11_1 : w8.cell? ⟨gb372, 1, none⟩ = some (.slice A0_1 l0_1.length c0_1) := kc BK372 1; have hfz11_0 := blk_frozen BK372.out 0; have hfz11_1 := blk_frozen BK372.out 1; have hnb12 := NB373_374.out; have hnc12 := NB374_373.out; have hcz13_0 : w8.cell? ⟨gb373, 0, none⟩ = some (.bool a1_0) := kc BK373 0; have hcz13_1 : w8.cell? ⟨gb373, 1, none⟩ = some (.slice A1_1 l1_1.length c1_1) := kc BK373 1; have hfz13_0 := blk_frozen BK373.out 0; have hfz13_1 := blk_frozen BK373.out 1) | ((with_reducible refine gate_dst (N := 17) rfl ?_); refine Kd.R_make (Kd.int .i64) _ 3 rfl (N := 17) rfl 31 _ _ rfl ji3 rfl rfl Try.underlying31 (.int .i64 0) 8 info3 rfl (by decide) (by omega) 0 (ok := fun _ => True) (okp := fun _ => True) rfl (fun _ hk => hk) trivial (of_decide_eq_true (by first | (with_reducible assumption) | assumption)) (Nat.le_trans (Nat.mul_le_mul_right _ (of_decide_eq_true (by first | (with_reducible assumption) | assumption) : ji3.toNat ≤ 35184372088832)) (by omega)) (Below.refl _ _) (Nat.le_refl _) ?_; intro v376 w14 ho15 hb hg_ hnew_; clear hg_ hnew_; (first | rw [← Ny375.out] at ho15 | (simp only [Int.reduceToNat] at ho15; rw [← Ny375.out] at ho15)); have HO377 := Aside0.mk (Kd.R_lower (Kd.R_newM (M := fun k_ => (w.heap.size ≤ k_)) ho15 (ko HB) (fun k_ h_ => h_)) (ko HB)); replace BK372 := kb BK372 hb; replace BK373 := kb BK373 hb; replace BK374 := kb BK374 hb; replace HB := kB HB hb; clear hb ho15)); try go_wp2_with (first | ((with_reducible refine gate_dst (N := 2) rfl ?_); refine box_event ?hg (N := 2) ?hd (cs := #[.bool a0_0, .slice A0_1 l0_1.length c0_1]) (t := 33) ?hr ?_; (case hd => rfl); (case hg => rfl); (case hr => first | (go_simp; done) | (go_simp; rfl)); intro gb372 hg w6 hbox hb; have BK372 := Aside0.mk (hbox); have GW372 := kS HB hg; have GE372 := kS HB hg; replace HB := kB HB hb; clear hb hbox hg) | ((with_reducible refine gate_dst (N := 3) rfl ?_); refine box_event ?hg (N := 3) ?hd (cs := #[.bool a1_0, .slice A1_1 l1_1.length c1_1]) (t := 33) ?hr ?_; (case hd => rfl); (case hg => rfl); (case hr => first | (go_simp; done) | (go_simp; rfl)); intro gb373 hg w7 hbox hb; have BK373 := Aside0.mk (hbox); have GW373 := kS HB hg; have GE373 := kS HB hg; have NB372_373 := kN BK372 hg; have NB373_372 := kM BK372 hg; replace BK372 := kb BK372 hb; replace HB := kB HB hb; clear hb hbox hg) | ((with_reducible refine gate_dst (N := 4) rfl ?_); refine box_event ?hg (N := 4) ?hd (cs := #[.bool false, .slice none 0 0]) (t := 33) ?hr ?_; (case hd => rfl); (case hg => rfl); (case hr => first | (go_simp; done) | (go_simp; rfl)); intro gb374 hg w8 hbox hb; have BK374 := Aside0.mk (hbox); have GW374 := kS HB hg; have GE374 := kS HB hg; have NB372_374 := kN BK372 hg; have NB374_372 := kM BK372 hg; have NB373_374 := kN BK373 hg; have NB374_373 := kM BK373 hg; replace BK372 := kb BK372 hb; replace BK373 := kb BK373 hb; replace HB := kB HB hb; clear hb hbox hg; have hnb9 := NB372_373.out; have hnc9 := NB373_372.out; have hnb10 := NB372_374.out; have hnc10 := NB374_372.out; have hcz11_0 : w8.cell? ⟨gb372, 0, none⟩ = some (.bool a0_0) := kc BK372 0; have hcz11_1 : w8.cell? ⟨gb372, 1, none⟩ = some (.slice A0_1 l0_1.length c0_1) := kc BK372 1; have hfz11_0 := blk_frozen BK372.out 0; have hfz11_1 := blk_frozen BK372.out 1; have hnb12 := NB373_374.out; have hnc12 := NB374_373.out; have hcz13_0 : w8.cell? ⟨gb373, 0, none⟩ = some (.bool a1_0) := kc BK373 0; have hcz13_1 : w8.cell? ⟨gb373, 1, none⟩ = some (.slice A1_1 l1_1.length c1_1) := kc BK373 1; have hfz13_0 := blk_frozen BK373.out 0; have hfz13_1 := blk_frozen BK373.out 1) | ((with_reducible refine gate_dst (N := 17) rfl ?_); refine Kd.R_make (Kd.int .i64) _ 3 rfl (N := 17) rfl 31 _ _ rfl ji3 rfl rfl Try.underlying31 (.int .i64 0) 8 info3 rfl (by decide) (by omega) 0 (ok := fun _ => True) (okp := fun _ => True) rfl (fun _ hk => hk) trivial (of_decide_eq_true (by first | (with_reducible assumption) | assumption)) (Nat.le_trans (Nat.mul_le_mul_right _ (of_decide_eq_true (by first | (with_reducible assumption) | assumption) : ji3.toNat ≤ 35184372088832)) (by omega)) (Below.refl _ _) (Nat.le_refl _) ?_; intro v376 w14 ho15 hb hg_ hnew_; clear hg_ hnew_; (first | rw [← Ny375.out] at ho15 | (simp only [Int.reduceToNat] at ho15; rw [← Ny375.out] at ho15)); have HO377 := Aside0.mk (Kd.R_lower (Kd.R_newM (M := fun k_ => (w.heap.size ≤ k_)) ho15 (ko HB) (fun k_ h_ => h_)) (ko HB)); replace BK372 := kb BK372 hb; replace BK373 := kb BK373 hb; replace BK374 := kb BK374 hb; replace HB := kB HB hb; clear hb ho15)))
 go_loopg [6] k (fun kq v6 w' => ∃ (x5_1 : List Int) (x6_1 : Int), v6 = .int .i64 x6_1 ∧ Aside0 (cobwebref01_Mul.l0 kq x5_1 x6_1 a0_0 l0_1 a1_0 l1_1 = some (r1, r2)) ∧ Aside0 (kq ≤ k) ∧ Aside0 (Kd.R (Kd.int .i64) 3 w' w.heap.size (fun k_ => (w.heap.size ≤ k_)) v376 x5_1) ∧ Aside0 (w'.heap[gb372]? = some (.cells #[.bool a0_0, (.slice A0_1 l0_1.length c0_1)] 33 (0, 0))) ∧ Aside0 (w'.heap[gb373]? = some (.cells #[.bool a1_0, (.slice A1_1 l1_1.length c1_1)] 33 (0, 0))) ∧ Aside0 (w'.heap[gb374]? = some (.cells #[.bool false, (.slice none 0 0)] 33 (0, 0))) ∧ Aside0 (Below w.heap.size w w'))
 case atStart => exact ⟨(y375), (0), (by first | rfl | (simp; done) | (simp [*]; done)), H', ⟨Nat.le_refl _⟩, ⟨by (with_reducible repeat (first | apply Kd.R_alloc | apply Kd.R_drewN | apply Kd.R_drew)); exact Kd.R_mono HO377.out (fun _ hk => hk.1)⟩, ⟨kx BK372⟩, ⟨kx BK373⟩, ⟨kx BK374⟩, ⟨ky HB⟩⟩
 case round =>
  clear H'
  try clear c1; try clear p2; try clear c4; try clear c4b0; try clear c4b1; try clear c5; try clear c5b0; try clear c5b1; try clear p6; try clear c9; try clear c10; try clear c12; try clear hcz11_0; try clear hcz11_1; try clear hcz13_0; try clear hcz13_1; try clear hfz11_0; try clear hfz11_1; try clear hfz13_0; try clear hfz13_1
  obtain ⟨x5_1, x6_1, rfl, HA, HK1, HO_5, BK372, BK373, BK374, HB⟩ := hrel
  cases gk with
  | zero => exact absurd HA.out (by simp [cobwebref01_Mul.l0])
  | succ k1 =>
   have H := HA.out; clear HA
   simp only [cobwebref01_Mul.l0] at H
   by_cases c16 : x6_1 < (l0_1.length : Int)
   rotate_left
   ·rw [if_neg c16] at H
    have c16b0 : decide (x6_1 < (l0_1.length : Int)) = false := decide_eq_false c16; clear c16; replace H := Option.bind_eq_some_iff.mp H; obtain ⟨⟨t378, t379⟩, A480, H⟩ := H; (try dsimp only at H); have A48 := Aside0.mk A480; clear A480
    simp only [Option.some.injEq, Prod.mk.injEq] at H
    obtain ⟨rfl, rfl⟩ := H; have hnb49 := NB372_373.out; have hnc49 := NB373_372.out; have hnb50 := NB372_374.out; have hnc50 := NB374_372.out; obtain ⟨hcz51_0, hcz51_1⟩ := kc2 BK372; obtain ⟨hfz51_0, hfz51_1⟩ := kf2 BK372; have hnb52 := NB373_374.out; have hnc52 := NB374_373.out; obtain ⟨hcz53_0, hcz53_1⟩ := kc2 BK373; obtain ⟨hfz53_0, hfz53_1⟩ := kf2 BK373; obtain ⟨Ao54, co54, eo54⟩ := Kd.R_slice HO_5.out; subst eo54
    go_wp2_with (first | (go_at_call 75; (with_reducible refine (cobwebref01_trim.calls k1 (!(a0_0 == a1_0)) (fun k_ => some k_ = (.slice Ao54 x5_1.length co54 : Value).ownBlock) _ _ x5_1 t378 t379 _ ?side1 A48.out).mono ?_); (case side1 => exact Kd.R_V (Kd.R_tight rfl (Kd.R_types (Kd.R_types (Kd.R_types (HO_5.out) BK372.out (by decide)) BK373.out (by decide)) BK374.out (by decide)))); rintro e w55 ⟨v380, rfl, ho0, hb⟩; have HO381 := Aside0.mk (Kd.V_lower (Kd.V_mono (ok' := fun k_ => (w.heap.size ≤ k_) ∧ k_ ≠ gb372 ∧ k_ ≠ gb373 ∧ k_ ≠ gb374) ho0 (fun k_ hk_ => ⟨Or.elim hk_ (fun hs_ => ((Kd.R_types (Kd.R_types (Kd.R_types (HO_5.out) BK372.out (by decide)) BK373.out (by decide)) BK374.out (by decide)).1 k_ hs_.symm).1.1.1) (fun hn_ => (Nat.le_trans (ko HB) hn_)), Or.elim hk_ (fun hs_ => ((Kd.R_types (Kd.R_types (Kd.R_types (HO_5.out) BK372.out (by decide)) BK373.out (by decide)) BK374.out (by decide)).1 k_ hs_.symm).1.1.2) (fun hn_ => (Kd.freshB (g := gb372) (o := .cells #[.bool a0_0, .slice A0_1 l0_1.length c0_1] 33 (0, 0)) (kx BK372) k_ hn_)), Or.elim hk_ (fun hs_ => ((Kd.R_types (Kd.R_types (Kd.R_types (HO_5.out) BK372.out (by decide)) BK373.out (by decide)) BK374.out (by decide)).1 k_ hs_.symm).1.2) (fun hn_ => (Kd.freshB (g := gb373) (o := .cells #[.bool a1_0, .slice A1_1 l1_1.length c1_1] 33 (0, 0)) (kx BK373) k_ hn_)), Or.elim hk_ (fun hs_ => ((Kd.R_types (Kd.R_types (Kd.R_types (HO_5.out) BK372.out (by decide)) BK373.out (by decide)) BK374.out (by decide)).1 k_ hs_.symm).2) (fun hn_ => (Kd.freshB (g := gb374) (o := .cells #[.bool false, .slice none 0 0] 33 (0, 0)) (kx BK374) k_ hn_))⟩)) (ko HB)); replace HO_5 := kR HO_5 hb; replace BK372 := kb BK372 hb; replace BK373 := kb BK373 hb; replace BK374 := kb BK374 hb; replace HB := kB HB hb; (try clear hb); (try clear hb2); (try clear hk); (try clear hi); (try clear ho0); have hcz56_0 : w55.cell? ⟨gb374, 0, none⟩ = some (.bool false) := kc BK374 0; have hcz56_1 : w55.cell? ⟨gb374, 1, none⟩ = some (.slice none 0 0) := kc BK374 1; have hfz56_0 := blk_frozen BK374.out 0; have hfz56_1 := blk_frozen BK374.out 1; obtain ⟨Ao57, co57, eo57⟩ := Kd.V_slice HO381.out; subst eo57))
    repeat (go_quiet (first | (go_at_call 75; (with_reducible refine (cobwebref01_trim.calls k1 (!(a0_0 == a1_0)) (fun k_ => some k_ = (.slice Ao54 x5_1.length co54 : Value).ownBlock) _ _ x5_1 t378 t379 _ ?side1 A48.out).mono ?_); (case side1 => exact Kd.R_V (Kd.R_tight rfl (Kd.R_types (Kd.R_types (Kd.R_types (HO_5.out) BK372.out (by decide)) BK373.out (by decide)) BK374.out (by decide)))); rintro e w55 ⟨v380, rfl, ho0, hb⟩; have HO381 := Aside0.mk (Kd.V_lower (Kd.V_mono (ok' := fun k_ => (w.heap.size ≤ k_) ∧ k_ ≠ gb372 ∧ k_ ≠ gb373 ∧ k_ ≠ gb374) ho0 (fun k_ hk_ => ⟨Or.elim hk_ (fun hs_ => ((Kd.R_types (Kd.R_types (Kd.R_types (HO_5.out) BK372.out (by decide)) BK373.out (by decide)) BK374.out (by decide)).1 k_ hs_.symm).1.1.1) (fun hn_ => (Nat.le_trans (ko HB) hn_)), Or.elim hk_ (fun hs_ => ((Kd.R_types (Kd.R_types (Kd.R_types (HO_5.out) BK372.out (by decide)) BK373.out (by decide)) BK374.out (by decide)).1 k_ hs_.symm).1.1.2) (fun hn_ => (Kd.freshB (g := gb372) (o := .cells #[.bool a0_0, .slice A0_1 l0_1.length c0_1] 33 (0, 0)) (kx BK372) k_ hn_)), Or.elim hk_ (fun hs_ => ((Kd.R_types (Kd.R_types (Kd.R_types (HO_5.out) BK372.out (by decide)) BK373.out (by decide)) BK374.out (by decide)).1 k_ hs_.symm).1.2) (fun hn_ => (Kd.freshB (g := gb373) (o := .cells #[.bool a1_0, .slice A1_1 l1_1.length c1_1] 33 (0, 0)) (kx BK373) k_ hn_)), Or.elim hk_ (fun hs_ => ((Kd.R_types (Kd.R_types (Kd.R_types (HO_5.out) BK372.out (by decide)) BK373.out (by decide)) BK374.out (by decide)).1 k_ hs_.symm).2) (fun hn_ => (Kd.freshB (g := gb374) (o := .cells #[.bool false, .slice none 0 0] 33 (0, 0)) (kx BK374) k_ hn_))⟩)) (ko HB)); replace HO_5 := kR HO_5 hb; replace BK372 := kb BK372 hb; replace BK373 := kb BK373 hb; replace BK374 := kb BK374 hb; replace HB := kB HB hb; (try clear hb); (try clear hb2); (try clear hk); (try clear hi); (try clear ho0); have hcz56_0 : w55.cell? ⟨gb374, 0, none⟩ = some (.bool false) := kc BK374 0; have hcz56_1 : w55.cell? ⟨gb374, 1, none⟩ = some (.slice none 0 0) := kc BK374 1; have hfz56_0 := blk_frozen BK374.out 0; have hfz56_1 := blk_frozen BK374.out 1; obtain ⟨Ao57, co57, eo57⟩ := Kd.V_slice HO381.out; subst eo57)); try go_wp2_with (first | (go_at_call 75; (with_reducible refine (cobwebref01_trim.calls k1 (!(a0_0 == a1_0)) (fun k_ => some k_ = (.slice Ao54 x5_1.length co54 : Value).ownBlock) _ _ x5_1 t378 t379 _ ?side1 A48.out).mono ?_); (case side1 => exact Kd.R_V (Kd.R_tight rfl (Kd.R_types (Kd.R_types (Kd.R_types (HO_5.out) BK372.out (by decide)) BK373.out (by decide)) BK374.out (by decide)))); rintro e w55 ⟨v380, rfl, ho0, hb⟩; have HO381 := Aside0.mk (Kd.V_lower (Kd.V_mono (ok' := fun k_ => (w.heap.size ≤ k_) ∧ k_ ≠ gb372 ∧ k_ ≠ gb373 ∧ k_ ≠ gb374) ho0 (fun k_ hk_ => ⟨Or.elim hk_ (fun hs_ => ((Kd.R_types (Kd.R_types (Kd.R_types (HO_5.out) BK372.out (by decide)) BK373.out (by decide)) BK374.out (by decide)).1 k_ hs_.symm).1.1.1) (fun hn_ => (Nat.le_trans (ko HB) hn_)), Or.elim hk_ (fun hs_ => ((Kd.R_types (Kd.R_types (Kd.R_types (HO_5.out) BK372.out (by decide)) BK373.out (by decide)) BK374.out (by decide)).1 k_ hs_.symm).1.1.2) (fun hn_ => (Kd.freshB (g := gb372) (o := .cells #[.bool a0_0, .slice A0_1 l0_1.length c0_1] 33 (0, 0)) (kx BK372) k_ hn_)), Or.elim hk_ (fun hs_ => ((Kd.R_types (Kd.R_types (Kd.R_types (HO_5.out) BK372.out (by decide)) BK373.out (by decide)) BK374.out (by decide)).1 k_ hs_.symm).1.2) (fun hn_ => (Kd.freshB (g := gb373) (o := .cells #[.bool a1_0, .slice A1_1 l1_1.length c1_1] 33 (0, 0)) (kx BK373) k_ hn_)), Or.elim hk_ (fun hs_ => ((Kd.R_types (Kd.R_types (Kd.R_types (HO_5.out) BK372.out (by decide)) BK373.out (by decide)) BK374.out (by decide)).1 k_ hs_.symm).2) (fun hn_ => (Kd.freshB (g := gb374) (o := .cells #[.bool false, .slice none 0 0] 33 (0, 0)) (kx BK374) k_ hn_))⟩)) (ko HB)); replace HO_5 := kR HO_5 hb; replace BK372 := kb BK372 hb; replace BK373 := kb BK373 hb; replace BK374 := kb BK374 hb; replace HB := kB HB hb; (try clear hb); (try clear hb2); (try clear hk); (try clear hi); (try clear ho0); have hcz56_0 : w55.cell? ⟨gb374, 0, none⟩ = some (.bool false) := kc BK374 0; have hcz56_1 : w55.cell? ⟨gb374, 1, none⟩ = some (.slice none 0 0) := kc BK374 1; have hfz56_0 := blk_frozen BK374.out 0; have hfz56_1 := blk_frozen BK374.out 1; obtain ⟨Ao57, co57, eo57⟩ := Kd.V_slice HO381.out; subst eo57)))
    refine bodyPost_ret (results_cell_row rfl _ _ gb374 33 #[.bool t378, .slice Ao57 t379.length co57] (0, 0) _ rfl (by (with_reducible repeat (first | refine zr ?_ _ | refine zw ?_ | refine za ?_ _)); refine blk_put (cs := #[.bool t378, .slice none 0 0]) ?_ 1 _ rfl; (with_reducible repeat (first | refine zr ?_ _ | refine zw ?_ | refine za ?_ _)); refine blk_put (cs := #[.bool false, .slice none 0 0]) ?_ 0 _ rfl; (with_reducible repeat (first | refine zr ?_ _ | refine zw ?_ | refine za ?_ _)); exact BK374.out) Try.underlying33 rfl (by kernel_rfl)) rfl ?_; exact ⟨_, by first | rfl | (simp [errW_none, errW_some] <;> rfl) | (simp only [← hji3]; first | rfl | (simp [errW_none, errW_some] <;> rfl)) | (simp [*, errW_none, errW_some] <;> rfl), by (with_reducible repeat (first | apply Kd.V_alloc | apply Kd.V_drewN | apply Kd.V_drew)); exact Kd.V_mono (Kd.V_far (p := ⟨gb374, 1, none⟩) (Kd.V_far (p := ⟨gb374, 0, none⟩) (Kd.V_mono HO381.out (fun k_ hk => (⟨hk, hk.2.2.2⟩ : _ ∧ k_ ≠ gb374))) (fun _ hk => hk.2) (.bool t378)) (fun _ hk => hk.2) (.slice Ao57 t379.length co57)) (fun _ hk => hk.1.1), ky HB⟩
   rw [if_pos c16] at H
   have c16b0 : decide (x6_1 < (l0_1.length : Int)) = true := decide_eq_true c16; clear c16; have H' := Aside0.mk H; clear H; have hnb17 := NB372_373.out; have hnc17 := NB373_372.out; have hnb18 := NB372_374.out; have hnc18 := NB374_372.out; obtain ⟨hcz19_0, hcz19_1⟩ := kc2 BK372; obtain ⟨hfz19_0, hfz19_1⟩ := kf2 BK372
   go_wp2
   repeat (go_quiet (fail); try go_wp2)
   go_loopg [7, 8] k1 (fun kq v7 v8 w' => ∃ (x5_2 : List Int) (x7_2 : Int) (x8_2 : Int), v7 = .int .i64 x7_2 ∧ v8 = .int .i64 x8_2 ∧ Aside0 (cobwebref01_Mul.l1 kq x5_2 x6_1 x7_2 x8_2 a0_0 l0_1 a1_0 l1_1 = some (r1, r2)) ∧ Aside0 (kq ≤ k1) ∧ Aside0 (Kd.R (Kd.int .i64) 3 w' w.heap.size (fun k_ => (w.heap.size ≤ k_)) v376 x5_2) ∧ Aside0 (w'.heap[gb372]? = some (.cells #[.bool a0_0, (.slice A0_1 l0_1.length c0_1)] 33 (0, 0))) ∧ Aside0 (w'.heap[gb373]? = some (.cells #[.bool a1_0, (.slice A1_1 l1_1.length c1_1)] 33 (0, 0))) ∧ Aside0 (w'.heap[gb374]? = some (.cells #[.bool false, (.slice none 0 0)] 33 (0, 0))) ∧ Aside0 (Below w.heap.size w w'))
   case atStart => exact ⟨(x5_1), (0), (0), (by first | rfl | (simp; done) | (simp [*]; done)), (by first | rfl | (simp; done) | (simp [*]; done)), H', ⟨Nat.le_refl _⟩, ⟨by (with_reducible repeat (first | apply Kd.R_alloc | apply Kd.R_drewN | apply Kd.R_drew)); exact HO_5.out⟩, ⟨kx BK372⟩, ⟨kx BK373⟩, ⟨kx BK374⟩, ⟨ky HB⟩⟩
   case round =>
    clear H'
    try clear c1; try clear p2; try clear c4; try clear c4b0; try clear c4b1; try clear c5; try clear c5b0; try clear c5b1; try clear p6; try clear c9; try clear c10; try clear c12; try clear c16; try clear c16b0; try clear c17; try clear c18; try clear hcz11_0; try clear hcz11_1; try clear hcz13_0; try clear hcz13_1; try clear hcz19_0; try clear hcz19_1; try clear hfz11_0; try clear hfz11_1; try clear hfz13_0; try clear hfz13_1; try clear hfz19_0; try clear hfz19_1; try clear p2; try clear p6
    obtain ⟨x5_2, x7_2, x8_2, rfl, rfl, HA, HK2, HO_5, BK372, BK373, BK374, HB⟩ := hrel
    cases gk with
    | zero => exact absurd HA.out (by simp [cobwebref01_Mul.l1])
    | succ k2 =>
     have H := HA.out; clear HA
     simp only [cobwebref01_Mul.l1] at H
     have HC20 := Aside0.mk H; clear H
     go_upto_region 7 with (fail)
     repeat (go_quiet (fail); go_upto_region 7 with (fail))
     go_cut [33] (fun v33 wc => ∃ (kq : Nat) (x33_19 : Bool), v33 = .bool x33_19 ∧ Aside0 (cobwebref01_Mul.j2 kq x5_2 x6_1 x7_2 x8_2 x33_19 a0_0 l0_1 a1_0 l1_1 = some (r1, r2)) ∧ Aside0 (kq ≤ k2) ∧ Aside0 (Kd.R (Kd.int .i64) 3 wc w.heap.size (fun k_ => (w.heap.size ≤ k_)) v376 x5_2) ∧ Aside0 (wc.heap[gb372]? = some (.cells #[.bool a0_0, (.slice A0_1 l0_1.length c0_1)] 33 (0, 0))) ∧ Aside0 (wc.heap[gb373]? = some (.cells #[.bool a1_0, (.slice A1_1 l1_1.length c1_1)] 33 (0, 0))) ∧ Aside0 (wc.heap[gb374]? = some (.cells #[.bool false, (.slice none 0 0)] 33 (0, 0))) ∧ Aside0 (Below w.heap.size w wc))
     case first =>
      have H := HC20.out; clear HC20
      by_cases c21 : x8_2 < (l1_1.length : Int)
      ·rw [if_pos c21] at H
       have c21b0 : decide (x8_2 < (l1_1.length : Int)) = true := decide_eq_true c21; clear c21
       (first | rw [c21b0] | (simp only [i64_w, i32_w]; rw [c21b0]) | skip)
       have H' := Aside0.mk H; clear H; have hnb22 := NB373_372.out; have hnc22 := NB372_373.out; have hnb23 := NB373_374.out; have hnc23 := NB374_373.out; obtain ⟨hcz24_0, hcz24_1⟩ := kc2 BK373; obtain ⟨hfz24_0, hfz24_1⟩ := kf2 BK373
       go_wp2
       repeat (go_quiet (fail); try go_wp2)
       go_meet
       case rel => exact ⟨_, (true), (by first | rfl | (simp; done) | (simp [*]; done)), H', ⟨by have := HK1.out; have := HK2.out; first | omega | exact Nat.le_refl _⟩, ⟨by (with_reducible repeat (first | apply Kd.R_alloc | apply Kd.R_drewN | apply Kd.R_drew)); exact HO_5.out⟩, ⟨kx BK372⟩, ⟨kx BK373⟩, ⟨kx BK374⟩, ⟨ky HB⟩⟩
      rw [if_neg c21] at H
      have c21b0 : decide (x8_2 < (l1_1.length : Int)) = false := decide_eq_false c21; clear c21
      (first | rw [c21b0] | (simp only [i64_w, i32_w]; rw [c21b0]) | skip)
      have H' := Aside0.mk H; clear H; have hnb25 := NB373_372.out; have hnc25 := NB372_373.out; have hnb26 := NB373_374.out; have hnc26 := NB374_373.out; obtain ⟨hcz27_0, hcz27_1⟩ := kc2 BK373; obtain ⟨hfz27_0, hfz27_1⟩ := kf2 BK373
      go_wp2
      repeat (go_quiet (fail); try go_wp2)
      go_meet
      case rel => exact ⟨_, (decide (x7_2 > 0)), (by first | rfl | (simp; done) | (simp [*]; done)), H', ⟨by have := HK1.out; have := HK2.out; first | omega | exact Nat.le_refl _⟩, ⟨by (with_reducible repeat (first | apply Kd.R_alloc | apply Kd.R_drewN | apply Kd.R_drew)); exact HO_5.out⟩, ⟨kx BK372⟩, ⟨kx BK373⟩, ⟨kx BK374⟩, ⟨ky HB⟩⟩
     case rest =>
      clear HC20; try clear c1; try clear c2; try clear p2; try clear c4; try clear c4b0; try clear c4b1; try clear c5; try clear c5b0; try clear c5b1; try clear p6; try clear c9; try clear c10; try clear c12; try clear c16; try clear c16b0; try clear c17; try clear c18; try clear c21; try clear c21b0; try clear c22; try clear c23; try clear c25; try clear c26; try clear hcz11_0; try clear hcz11_1; try clear hcz13_0; try clear hcz13_1; try clear hcz19_0; try clear hcz19_1; try clear hcz24_0; try clear hcz24_1; try clear hcz27_0; try clear hcz27_1; try clear hfz11_0; try clear hfz11_1; try clear hfz13_0; try clear hfz13_1; try clear hfz19_0; try clear hfz19_1; try clear hfz24_0; try clear hfz24_1; try clear hfz27_0; try clear hfz27_1; try clear p2; try clear p6
      obtain ⟨kq, x33_19, rfl, HA, HJ19, HO_5, BK372, BK373, BK374, HB⟩ := hcut
      cases kq with
      | zero => exact absurd HA.out (by simp [cobwebref01_Mul.j2])
      | succ kj19 =>
       have H := HA.out; clear HA
       simp only [cobwebref01_Mul.j2] at H
       by_cases c28 : x33_19 = true
       rotate_left
       ·replace c28 := Bool.eq_false_iff.mpr c28; subst c28
        rw [if_neg (show ¬ (false = true) by decide)] at H; have H' := Aside0.mk H; clear H
        go_wp2
        repeat (go_quiet (fail); try go_wp2)
        go_roundg kj19
        case measure => have := HK1.out; have := HK2.out; have := HJ19.out; omega
        case rel => exact ⟨(x5_2), (wrap64 (x6_1 + 1)), (by first | rfl | (simp; done) | (simp [*]; done)), H', ⟨by have := HK1.out; have := HK2.out; have := HJ19.out; omega⟩, ⟨by (with_reducible repeat (first | apply Kd.R_alloc | apply Kd.R_drewN | apply Kd.R_drew)); exact HO_5.out⟩, ⟨kx BK372⟩, ⟨kx BK373⟩, ⟨kx BK374⟩, ⟨ky HB⟩⟩
       subst c28
       rw [if_pos rfl] at H; obtain ⟨ji29, hji29⟩ : ∃ j_ : Int, (wrap64 (x6_1 + x8_2)) = j_ := ⟨_, rfl⟩
       replace H : (if 0 ≤ (ji29) then (if (ji29) < (x5_2.length : Int) then (if 0 ≤ x6_1 then (if x6_1 < (l0_1.length : Int) then ((cobwebref01_digit.f l1_1 x8_2).bind fun t384 => ((cobwebref01_base.f).bind fun t385 => (if t385 = 0 then (none) else ((cobwebref01_base.f).bind fun t387 => (if t387 = 0 then (none) else (cobwebref01_Mul.l1 kj19 (x5_2.set ((ji29) : Int).toNat (Int.tmod (wrap64 ((wrap64 (x7_2 + (rd x5_2 (ji29)))) + (wrap64 ((rd l0_1 x6_1) * t384)))) t385)) x6_1 (wrap64 (Int.tdiv (wrap64 ((wrap64 (x7_2 + (rd x5_2 (ji29)))) + (wrap64 ((rd l0_1 x6_1) * t384)))) t387)) (wrap64 (x8_2 + 1)) a0_0 l0_1 a1_0 l1_1)))))) else (none)) else (none)) else (none)) else (none)) = some (r1, r2) := by first | (rw [hji29] at H; exact H) | (simp only [hji29] at H ⊢; exact H)
       have hji29w : (IntKind.i64.wrap (x6_1 + x8_2)) = ji29 := (i64_w _).trans hji29
       by_cases c30 : 0 ≤ (ji29)
       rotate_left
       ·rw [if_neg c30] at H
        exact absurd H (by simp)
       rw [if_pos c30] at H
       have c30b0 : decide (0 ≤ (ji29)) = true := decide_eq_true c30; clear c30
       by_cases c31 : (ji29) < (x5_2.length : Int)
       rotate_left
       ·rw [if_neg c31] at H
        exact absurd H (by simp)
       rw [if_pos c31] at H
       have c31b0 : decide ((ji29) < (x5_2.length : Int)) = true := decide_eq_true c31; clear c31
       by_cases c32 : 0 ≤ x6_1
       rotate_left
       ·rw [if_neg c32] at H
        exact absurd H (by simp)
       rw [if_pos c32] at H
       have c32b0 : decide (0 ≤ x6_1) = true := decide_eq_true c32; clear c32
       by_cases c33 : x6_1 < (l0_1.length : Int)
       rotate_left
       ·rw [if_neg c33] at H
        exact absurd H (by simp)
       rw [if_pos c33] at H
       have c33b0 : decide (x6_1 < (l0_1.length : Int)) = true := decide_eq_true c33; clear c33; replace H := Option.bind_eq_some_iff.mp H; obtain ⟨t384, A340, H⟩ := H; (try dsimp only at H); have A34 := Aside0.mk A340; clear A340; replace H := Option.bind_eq_some_iff.mp H; obtain ⟨t385, A350, H⟩ := H; (try dsimp only at H); have A35 := Aside0.mk A350; clear A350
       by_cases c36 : t385 = 0
       ·rw [if_pos c36] at H
        exact absurd H (by simp)
       rw [if_neg c36] at H
       have c36b0 : (t385 == 0) = false := beq_eq_false_iff_ne.mpr c36; have c36b1 : (t385 != 0) = true := bne_iff_ne.mpr c36; obtain ⟨y386, hy386⟩ : ∃ y_ : List Int, y_ = (x5_2.set ((ji29) : Int).toNat (Int.tmod (wrap64 ((wrap64 (x7_2 + (rd x5_2 (ji29)))) + (wrap64 ((rd l0_1 x6_1) * t384)))) t385)) := ⟨_, rfl⟩
       replace H : ((cobwebref01_base.f).bind fun t387 => (if t387 = 0 then (none) else (cobwebref01_Mul.l1 kj19 y386 x6_1 (wrap64 (Int.tdiv (wrap64 ((wrap64 (x7_2 + (rd x5_2 (ji29)))) + (wrap64 ((rd l0_1 x6_1) * t384)))) t387)) (wrap64 (x8_2 + 1)) a0_0 l0_1 a1_0 l1_1))) = some (r1, r2) := by first | (rw [hy386]; with_reducible exact H) | (have H2_ := (Option.bind_some _ _).symm.trans H; rw [hy386]; with_reducible exact H2_) | (have H2_ := (Option.bind_some _ _).symm.trans H; with_reducible exact H2_) | with_reducible exact H | (rw [hy386]; exact H) | exact H
       have Ny386 := Aside0.mk hy386; clear hy386; replace H := Option.bind_eq_some_iff.mp H; obtain ⟨t387, A380, H⟩ := H; (try dsimp only at H); have A38 := Aside0.mk A380; clear A380
       by_cases c39 : t387 = 0
       ·rw [if_pos c39] at H
        exact absurd H (by simp)
       rw [if_neg c39] at H
       have c39b0 : (t387 == 0) = false := beq_eq_false_iff_ne.mpr c39; have c39b1 : (t387 != 0) = true := bne_iff_ne.mpr c39; have H' := Aside0.mk H; clear H; obtain ⟨Ao40, co40, eo40⟩ := Kd.R_slice HO_5.out; subst eo40; have p382 : 0 ≤ ((ji29) : Int) := of_decide_eq_true (by first | (with_reducible assumption) | assumption); have q382 : (ji29) < (x5_2.length : Int) := of_decide_eq_true (by first | (with_reducible assumption) | assumption); obtain ⟨ad382, e382, hx382_0⟩ := Kd.at_int (Kd.R_reads' HO_5.out).2.2 (ji29) p382 q382
       cases e382
       replace p382 := eq_true p382; replace q382 := eq_true q382; have hnb41 := NB372_373.out; have hnc41 := NB373_372.out; have hnb42 := NB372_374.out; have hnc42 := NB374_372.out; obtain ⟨hcz43_0, hcz43_1⟩ := kc2 BK372; obtain ⟨hfz43_0, hfz43_1⟩ := kf2 BK372; have p383 : 0 ≤ (x6_1 : Int) := of_decide_eq_true (by first | (with_reducible assumption) | assumption); have q383 : x6_1 < (l0_1.length : Int) := of_decide_eq_true (by first | (with_reducible assumption) | assumption); obtain ⟨ad383, e383, hx383_0⟩ := Kd.at_int HR0_1.out x6_1 p383 q383
       cases e383
       replace hx383_0 := (HB.out.cell (World.block_lt_of_cell? w _ hx383_0)).trans hx383_0; replace p383 := eq_true p383; replace q383 := eq_true q383; have hnb44 := NB373_374.out; have hnc44 := NB374_373.out; obtain ⟨hcz45_0, hcz45_1⟩ := kc2 BK373; obtain ⟨hfz45_0, hfz45_1⟩ := kf2 BK373
       go_wp2_with (first | (go_at_call 73; (with_reducible refine (cobwebref01_digit.calls _ _ l1_1 x8_2 t384 _ ?side1 ?side2 A34.out).mono ?_); (case side1 => exact kQ (Kd.C_below HR1_1.out HB.out)); (case side2 => exact HC1_1.out); rintro e w' ⟨rfl, ⟨nd, rfl⟩⟩; (try first | exact ⟨rfl, _, World.drewN_drewN _ _ _⟩ | exact ⟨rfl, _, Eq.trans (World.drewN_drewN _ _ _) (congrArg (World.drewN _) (Nat.add_assoc _ _ _))⟩)) | (go_at_call 74; (with_reducible refine (cobwebref01_base.calls  t385 _ A35.out).mono ?_); rintro e w' ⟨rfl, ⟨nd, rfl⟩⟩; (try first | exact ⟨rfl, _, World.drewN_drewN _ _ _⟩ | exact ⟨rfl, _, Eq.trans (World.drewN_drewN _ _ _) (congrArg (World.drewN _) (Nat.add_assoc _ _ _))⟩); have p37 : 0 ≤ ((ji29) : Int) := of_decide_eq_true (by first | (with_reducible assumption) | assumption); have q37 : ((ji29) : Int) < ((x5_2.length : Int) : Int) := of_decide_eq_true (by first | (with_reducible assumption) | assumption); obtain ⟨go37, co37, eo37, gb37, gl37, cl37, HG37⟩ := Kd.R_form HO_5.out (by omega); (first | cases eo37 | (injection eo37 with ea_ en_ ec_; (first | subst ea_ | (injection ea_ with ea_; subst ea_)); subst ec_; clear en_)); have GB37 := Aside0.mk gb37; have GG37 := Aside0.mk HG37; clear gb37 gl37 HG37; (first | simp only [add_plain] at hx382_0 | skip); obtain ⟨hx37_0, hf37_0⟩ := Kd.R_celln 0 HO_5.out ((ji29) : Int) p37 q37; replace p37 := eq_true p37; replace q37 := eq_true q37; obtain ⟨hy46_, hz46_⟩ := Kd.R_celln 0 HO_5.out ((ji29) : Int) (of_decide_eq_true (by first | (with_reducible assumption) | assumption)) (of_decide_eq_true (by first | (with_reducible assumption) | assumption)); have HP46 := Kd.R_putg HO_5.out ((ji29) : Int) (Int.tmod (wrap64 ((wrap64 (x7_2 + (rd x5_2 (ji29)))) + (wrap64 ((rd l0_1 x6_1) * t384)))) t385)) | ((with_reducible refine gate_store (t := 3) (p := 62) rfl ?_); (try (rw [drewN_self wc]; generalize hq_ : World.drewN wc _ = wc; have n0_ := Aside0.mk (Kd.R_at hq_ HO_5.out); have n1_ := Aside0.mk (blk_at hq_ BK372.out); have n2_ := Aside0.mk (blk_at hq_ BK373.out); have n3_ := Aside0.mk (blk_at hq_ BK374.out); have n4_ := Aside0.mk (below_at hq_ HB.out); clear hq_ HO_5 BK372 BK373 BK374 HB; have HO_5 := n0_; have BK372 := n1_; have BK373 := n2_; have BK374 := n3_; have HB := n4_; clear n0_ n1_ n2_ n3_ n4_; (try (obtain ⟨hy46_, hz46_⟩ := Kd.R_celln 0 HO_5.out ((ji29) : Int) (of_decide_eq_true (by first | (with_reducible assumption) | assumption)) (of_decide_eq_true (by first | (with_reducible assumption) | assumption)))); (try (have HP46 := Kd.R_putg HO_5.out ((ji29) : Int) (Int.tmod (wrap64 ((wrap64 (x7_2 + (rd x5_2 (ji29)))) + (wrap64 ((rd l0_1 x6_1) * t384)))) t385))))); refine store_event (t := 3) (p := 62) (v := ?vo_w47) (w1 := (wc.setCell ⟨go37, ((ji29) : Int).toNat, none⟩ (.int .i64 (Int.tmod (wrap64 ((wrap64 (x7_2 + (rd x5_2 (ji29)))) + (wrap64 ((rd l0_1 x6_1) * t384)))) t385)))) ?hg ?ho ?hn ?hr ?_; (case ho => rfl); (case hg => rfl); (case hn => rfl); (case hr => first | (go_simp; done) | (go_simp; rfl)); intro w47 hw; have hg : wc.grownBy w47 (some go37) := (by rw [hw]; exact HP46.2); have hp_ : Kd.R (Kd.int .i64) 3 w47 w.heap.size (fun k_ => (w.heap.size ≤ k_)) (.slice (some ⟨go37, 0, none⟩) x5_2.length co40) y386 := (by rw [hw, Ny386.out]; exact HP46.1); clear HP46; have n0_ := Aside0.mk (hp_); have n1_ := Aside0.mk (blk_grown (g := gb372) (o := .cells #[.bool a0_0, .slice (some ad383) l0_1.length c0_1] 33 (0, 0)) (kx BK372) hg (Kd.R_ne HO_5.out BK372.out (by decide))); have n2_ := Aside0.mk (blk_grown (g := gb373) (o := .cells #[.bool a1_0, .slice A1_1 l1_1.length c1_1] 33 (0, 0)) (kx BK373) hg (Kd.R_ne HO_5.out BK373.out (by decide))); have n3_ := Aside0.mk (blk_grown (g := gb374) (o := .cells #[.bool false, .slice none 0 0] 33 (0, 0)) (kx BK374) hg (Kd.R_ne HO_5.out BK374.out (by decide))); have n4_ := Aside0.mk ((by rw [hw]; exact below_set (HB.out) GB37.out : Below w.heap.size w w47)); clear HO_5; clear BK372; clear BK373; clear BK374; clear HB; have HO_5 := n0_; have BK372 := n1_; have BK373 := n2_; have BK374 := n3_; have HB := n4_; clear n0_ n1_ n2_ n3_ n4_; clear hg hw hp_) | (go_at_call 74; (with_reducible refine (cobwebref01_base.calls  t387 _ A38.out).mono ?_); rintro e w' ⟨rfl, ⟨nd, rfl⟩⟩; (try first | exact ⟨rfl, _, World.drewN_drewN _ _ _⟩ | exact ⟨rfl, _, Eq.trans (World.drewN_drewN _ _ _) (congrArg (World.drewN _) (Nat.add_assoc _ _ _))⟩)))
       repeat (go_quiet (first | (go_at_call 73; (with_reducible refine (cobwebref01_digit.calls _ _ l1_1 x8_2 t384 _ ?side1 ?side2 A34.out).mono ?_); (case side1 => exact kQ (Kd.C_below HR1_1.out HB.out)); (case side2 => exact HC1_1.out); rintro e w' ⟨rfl, ⟨nd, rfl⟩⟩; (try first | exact ⟨rfl, _, World.drewN_drewN _ _ _⟩ | exact ⟨rfl, _, Eq.trans (World.drewN_drewN _ _ _) (congrArg (World.drewN _) (Nat.add_assoc _ _ _))⟩)) | (go_at_call 74; (with_reducible refine (cobwebref01_base.calls  t385 _ A35.out).mono ?_); rintro e w' ⟨rfl, ⟨nd, rfl⟩⟩; (try first | exact ⟨rfl, _, World.drewN_drewN _ _ _⟩ | exact ⟨rfl, _, Eq.trans (World.drewN_drewN _ _ _) (congrArg (World.drewN _) (Nat.add_assoc _ _ _))⟩); have p37 : 0 ≤ ((ji29) : Int) := of_decide_eq_true (by first | (with_reducible assumption) | assumption); have q37 : ((ji29) : Int) < ((x5_2.length : Int) : Int) := of_decide_eq_true (by first | (with_reducible assumption) | assumption); obtain ⟨go37, co37, eo37, gb37, gl37, cl37, HG37⟩ := Kd.R_form HO_5.out (by omega); (first | cases eo37 | (injection eo37 with ea_ en_ ec_; (first | subst ea_ | (injection ea_ with ea_; subst ea_)); subst ec_; clear en_)); have GB37 := Aside0.mk gb37; have GG37 := Aside0.mk HG37; clear gb37 gl37 HG37; (first | simp only [add_plain] at hx382_0 | skip); obtain ⟨hx37_0, hf37_0⟩ := Kd.R_celln 0 HO_5.out ((ji29) : Int) p37 q37; replace p37 := eq_true p37; replace q37 := eq_true q37; obtain ⟨hy46_, hz46_⟩ := Kd.R_celln 0 HO_5.out ((ji29) : Int) (of_decide_eq_true (by first | (with_reducible assumption) | assumption)) (of_decide_eq_true (by first | (with_reducible assumption) | assumption)); have HP46 := Kd.R_putg HO_5.out ((ji29) : Int) (Int.tmod (wrap64 ((wrap64 (x7_2 + (rd x5_2 (ji29)))) + (wrap64 ((rd l0_1 x6_1) * t384)))) t385)) | ((with_reducible refine gate_store (t := 3) (p := 62) rfl ?_); (try (rw [drewN_self wc]; generalize hq_ : World.drewN wc _ = wc; have n0_ := Aside0.mk (Kd.R_at hq_ HO_5.out); have n1_ := Aside0.mk (blk_at hq_ BK372.out); have n2_ := Aside0.mk (blk_at hq_ BK373.out); have n3_ := Aside0.mk (blk_at hq_ BK374.out); have n4_ := Aside0.mk (below_at hq_ HB.out); clear hq_ HO_5 BK372 BK373 BK374 HB; have HO_5 := n0_; have BK372 := n1_; have BK373 := n2_; have BK374 := n3_; have HB := n4_; clear n0_ n1_ n2_ n3_ n4_; (try (obtain ⟨hy46_, hz46_⟩ := Kd.R_celln 0 HO_5.out ((ji29) : Int) (of_decide_eq_true (by first | (with_reducible assumption) | assumption)) (of_decide_eq_true (by first | (with_reducible assumption) | assumption)))); (try (have HP46 := Kd.R_putg HO_5.out ((ji29) : Int) (Int.tmod (wrap64 ((wrap64 (x7_2 + (rd x5_2 (ji29)))) + (wrap64 ((rd l0_1 x6_1) * t384)))) t385))))); refine store_event (t := 3) (p := 62) (v := ?vo_w47) (w1 := (wc.setCell ⟨go37, ((ji29) : Int).toNat, none⟩ (.int .i64 (Int.tmod (wrap64 ((wrap64 (x7_2 + (rd x5_2 (ji29)))) + (wrap64 ((rd l0_1 x6_1) * t384)))) t385)))) ?hg ?ho ?hn ?hr ?_; (case ho => rfl); (case hg => rfl); (case hn => rfl); (case hr => first | (go_simp; done) | (go_simp; rfl)); intro w47 hw; have hg : wc.grownBy w47 (some go37) := (by rw [hw]; exact HP46.2); have hp_ : Kd.R (Kd.int .i64) 3 w47 w.heap.size (fun k_ => (w.heap.size ≤ k_)) (.slice (some ⟨go37, 0, none⟩) x5_2.length co40) y386 := (by rw [hw, Ny386.out]; exact HP46.1); clear HP46; have n0_ := Aside0.mk (hp_); have n1_ := Aside0.mk (blk_grown (g := gb372) (o := .cells #[.bool a0_0, .slice (some ad383) l0_1.length c0_1] 33 (0, 0)) (kx BK372) hg (Kd.R_ne HO_5.out BK372.out (by decide))); have n2_ := Aside0.mk (blk_grown (g := gb373) (o := .cells #[.bool a1_0, .slice A1_1 l1_1.length c1_1] 33 (0, 0)) (kx BK373) hg (Kd.R_ne HO_5.out BK373.out (by decide))); have n3_ := Aside0.mk (blk_grown (g := gb374) (o := .cells #[.bool false, .slice none 0 0] 33 (0, 0)) (kx BK374) hg (Kd.R_ne HO_5.out BK374.out (by decide))); have n4_ := Aside0.mk ((by rw [hw]; exact below_set (HB.out) GB37.out : Below w.heap.size w w47)); clear HO_5; clear BK372; clear BK373; clear BK374; clear HB; have HO_5 := n0_; have BK372 := n1_; have BK373 := n2_; have BK374 := n3_; have HB := n4_; clear n0_ n1_ n2_ n3_ n4_; clear hg hw hp_) | (go_at_call 74; (with_reducible refine (cobwebref01_base.calls  t387 _ A38.out).mono ?_); rintro e w' ⟨rfl, ⟨nd, rfl⟩⟩; (try first | exact ⟨rfl, _, World.drewN_drewN _ _ _⟩ | exact ⟨rfl, _, Eq.trans (World.drewN_drewN _ _ _) (congrArg (World.drewN _) (Nat.add_assoc _ _ _))⟩))); try go_wp2_with (first | (go_at_call 73; (with_reducible refine (cobwebref01_digit.calls _ _ l1_1 x8_2 t384 _ ?side1 ?side2 A34.out).mono ?_); (case side1 => exact kQ (Kd.C_below HR1_1.out HB.out)); (case side2 => exact HC1_1.out); rintro e w' ⟨rfl, ⟨nd, rfl⟩⟩; (try first | exact ⟨rfl, _, World.drewN_drewN _ _ _⟩ | exact ⟨rfl, _, Eq.trans (World.drewN_drewN _ _ _) (congrArg (World.drewN _) (Nat.add_assoc _ _ _))⟩)) | (go_at_call 74; (with_reducible refine (cobwebref01_base.calls  t385 _ A35.out).mono ?_); rintro e w' ⟨rfl, ⟨nd, rfl⟩⟩; (try first | exact ⟨rfl, _, World.drewN_drewN _ _ _⟩ | exact ⟨rfl, _, Eq.trans (World.drewN_drewN _ _ _) (congrArg (World.drewN _) (Nat.add_assoc _ _ _))⟩); have p37 : 0 ≤ ((ji29) : Int) := of_decide_eq_true (by first | (with_reducible assumption) | assumption); have q37 : ((ji29) : Int) < ((x5_2.length : Int) : Int) := of_decide_eq_true (by first | (with_reducible assumption) | assumption); obtain ⟨go37, co37, eo37, gb37, gl37, cl37, HG37⟩ := Kd.R_form HO_5.out (by omega); (first | cases eo37 | (injection eo37 with ea_ en_ ec_; (first | subst ea_ | (injection ea_ with ea_; subst ea_)); subst ec_; clear en_)); have GB37 := Aside0.mk gb37; have GG37 := Aside0.mk HG37; clear gb37 gl37 HG37; (first | simp only [add_plain] at hx382_0 | skip); obtain ⟨hx37_0, hf37_0⟩ := Kd.R_celln 0 HO_5.out ((ji29) : Int) p37 q37; replace p37 := eq_true p37; replace q37 := eq_true q37; obtain ⟨hy46_, hz46_⟩ := Kd.R_celln 0 HO_5.out ((ji29) : Int) (of_decide_eq_true (by first | (with_reducible assumption) | assumption)) (of_decide_eq_true (by first | (with_reducible assumption) | assumption)); have HP46 := Kd.R_putg HO_5.out ((ji29) : Int) (Int.tmod (wrap64 ((wrap64 (x7_2 + (rd x5_2 (ji29)))) + (wrap64 ((rd l0_1 x6_1) * t384)))) t385)) | ((with_reducible refine gate_store (t := 3) (p := 62) rfl ?_); (try (rw [drewN_self wc]; generalize hq_ : World.drewN wc _ = wc; have n0_ := Aside0.mk (Kd.R_at hq_ HO_5.out); have n1_ := Aside0.mk (blk_at hq_ BK372.out); have n2_ := Aside0.mk (blk_at hq_ BK373.out); have n3_ := Aside0.mk (blk_at hq_ BK374.out); have n4_ := Aside0.mk (below_at hq_ HB.out); clear hq_ HO_5 BK372 BK373 BK374 HB; have HO_5 := n0_; have BK372 := n1_; have BK373 := n2_; have BK374 := n3_; have HB := n4_; clear n0_ n1_ n2_ n3_ n4_; (try (obtain ⟨hy46_, hz46_⟩ := Kd.R_celln 0 HO_5.out ((ji29) : Int) (of_decide_eq_true (by first | (with_reducible assumption) | assumption)) (of_decide_eq_true (by first | (with_reducible assumption) | assumption)))); (try (have HP46 := Kd.R_putg HO_5.out ((ji29) : Int) (Int.tmod (wrap64 ((wrap64 (x7_2 + (rd x5_2 (ji29)))) + (wrap64 ((rd l0_1 x6_1) * t384)))) t385))))); refine store_event (t := 3) (p := 62) (v := ?vo_w47) (w1 := (wc.setCell ⟨go37, ((ji29) : Int).toNat, none⟩ (.int .i64 (Int.tmod (wrap64 ((wrap64 (x7_2 + (rd x5_2 (ji29)))) + (wrap64 ((rd l0_1 x6_1) * t384)))) t385)))) ?hg ?ho ?hn ?hr ?_; (case ho => rfl); (case hg => rfl); (case hn => rfl); (case hr => first | (go_simp; done) | (go_simp; rfl)); intro w47 hw; have hg : wc.grownBy w47 (some go37) := (by rw [hw]; exact HP46.2); have hp_ : Kd.R (Kd.int .i64) 3 w47 w.heap.size (fun k_ => (w.heap.size ≤ k_)) (.slice (some ⟨go37, 0, none⟩) x5_2.length co40) y386 := (by rw [hw, Ny386.out]; exact HP46.1); clear HP46; have n0_ := Aside0.mk (hp_); have n1_ := Aside0.mk (blk_grown (g := gb372) (o := .cells #[.bool a0_0, .slice (some ad383) l0_1.length c0_1] 33 (0, 0)) (kx BK372) hg (Kd.R_ne HO_5.out BK372.out (by decide))); have n2_ := Aside0.mk (blk_grown (g := gb373) (o := .cells #[.bool a1_0, .slice A1_1 l1_1.length c1_1] 33 (0, 0)) (kx BK373) hg (Kd.R_ne HO_5.out BK373.out (by decide))); have n3_ := Aside0.mk (blk_grown (g := gb374) (o := .cells #[.bool false, .slice none 0 0] 33 (0, 0)) (kx BK374) hg (Kd.R_ne HO_5.out BK374.out (by decide))); have n4_ := Aside0.mk ((by rw [hw]; exact below_set (HB.out) GB37.out : Below w.heap.size w w47)); clear HO_5; clear BK372; clear BK373; clear BK374; clear HB; have HO_5 := n0_; have BK372 := n1_; have BK373 := n2_; have BK374 := n3_; have HB := n4_; clear n0_ n1_ n2_ n3_ n4_; clear hg hw hp_) | (go_at_call 74; (with_reducible refine (cobwebref01_base.calls  t387 _ A38.out).mono ?_); rintro e w' ⟨rfl, ⟨nd, rfl⟩⟩; (try first | exact ⟨rfl, _, World.drewN_drewN _ _ _⟩ | exact ⟨rfl, _, Eq.trans (World.drewN_drewN _ _ _) (congrArg (World.drewN _) (Nat.add_assoc _ _ _))⟩))))
       go_roundg kj19
       case measure => have := HK1.out; have := HK2.out; have := HJ19.out; omega
       case rel => exact ⟨(y386), (wrap64 (Int.tdiv (wrap64 ((wrap64 (x7_2 + (rd x5_2 (ji29)))) + (wrap64 ((rd l0_1 x6_1) * t384)))) t387)), (wrap64 (x8_2 + 1)), (by first | rfl | (simp; done) | (simp only [← hji29] <;> (first | rfl | simp)) | (simp [*]; done)), (by first | rfl | (simp; done) | (simp [*]; done)), H', ⟨by have := HK1.out; have := HK2.out; have := HJ19.out; omega⟩, ⟨by (with_reducible repeat (first | apply Kd.R_alloc | apply Kd.R_drewN | apply Kd.R_drew)); exact HO_5.out⟩, ⟨kx BK372⟩, ⟨kx BK373⟩, ⟨kx BK374⟩, ⟨ky HB⟩⟩
/-! ### cobwebref01_Of: function 33 -/
def cobwebref01_Of.l0 : Nat → Int → Bool → List Int → Option (Bool × List Int)
 | 0, _, _, _ => none
 | k + 1, x0, x401000, x401001 => if x0 = 0 then (some (x401000, x401001)) else (if (Int.tmod x0 10000) < 0 then (if x401001.length < 17592186044416 then (cobwebref01_Of.l0 k (wrap64 (Int.tdiv x0 10000)) x401000 (x401001 ++ [wrap64 (-(Int.tmod x0 10000))])) else (none)) else (if x401001.length < 17592186044416 then (cobwebref01_Of.l0 k (wrap64 (Int.tdiv x0 10000)) x401000 (x401001 ++ [Int.tmod x0 10000])) else (none)))
def cobwebref01_Of.f (k : Nat) (a0 : Int) : Option (Bool × List Int) := cobwebref01_Of.l0 k a0 (decide (a0 < 0)) ([] : List Int)
theorem cobwebref01_Of.mono_l : ∀ k, (∀ y0 y1 y2, LeO (cobwebref01_Of.l0 k y0 y1 y2) (cobwebref01_Of.l0 (k + 1) y0 y1 y2))
 | 0 => fun _ _ _ r h => by simp [cobwebref01_Of.l0] at h
 | k + 1 => by
  have ih0 := cobwebref01_Of.mono_l k
  ·intro y0 y1 y2
   unfold cobwebref01_Of.l0
   repeat' first
   | (with_reducible exact ih0 _ _ _)
   | (with_reducible exact LeO.refl _)
   | (with_reducible exact LeO.none _)
   | (with_reducible refine LeO.ite ?_ ?_)
   | (with_reducible refine LeO.bind ?_ (fun _ => ?_))
   | exact ih0 _ _ _
   | exact LeO.none _
   | refine LeO.ite ?_ ?_
   | refine LeO.bind ?_ (fun _ => ?_)
theorem cobwebref01_Of.mono : ∀ a0 k, LeO (cobwebref01_Of.f k a0) (cobwebref01_Of.f (k + 1) a0) := by
 intro a0 k; have ih0 := cobwebref01_Of.mono_l k
 unfold cobwebref01_Of.f
 repeat' first
   | (with_reducible exact ih0 _ _ _)
   | (with_reducible exact LeO.refl _)
   | (with_reducible exact LeO.none _)
   | (with_reducible refine LeO.ite ?_ ?_)
   | (with_reducible refine LeO.bind ?_ (fun _ => ?_))
   | exact ih0 _ _ _
   | exact LeO.none _
   | refine LeO.ite ?_ ?_
   | refine LeO.bind ?_ (fun _ => ?_)
set_option maxHeartbeats 8000000 in
set_option maxRecDepth 100000 in
theorem cobwebref01_Of.calls (k : Nat) (a0 : Int) (r1 : Bool) (r2 : List Int) (w : World) (h : cobwebref01_Of.f k a0 = some (r1, r2)) :
  Calls Try.prog 33 #[.int .i64 a0] w fun e w' => ∃ v1_ : Value, e = .returned (.agg #[.bool r1, v1_]) ∧ Kd.R (Kd.int .i64) 3 w' w.heap.size (fun _ => True) v1_ r2 ∧ Below w.heap.size w w' := by
 have hu33 := Try.underlying33; have HB := Aside0.mk (Below.refl w.heap.size w); have H : (cobwebref01_Of.l0 k a0 (decide (a0 < 0)) ([] : List Int)) = some (r1, r2) := h; clear h; have H' := Aside0.mk H; clear H
 go_enter Try.func33, Try.ntmps33
 go_wp2_with (first | ((with_reducible refine gate_dst (N := 2) rfl ?_); refine box_event ?hg (N := 2) ?hd (cs := #[.bool false, .slice none 0 0]) (t := 33) ?hr ?_; (case hd => rfl); (case hg => rfl); (case hr => first | (go_simp; done) | (go_simp; rfl)); intro gb399 hg w2 hbox hb; have BK399 := Aside0.mk (hbox); have GW399 := kS HB hg; have GE399 := kS HB hg; replace HB := kB HB hb; clear hb hbox hg) | ((with_reducible refine gate_dst (N := 3) rfl ?_); refine box_event ?hg (N := 3) ?hd (cs := #[.bool false, .slice none 0 0]) (t := 33) ?hr ?_; (case hd => rfl); (case hg => rfl); (case hr => first | (go_simp; done) | (go_simp; rfl)); intro gb400 hg w3 hbox hb; have BK400 := Aside0.mk (hbox); have GW400 := kS HB hg; have GE400 := kS HB hg; have NB399_400 := kN BK399 hg; have NB400_399 := kM BK399 hg; replace BK399 := kb BK399 hb; replace HB := kB HB hb; clear hb hbox hg; have hnb4 := NB400_399.out; have hnc4 := NB399_400.out; have hcz5_0 : w3.cell? ⟨gb400, 0, none⟩ = some (.bool false) := kc BK400 0; have hcz5_1 : w3.cell? ⟨gb400, 1, none⟩ = some (.slice none 0 0) := kc BK400 1; have hfz5_0 := blk_frozen BK400.out 0; have hfz5_1 := blk_frozen BK400.out 1))
 go_loopg [0] k (fun kq v0 w' => ∃ (x0_1 : Int) (x401001_1 : List Int) (u401001 : Value), v0 = .int .i64 x0_1 ∧ Aside0 (cobwebref01_Of.l0 kq x0_1 (decide (a0 < 0)) x401001_1 = some (r1, r2)) ∧ Aside0 (kq ≤ k) ∧ Aside0 (Kd.R (Kd.int .i64) 3 w' w.heap.size (fun _ => True) u401001 x401001_1) ∧ Aside0 (w'.heap[gb399]? = some (.cells #[.bool false, (.slice none 0 0)] 33 (0, 0))) ∧ Aside0 (w'.heap[gb400]? = some (.cells #[.bool (decide (a0 < 0)), u401001] 33 (0, 0))) ∧ Aside0 (Below w.heap.size w w'))
 case atStart => exact ⟨(a0), (([] : List Int)), (.slice none 0 0), (by first | rfl | (simp; done) | (simp [*]; done)), H', ⟨Nat.le_refl _⟩, ⟨by first | exact Kd.R_nil _ _ _ _ _ | exact Kd.N_nil _ _ _ _ _ | exact Kd.V_nil _ _ _ _ _ | exact Kd.Q_nil _ _ _ _ _ | exact Kd.S_nil _ _ _ _ _⟩, ⟨kx BK399⟩, ⟨by (with_reducible repeat (first | refine zr ?_ _ | refine zw ?_ | refine za ?_ _)); refine blk_put (cs := #[.bool (decide (a0 < 0)), .slice none 0 0]) ?_ 1 _ rfl; (with_reducible repeat (first | refine zr ?_ _ | refine zw ?_ | refine za ?_ _)); refine blk_put (cs := #[.bool false, .slice none 0 0]) ?_ 0 _ rfl; (with_reducible repeat (first | refine zr ?_ _ | refine zw ?_ | refine za ?_ _)); exact BK400.out⟩, ⟨ky HB⟩⟩
 case round =>
  clear H'
  try clear p2; try clear c3; try clear c4; try clear hcz5_0; try clear hcz5_1; try clear hfz5_0; try clear hfz5_1
  obtain ⟨x0_1, x401001_1, u401001, rfl, HA, HK1, HO_401001, BK399, BK400, HB⟩ := hrel
  cases gk with
  | zero => exact absurd HA.out (by simp [cobwebref01_Of.l0])
  | succ k1 =>
   have H := HA.out; clear HA
   simp only [cobwebref01_Of.l0] at H
   by_cases c6 : x0_1 = 0
   ·rw [if_pos c6] at H
    have c6b0 : (x0_1 == 0) = true := beq_iff_eq.mpr c6; have c6b1 : (x0_1 != 0) = false := bne_eq_false_iff_eq.mpr c6; clear c6
    simp only [Option.some.injEq, Prod.mk.injEq] at H
    obtain ⟨rfl, rfl⟩ := H; have hnb7 := NB400_399.out; have hnc7 := NB399_400.out; obtain ⟨hcz8_0, hcz8_1⟩ := kc2 BK400; obtain ⟨hfz8_0, hfz8_1⟩ := kf2 BK400; obtain ⟨hcz9_0, hcz9_1⟩ := kc2 BK399; obtain ⟨hfz9_0, hfz9_1⟩ := kf2 BK399; obtain ⟨Ao10, co10, eo10⟩ := Kd.R_slice HO_401001.out; subst eo10
    go_wp2
    refine bodyPost_ret (results_cell_row rfl _ _ gb399 33 #[.bool (decide (a0 < 0)), .slice Ao10 x401001_1.length co10] (0, 0) _ rfl (by (with_reducible repeat (first | refine zr ?_ _ | refine zw ?_ | refine za ?_ _)); refine blk_put (cs := #[.bool (decide (a0 < 0)), .slice none 0 0]) ?_ 1 _ rfl; (with_reducible repeat (first | refine zr ?_ _ | refine zw ?_ | refine za ?_ _)); refine blk_put (cs := #[.bool false, .slice none 0 0]) ?_ 0 _ rfl; (with_reducible repeat (first | refine zr ?_ _ | refine zw ?_ | refine za ?_ _)); exact BK399.out) Try.underlying33 rfl (by kernel_rfl)) rfl ?_; exact ⟨_, by first | rfl | (simp [errW_none, errW_some] <;> rfl) | (simp [*, errW_none, errW_some] <;> rfl), by (with_reducible repeat (first | apply Kd.R_alloc | apply Kd.R_drewN | apply Kd.R_drew)); exact Kd.R_mono (Kd.R_far (p := ⟨gb399, 1, none⟩) (Kd.R_far (p := ⟨gb399, 0, none⟩) (Kd.R_types HO_401001.out BK399.out (by decide)) (fun _ hk => hk.2) (.bool (decide (a0 < 0)))) (fun _ hk => hk.2) (.slice Ao10 x401001_1.length co10)) (fun _ hk => trivial), ky HB⟩
   rw [if_neg c6] at H
   have c6b0 : (x0_1 == 0) = false := beq_eq_false_iff_ne.mpr c6; have c6b1 : (x0_1 != 0) = true := bne_iff_ne.mpr c6
   by_cases c11 : (Int.tmod x0_1 10000) < 0
   rotate_left
   ·rw [if_neg c11] at H
    have c11b0 : decide ((Int.tmod x0_1 10000) < 0) = false := decide_eq_false c11; clear c11
    by_cases c18 : x401001_1.length < 17592186044416
    rotate_left
    ·rw [if_neg c18] at H
     exact absurd H (by simp)

    rw [if_pos c18] at H
    have LMc18 := Aside0.mk c18; clear c18; obtain ⟨y404, hy404⟩ : ∃ y_ : List Int, y_ = (x401001_1 ++ [Int.tmod x0_1 10000]) := ⟨_, rfl⟩
    replace H : (cobwebref01_Of.l0 k1 (wrap64 (Int.tdiv x0_1 10000)) (decide (a0 < 0)) y404) = some (r1, r2) := by first | (rw [hy404]; with_reducible exact H) | (have H2_ := (Option.bind_some _ _).symm.trans H; rw [hy404]; with_reducible exact H2_) | (have H2_ := (Option.bind_some _ _).symm.trans H; with_reducible exact H2_) | with_reducible exact H | (rw [hy404]; exact H) | exact H
    have Ny404 := Aside0.mk hy404; clear hy404; have H' := Aside0.mk H; clear H; have hnb19 := NB400_399.out; have hnc19 := NB399_400.out; obtain ⟨hcz20_0, hcz20_1⟩ := kc2 BK400; obtain ⟨hfz20_0, hfz20_1⟩ := kf2 BK400
    go_wp2_with (first | ((with_reducible refine gate_builtin (b := .append) (xs := #[.tmp 17, .tmp 19]) rfl ?_); at_builtin; refine Kd.R_append (Kd.int .i64) (w0 := w) w.heap.size rfl (.tmp 17) (.tmp 19) 31 3 (.int .i64 0) 8 rfl Try.underlying31 info3 rfl (by decide) (by omega) u401001 x401001_1 (Int.tmod x0_1 10000) [.int .i64 (Int.tmod x0_1 10000)] (fun _ => True) (fun _ => False) rfl rfl ?aP (fun _ hk => hk.elim) ?aF ?aO ?aB ?aS ?aL ?_; (case aP => exact rfl); (case aB => exact (ky HB)); (case aF => exact (fun _ _ => trivial)); (case aO => exact (kr HO_401001)); (case aS => exact (ko HB)); (case aL => have := LMc18.out; omega); intro v405 w21 ho hb hg hat; rw [← Ny404.out] at ho; have n0_ := Aside0.mk (blk_grown (g := gb399) (o := .cells #[.bool false, .slice none 0 0] 33 (0, 0)) (kx BK399) hg (Kd.R_ne HO_401001.out BK399.out (by decide))); have n1_ := Aside0.mk (blk_grown (g := gb400) (o := .cells #[.bool (decide (a0 < 0)), u401001] 33 (0, 0)) (kx BK400) hg (Kd.R_ne HO_401001.out BK400.out (by decide))); have n2_ := Aside0.mk (hb); have n3_ := Aside0.mk (ho); clear BK399; clear BK400; clear HB; clear HO_401001; have BK399 := n0_; have BK400 := n1_; have HB := n2_; have HO406 := n3_; clear n0_ n1_ n2_ n3_; clear ho hb hg hat; obtain ⟨Ao22, co22, eo22⟩ := Kd.R_slice HO406.out; subst eo22; have hcz23_0 : w21.cell? ⟨gb400, 0, none⟩ = some (.bool (decide (a0 < 0))) := kc BK400 0; have hcz23_1 : w21.cell? ⟨gb400, 1, none⟩ = some (u401001) := kc BK400 1; have hfz23_0 := blk_frozen BK400.out 0; have hfz23_1 := blk_frozen BK400.out 1))
    go_roundg k1
    case measure => have := HK1.out; omega
    case rel => exact ⟨(wrap64 (Int.tdiv x0_1 10000)), (y404), (.slice Ao22 y404.length co22), (by first | rfl | (simp; done) | (simp [*]; done)), H', ⟨by have := HK1.out; omega⟩, ⟨by (with_reducible repeat (first | apply Kd.R_alloc | apply Kd.R_drewN | apply Kd.R_drew)); exact Kd.R_mono (Kd.R_far (p := ⟨gb400, 1, none⟩) (Kd.R_types HO406.out BK400.out (by decide)) (fun _ hk => hk.2) (.slice Ao22 y404.length co22)) (fun _ hk => trivial)⟩, ⟨kx BK399⟩, ⟨by (with_reducible repeat (first | refine zr ?_ _ | refine zw ?_ | refine za ?_ _)); refine blk_put (cs := #[.bool (decide (a0 < 0)), u401001]) ?_ 1 _ rfl; (with_reducible repeat (first | refine zr ?_ _ | refine zw ?_ | refine za ?_ _)); exact BK400.out⟩, ⟨ky HB⟩⟩
   rw [if_pos c11] at H
   have c11b0 : decide ((Int.tmod x0_1 10000) < 0) = true := decide_eq_true c11; clear c11
   by_cases c12 : x401001_1.length < 17592186044416
   rotate_left
   ·rw [if_neg c12] at H
    exact absurd H (by simp)
   rw [if_pos c12] at H
   have LMc12 := Aside0.mk c12; clear c12; obtain ⟨y401, hy401⟩ : ∃ y_ : List Int, y_ = (x401001_1 ++ [wrap64 (-(Int.tmod x0_1 10000))]) := ⟨_, rfl⟩
   replace H : (cobwebref01_Of.l0 k1 (wrap64 (Int.tdiv x0_1 10000)) (decide (a0 < 0)) y401) = some (r1, r2) := by first | (rw [hy401]; with_reducible exact H) | (have H2_ := (Option.bind_some _ _).symm.trans H; rw [hy401]; with_reducible exact H2_) | (have H2_ := (Option.bind_some _ _).symm.trans H; with_reducible exact H2_) | with_reducible exact H | (rw [hy401]; exact H) | exact H
   have Ny401 := Aside0.mk hy401; clear hy401; have H' := Aside0.mk H; clear H; have hnb13 := NB400_399.out; have hnc13 := NB399_400.out; obtain ⟨hcz14_0, hcz14_1⟩ := kc2 BK400; obtain ⟨hfz14_0, hfz14_1⟩ := kf2 BK400
   go_wp2_with (first | ((with_reducible refine gate_builtin (b := .append) (xs := #[.tmp 17, .tmp 19]) rfl ?_); at_builtin; refine Kd.R_append (Kd.int .i64) (w0 := w) w.heap.size rfl (.tmp 17) (.tmp 19) 31 3 (.int .i64 0) 8 rfl Try.underlying31 info3 rfl (by decide) (by omega) u401001 x401001_1 (wrap64 (-(Int.tmod x0_1 10000))) [.int .i64 (wrap64 (-(Int.tmod x0_1 10000)))] (fun _ => True) (fun _ => False) rfl rfl ?aP (fun _ hk => hk.elim) ?aF ?aO ?aB ?aS ?aL ?_; (case aP => exact rfl); (case aB => exact (ky HB)); (case aF => exact (fun _ _ => trivial)); (case aO => exact (kr HO_401001)); (case aS => exact (ko HB)); (case aL => have := LMc12.out; omega); intro v402 w15 ho hb hg hat; rw [← Ny401.out] at ho; have n0_ := Aside0.mk (blk_grown (g := gb399) (o := .cells #[.bool false, .slice none 0 0] 33 (0, 0)) (kx BK399) hg (Kd.R_ne HO_401001.out BK399.out (by decide))); have n1_ := Aside0.mk (blk_grown (g := gb400) (o := .cells #[.bool (decide (a0 < 0)), u401001] 33 (0, 0)) (kx BK400) hg (Kd.R_ne HO_401001.out BK400.out (by decide))); have n2_ := Aside0.mk (hb); have n3_ := Aside0.mk (ho); clear BK399; clear BK400; clear HB; clear HO_401001; have BK399 := n0_; have BK400 := n1_; have HB := n2_; have HO403 := n3_; clear n0_ n1_ n2_ n3_; clear ho hb hg hat; obtain ⟨Ao16, co16, eo16⟩ := Kd.R_slice HO403.out; subst eo16; have hcz17_0 : w15.cell? ⟨gb400, 0, none⟩ = some (.bool (decide (a0 < 0))) := kc BK400 0; have hcz17_1 : w15.cell? ⟨gb400, 1, none⟩ = some (u401001) := kc BK400 1; have hfz17_0 := blk_frozen BK400.out 0; have hfz17_1 := blk_frozen BK400.out 1))
   go_roundg k1
   case measure => have := HK1.out; omega
   case rel => exact ⟨(wrap64 (Int.tdiv x0_1 10000)), (y401), (.slice Ao16 y401.length co16), (by first | rfl | (simp; done) | (simp [*]; done)), H', ⟨by have := HK1.out; omega⟩, ⟨by (with_reducible repeat (first | apply Kd.R_alloc | apply Kd.R_drewN | apply Kd.R_drew)); exact Kd.R_mono (Kd.R_far (p := ⟨gb400, 1, none⟩) (Kd.R_types HO403.out BK400.out (by decide)) (fun _ hk => hk.2) (.slice Ao16 y401.length co16)) (fun _ hk => trivial)⟩, ⟨kx BK399⟩, ⟨by (with_reducible repeat (first | refine zr ?_ _ | refine zw ?_ | refine za ?_ _)); refine blk_put (cs := #[.bool (decide (a0 < 0)), u401001]) ?_ 1 _ rfl; (with_reducible repeat (first | refine zr ?_ _ | refine zw ?_ | refine za ?_ _)); exact BK400.out⟩, ⟨ky HB⟩⟩
end Go.Proofs.Ytpjbniihdndlmab.Q
