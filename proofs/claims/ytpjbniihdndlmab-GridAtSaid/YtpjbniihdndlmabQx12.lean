-- Printed by wip/pp.sh (a session's own turning of the kit's print) for this seat.
import Derived.Test.YtpjbniihdndlmabQx0
import Derived.Test.YtpjbniihdndlmabQx11
namespace Go.Proofs.Ytpjbniihdndlmab.Q
open Go.RowKit Go.Proofs.YtpjbniihdndlmabW.PrintWords Go.Proofs.YtpjbniihdndlmabW.PrintLast Go.Proofs.YtpjbniihdndlmabW.PrintMore
open Go.Proofs.Ytpjbniihdndlmab.H
attribute [local go_sem] hq_add64 hq_sub64 hq_not64 add64c_nn sub64c_nn sub64c_le
attribute [local go_sem] max2_int min2_int max_two min_two max_three min_three max_four min_four   -- for this text's walks alone
set_option linter.unusedVariables false
set_option linter.unusedSimpArgs false

/-! ### cobwebref01_plus: function 79 -/
mutual
def cobwebref01_plus.l0 : Nat → List Int → List Int → List Int → Int → Int → Option (List Int)
 | 0, _, _, _, _, _ => none
 | k + 1, x0, x1, x5, x6, x7 => if x7 < (mx (x0.length : Int) (x1.length : Int)) then (cobwebref01_plus.j1 k x0 x1 x5 x6 x7 true) else (cobwebref01_plus.j1 k x0 x1 x5 x6 x7 (decide (x6 > 0)))
def cobwebref01_plus.j1 : Nat → List Int → List Int → List Int → Int → Int → Bool → Option (List Int)
 | 0, _, _, _, _, _, _ => none
 | k + 1, x0, x1, x5, x6, x7, x18 => if x18 = true then ((cobwebref01_digit.f x0 x7).bind fun t407 => ((cobwebref01_digit.f x1 x7).bind fun t408 => ((cobwebref01_base.f).bind fun t409 => (if t409 = 0 then (none) else (if x5.length < 17592186044416 then ((cobwebref01_base.f).bind fun t413 => (if t413 = 0 then (none) else (cobwebref01_plus.l0 k x0 x1 (x5 ++ [Int.tmod (wrap64 ((wrap64 (x6 + t407)) + t408)) t409]) (wrap64 (Int.tdiv (wrap64 ((wrap64 (x6 + t407)) + t408)) t413)) (wrap64 (x7 + 1))))) else (none)))))) else (some x5)
end
def cobwebref01_plus.f (k : Nat) (l0 : List Int) (l1 : List Int) : Option (List Int) := cobwebref01_plus.l0 k l0 l1 ([] : List Int) 0 0
theorem cobwebref01_plus.mono_l : ∀ k, (∀ y0 y1 y2 y3 y4, LeO (cobwebref01_plus.l0 k y0 y1 y2 y3 y4) (cobwebref01_plus.l0 (k + 1) y0 y1 y2 y3 y4)) ∧ (∀ y0 y1 y2 y3 y4 y5, LeO (cobwebref01_plus.j1 k y0 y1 y2 y3 y4 y5) (cobwebref01_plus.j1 (k + 1) y0 y1 y2 y3 y4 y5))
 | 0 => ⟨fun _ _ _ _ _ r h => by simp [cobwebref01_plus.l0] at h, fun _ _ _ _ _ _ r h => by simp [cobwebref01_plus.j1] at h⟩
 | k + 1 => by
  obtain ⟨ih0, ih1⟩ := cobwebref01_plus.mono_l k; refine ⟨?_, ?_⟩
  ·intro y0 y1 y2 y3 y4
   unfold cobwebref01_plus.l0
   repeat' first
   | (with_reducible exact ih0 _ _ _ _ _)
   | (with_reducible exact ih1 _ _ _ _ _ _)
   | (with_reducible exact LeO.refl _)
   | (with_reducible exact LeO.none _)
   | (with_reducible refine LeO.ite ?_ ?_)
   | (with_reducible refine LeO.bind ?_ (fun _ => ?_))
   | exact ih0 _ _ _ _ _
   | exact ih1 _ _ _ _ _ _
   | exact LeO.none _
   | refine LeO.ite ?_ ?_
   | refine LeO.bind ?_ (fun _ => ?_)
  ·intro y0 y1 y2 y3 y4 y5
   unfold cobwebref01_plus.j1
   repeat' first
   | (with_reducible exact ih0 _ _ _ _ _)
   | (with_reducible exact ih1 _ _ _ _ _ _)
   | (with_reducible exact LeO.refl _)
   | (with_reducible exact LeO.none _)
   | (with_reducible refine LeO.ite ?_ ?_)
   | (with_reducible refine LeO.bind ?_ (fun _ => ?_))
   | exact ih0 _ _ _ _ _
   | exact ih1 _ _ _ _ _ _
   | exact LeO.none _
   | refine LeO.ite ?_ ?_
   | refine LeO.bind ?_ (fun _ => ?_)
theorem cobwebref01_plus.mono : ∀ a0 a1 k, LeO (cobwebref01_plus.f k a0 a1) (cobwebref01_plus.f (k + 1) a0 a1) := by
 intro a0 a1 k; obtain ⟨ih0, ih1⟩ := cobwebref01_plus.mono_l k
 unfold cobwebref01_plus.f
 repeat' first
   | (with_reducible exact ih0 _ _ _ _ _)
   | (with_reducible exact ih1 _ _ _ _ _ _)
   | (with_reducible exact LeO.refl _)
   | (with_reducible exact LeO.none _)
   | (with_reducible refine LeO.ite ?_ ?_)
   | (with_reducible refine LeO.bind ?_ (fun _ => ?_))
   | exact ih0 _ _ _ _ _
   | exact ih1 _ _ _ _ _ _
   | exact LeO.none _
   | refine LeO.ite ?_ ?_
   | refine LeO.bind ?_ (fun _ => ?_)
set_option maxHeartbeats 8000000 in
set_option maxRecDepth 100000 in
theorem cobwebref01_plus.calls (k : Nat) (A0 : Option Addr) (c0 : Nat) (l0 : List Int) (A1 : Option Addr) (c1 : Nat) (l1 : List Int) (r : List Int) (w : World) (hr0 : Kd.C (Kd.int .i64) w A0 l0.length l0) (hc0 : l0.length ≤ c0) (hr1 : Kd.C (Kd.int .i64) w A1 l1.length l1) (hc1 : l1.length ≤ c1) (h : cobwebref01_plus.f k l0 l1 = some r) :
  Calls Try.prog 79 #[.slice A0 l0.length c0, .slice A1 l1.length c1] w fun e w' => ∃ v0_ : Value, e = .returned (v0_) ∧ Kd.R (Kd.int .i64) 3 w' w.heap.size (fun _ => True) v0_ r ∧ Below w.heap.size w w' := by
 have HR0 := Aside0.mk hr0; have HC0 := Aside0.mk hc0; clear hr0 hc0; have HR1 := Aside0.mk hr1; have HC1 := Aside0.mk hc1; clear hr1 hc1; have HB := Aside0.mk (Below.refl w.heap.size w); have H : (cobwebref01_plus.l0 k l0 l1 ([] : List Int) 0 0) = some r := h; clear h; have H' := Aside0.mk H; clear H
 go_enter Try.func79, Try.ntmps79
 go_wp2
 go_loopg [5, 6, 7] k (fun kq v5 v6 v7 w' => ∃ (x5_1 : List Int) (x6_1 : Int) (x7_1 : Int), v6 = .int .i64 x6_1 ∧ v7 = .int .i64 x7_1 ∧ Aside0 (cobwebref01_plus.l0 kq l0 l1 x5_1 x6_1 x7_1 = some r) ∧ Aside0 (kq ≤ k) ∧ Aside0 (Kd.R (Kd.int .i64) 3 w' w.heap.size (fun _ => True) v5 x5_1) ∧ Aside0 (Below w.heap.size w w'))
 case atStart => exact ⟨(([] : List Int)), (0), (0), (by first | rfl | (simp; done) | (simp [*]; done)), (by first | rfl | (simp; done) | (simp [*]; done)), H', ⟨Nat.le_refl _⟩, ⟨by first | exact Kd.R_nil _ _ _ _ _ | exact Kd.N_nil _ _ _ _ _ | exact Kd.V_nil _ _ _ _ _ | exact Kd.Q_nil _ _ _ _ _ | exact Kd.S_nil _ _ _ _ _⟩, ⟨ky HB⟩⟩
 case round =>
  clear H'
  try clear c1; try clear p2
  obtain ⟨x5_1, x6_1, x7_1, rfl, rfl, HA, HK1, HO_5, HB⟩ := hrel
  cases gk with
  | zero => exact absurd HA.out (by simp [cobwebref01_plus.l0])
  | succ k1 =>
   have H := HA.out; clear HA
   simp only [cobwebref01_plus.l0] at H
   have HC3 := Aside0.mk H; clear H
   go_upto_region 4 with (fail)
   go_cut [18] (fun v18 wc => ∃ (kq : Nat) (x18_2 : Bool), v18 = .bool x18_2 ∧ Aside0 (cobwebref01_plus.j1 kq l0 l1 x5_1 x6_1 x7_1 x18_2 = some r) ∧ Aside0 (kq ≤ k1) ∧ Aside0 (Kd.R (Kd.int .i64) 3 wc w.heap.size (fun _ => True) u5 x5_1) ∧ Aside0 (Below w.heap.size w wc))
   case first =>
    have H := HC3.out; clear HC3; obtain ⟨ji4, hji4⟩ : ∃ j_ : Int, (mx (l0.length : Int) (l1.length : Int)) = j_ := ⟨_, rfl⟩
    replace H : (if x7_1 < (ji4) then (cobwebref01_plus.j1 k1 l0 l1 x5_1 x6_1 x7_1 true) else (cobwebref01_plus.j1 k1 l0 l1 x5_1 x6_1 x7_1 (decide (x6_1 > 0)))) = some r := by first | (rw [hji4] at H; exact H) | (simp only [hji4] at H ⊢; exact H)
    (try (have hji4l : 0 ≤ ji4 := by (rw [← hji4]; unfold mx; (repeat' split) <;> omega)))
    (try (have hji4m : 0 ≤ ji4 := by omega))
    have hji4n_ : (if l0.length < l1.length then (l1.length : Int) else (l0.length : Int)) = ji4 := by (simp only [← Int.ofNat_lt]; exact hji4)
    have hji4_ : (if (l0.length : Int) < (l1.length : Int) then (l1.length : Int) else (l0.length : Int)) = ji4 := hji4
    by_cases c5 : x7_1 < (ji4)
    ·rw [if_pos c5] at H
     have c5b0 : decide (x7_1 < (ji4)) = true := decide_eq_true c5; clear c5
     (first | rw [c5b0] | (simp only [i64_w, i32_w]; rw [c5b0]) | skip)
     have H' := Aside0.mk H; clear H
     go_wp2
     go_meet
     case rel => exact ⟨_, (true), (by first | rfl | (simp; done) | (simp [*]; done)), H', ⟨by have := HK1.out; first | omega | exact Nat.le_refl _⟩, ⟨by (with_reducible repeat (first | apply Kd.R_alloc | apply Kd.R_drewN | apply Kd.R_drew)); exact HO_5.out⟩, ⟨ky HB⟩⟩
    rw [if_neg c5] at H
    have c5b0 : decide (x7_1 < (ji4)) = false := decide_eq_false c5; clear c5
    (first | rw [c5b0] | (simp only [i64_w, i32_w]; rw [c5b0]) | skip)
    have H' := Aside0.mk H; clear H
    go_wp2
    go_meet
    case rel => exact ⟨_, (decide (x6_1 > 0)), (by first | rfl | (simp; done) | (simp [*]; done)), H', ⟨by have := HK1.out; first | omega | exact Nat.le_refl _⟩, ⟨by (with_reducible repeat (first | apply Kd.R_alloc | apply Kd.R_drewN | apply Kd.R_drew)); exact HO_5.out⟩, ⟨ky HB⟩⟩
   case rest =>
    clear HC3; try clear c1; try clear p2; try clear c5; try clear c5b0; try clear p2
    obtain ⟨kq, x18_2, rfl, HA, HJ2, HO_5, HB⟩ := hcut
    cases kq with
    | zero => exact absurd HA.out (by simp [cobwebref01_plus.j1])
    | succ kj2 =>
     have H := HA.out; clear HA
     simp only [cobwebref01_plus.j1] at H
     by_cases c6 : x18_2 = true
     rotate_left
     ·replace c6 := Bool.eq_false_iff.mpr c6; subst c6
      rw [if_neg (show ¬ (false = true) by decide)] at H; obtain rfl := Option.some.inj H
      go_wp2
      go_ret
      exact ⟨_, by first | rfl | (simp [errW_none, errW_some] <;> rfl) | (simp [*, errW_none, errW_some] <;> rfl), by (with_reducible repeat (first | apply Kd.R_alloc | apply Kd.R_drewN | apply Kd.R_drew)); exact HO_5.out, ky HB⟩

     subst c6
     rw [if_pos rfl] at H; replace H := Option.bind_eq_some_iff.mp H; obtain ⟨t407, A70, H⟩ := H; (try dsimp only at H); have A7 := Aside0.mk A70; clear A70; replace H := Option.bind_eq_some_iff.mp H; obtain ⟨t408, A80, H⟩ := H; (try dsimp only at H); have A8 := Aside0.mk A80; clear A80; replace H := Option.bind_eq_some_iff.mp H; obtain ⟨t409, A90, H⟩ := H; (try dsimp only at H); have A9 := Aside0.mk A90; clear A90
     by_cases c10 : t409 = 0
     ·rw [if_pos c10] at H
      exact absurd H (by simp)
     rw [if_neg c10] at H
     have c10b0 : (t409 == 0) = false := beq_eq_false_iff_ne.mpr c10; have c10b1 : (t409 != 0) = true := bne_iff_ne.mpr c10
     by_cases c11 : x5_1.length < 17592186044416
     rotate_left
     ·rw [if_neg c11] at H
      exact absurd H (by simp)
     rw [if_pos c11] at H
     have LMc11 := Aside0.mk c11; clear c11; obtain ⟨y410, hy410⟩ : ∃ y_ : List Int, y_ = (x5_1 ++ [Int.tmod (wrap64 ((wrap64 (x6_1 + t407)) + t408)) t409]) := ⟨_, rfl⟩
     replace H : ((cobwebref01_base.f).bind fun t413 => (if t413 = 0 then (none) else (cobwebref01_plus.l0 kj2 l0 l1 y410 (wrap64 (Int.tdiv (wrap64 ((wrap64 (x6_1 + t407)) + t408)) t413)) (wrap64 (x7_1 + 1))))) = some r := by first | (rw [hy410]; with_reducible exact H) | (have H2_ := (Option.bind_some _ _).symm.trans H; rw [hy410]; with_reducible exact H2_) | (have H2_ := (Option.bind_some _ _).symm.trans H; with_reducible exact H2_) | with_reducible exact H | (rw [hy410]; exact H) | exact H
     have Ny410 := Aside0.mk hy410; clear hy410; replace H := Option.bind_eq_some_iff.mp H; obtain ⟨t413, A120, H⟩ := H; (try dsimp only at H); have A12 := Aside0.mk A120; clear A120
     by_cases c13 : t413 = 0
     ·rw [if_pos c13] at H
      exact absurd H (by simp)
     rw [if_neg c13] at H
     have c13b0 : (t413 == 0) = false := beq_eq_false_iff_ne.mpr c13; have c13b1 : (t413 != 0) = true := bne_iff_ne.mpr c13; have H' := Aside0.mk H; clear H
     go_wp2_with (first | ((with_reducible refine gate_callee (f := 73) rfl ?_); refine gL 24 Try.func73 #[.slice A0 l0.length c0, .int .i64 x7_1] ?_; (with_reducible refine (cobwebref01_digit.calls _ _ l0 x7_1 t407 _ ?side1 ?side2 A7.out).mono ?_); (case side1 => exact kQ (Kd.C_below HR0.out HB.out)); (case side2 => exact HC0.out); rintro e w' ⟨rfl, ⟨nd, rfl⟩⟩; refine ⟨_, rfl, ?_⟩) | ((with_reducible refine gate_callee (f := 73) rfl ?_); refine gL 28 Try.func73 #[.slice A1 l1.length c1, .int .i64 x7_1] ?_; (with_reducible refine (cobwebref01_digit.calls _ _ l1 x7_1 t408 _ ?side1 ?side2 A8.out).mono ?_); (case side1 => exact (Kd.C_below HR1.out (ky HB))); (case side2 => exact HC1.out); rintro e w' ⟨rfl, ⟨nd, rfl⟩⟩; refine ⟨_, rfl, ?_⟩) | ((with_reducible refine gate_callee (f := 74) rfl ?_); refine gL 32 Try.func74 #[] ?_; (with_reducible refine (cobwebref01_base.calls  t409 _ A9.out).mono ?_); rintro e w' ⟨rfl, ⟨nd, rfl⟩⟩; refine ⟨_, rfl, ?_⟩) | ((with_reducible refine gate_builtin (b := .append) (xs := #[.tmp 30, .tmp 34]) rfl ?_); at_builtin; refine Kd.R_append (Kd.int .i64) (w0 := w) w.heap.size rfl (.tmp 30) (.tmp 34) 31 3 (.int .i64 0) 8 rfl Try.underlying31 info3 rfl (by decide) (by omega) u5 x5_1 (Int.tmod (wrap64 ((wrap64 (x6_1 + t407)) + t408)) t409) [.int .i64 (Int.tmod (wrap64 ((wrap64 (x6_1 + t407)) + t408)) t409)] (fun _ => True) (fun _ => False) rfl rfl ?aP (fun _ hk => hk.elim) ?aF ?aO ?aB ?aS ?aL ?_; (case aP => exact rfl); (case aB => exact (ky HB)); (case aF => exact (fun _ _ => trivial)); (case aO => exact (kr HO_5)); (case aS => exact (ko HB)); (case aL => have := LMc11.out; omega); intro v411 w14 ho hb hg hat; rw [← Ny410.out] at ho; have n0_ := Aside0.mk (hb); have n1_ := Aside0.mk (ho); clear HB; clear HO_5; have HB := n0_; have HO412 := n1_; clear n0_ n1_; clear ho hb hg hat) | ((with_reducible refine gate_callee (f := 74) rfl ?_); refine gL 37 Try.func74 #[] ?_; (with_reducible refine (cobwebref01_base.calls  t413 _ A12.out).mono ?_); rintro e w' ⟨rfl, ⟨nd, rfl⟩⟩; refine ⟨_, rfl, ?_⟩))
     go_roundg kj2
     case measure => have := HK1.out; have := HJ2.out; omega
     case rel => exact ⟨(y410), (wrap64 (Int.tdiv (wrap64 ((wrap64 (x6_1 + t407)) + t408)) t413)), (wrap64 (x7_1 + 1)), (by first | rfl | (simp; done) | (simp [*]; done)), (by first | rfl | (simp; done) | (simp [*]; done)), H', ⟨by have := HK1.out; have := HJ2.out; omega⟩, ⟨by (with_reducible repeat (first | apply Kd.R_alloc | apply Kd.R_drewN | apply Kd.R_drew)); exact HO412.out⟩, ⟨ky HB⟩⟩
/-! ### cobwebref01_minus: function 80 -/
def cobwebref01_minus.l0 : Nat → List Int → List Int → List Int → Int → Int → Option (List Int)
 | 0, _, _, _, _, _ => none
 | k + 1, x0, x1, x5, x6, x7 => if x7 < (x0.length : Int) then (if 0 ≤ x7 then ((cobwebref01_digit.f x1 x7).bind fun t415 => (if (wrap64 ((wrap64 ((rd x0 x7) - t415)) - x6)) < 0 then ((cobwebref01_base.f).bind fun t416 => (if x5.length < 17592186044416 then (cobwebref01_minus.l0 k x0 x1 (x5 ++ [wrap64 ((wrap64 ((wrap64 ((rd x0 x7) - t415)) - x6)) + t416)]) 1 (wrap64 (x7 + 1))) else (none))) else (if x5.length < 17592186044416 then (cobwebref01_minus.l0 k x0 x1 (x5 ++ [wrap64 ((wrap64 ((rd x0 x7) - t415)) - x6)]) 0 (wrap64 (x7 + 1))) else (none)))) else (none)) else (some x5)
def cobwebref01_minus.f (k : Nat) (l0 : List Int) (l1 : List Int) : Option (List Int) := cobwebref01_minus.l0 k l0 l1 ([] : List Int) 0 0
theorem cobwebref01_minus.mono_l : ∀ k, (∀ y0 y1 y2 y3 y4, LeO (cobwebref01_minus.l0 k y0 y1 y2 y3 y4) (cobwebref01_minus.l0 (k + 1) y0 y1 y2 y3 y4))
 | 0 => fun _ _ _ _ _ r h => by simp [cobwebref01_minus.l0] at h
 | k + 1 => by
  have ih0 := cobwebref01_minus.mono_l k
  ·intro y0 y1 y2 y3 y4
   unfold cobwebref01_minus.l0
   repeat' first
   | (with_reducible exact ih0 _ _ _ _ _)
   | (with_reducible exact LeO.refl _)
   | (with_reducible exact LeO.none _)
   | (with_reducible refine LeO.ite ?_ ?_)
   | (with_reducible refine LeO.bind ?_ (fun _ => ?_))
   | exact ih0 _ _ _ _ _
   | exact LeO.none _
   | refine LeO.ite ?_ ?_
   | refine LeO.bind ?_ (fun _ => ?_)
theorem cobwebref01_minus.mono : ∀ a0 a1 k, LeO (cobwebref01_minus.f k a0 a1) (cobwebref01_minus.f (k + 1) a0 a1) := by
 intro a0 a1 k; have ih0 := cobwebref01_minus.mono_l k
 unfold cobwebref01_minus.f
 repeat' first
   | (with_reducible exact ih0 _ _ _ _ _)
   | (with_reducible exact LeO.refl _)
   | (with_reducible exact LeO.none _)
   | (with_reducible refine LeO.ite ?_ ?_)
   | (with_reducible refine LeO.bind ?_ (fun _ => ?_))
   | exact ih0 _ _ _ _ _
   | exact LeO.none _
   | refine LeO.ite ?_ ?_
   | refine LeO.bind ?_ (fun _ => ?_)
set_option maxHeartbeats 8000000 in
set_option maxRecDepth 100000 in
theorem cobwebref01_minus.calls (k : Nat) (A0 : Option Addr) (c0 : Nat) (l0 : List Int) (A1 : Option Addr) (c1 : Nat) (l1 : List Int) (r : List Int) (w : World) (hr0 : Kd.C (Kd.int .i64) w A0 l0.length l0) (hc0 : l0.length ≤ c0) (hr1 : Kd.C (Kd.int .i64) w A1 l1.length l1) (hc1 : l1.length ≤ c1) (h : cobwebref01_minus.f k l0 l1 = some r) :
  Calls Try.prog 80 #[.slice A0 l0.length c0, .slice A1 l1.length c1] w fun e w' => ∃ v0_ : Value, e = .returned (v0_) ∧ Kd.R (Kd.int .i64) 3 w' w.heap.size (fun _ => True) v0_ r ∧ Below w.heap.size w w' := by
 have HR0 := Aside0.mk hr0; have HC0 := Aside0.mk hc0; clear hr0 hc0; have HR1 := Aside0.mk hr1; have HC1 := Aside0.mk hc1; clear hr1 hc1; have HB := Aside0.mk (Below.refl w.heap.size w); have H : (cobwebref01_minus.l0 k l0 l1 ([] : List Int) 0 0) = some r := h; clear h; have H' := Aside0.mk H; clear H
 go_enter Try.func80, Try.ntmps80
 go_wp2
 repeat (go_quiet (fail); try go_wp2)
 go_loopg [5, 6, 7] k (fun kq v5 v6 v7 w' => ∃ (x5_1 : List Int) (x6_1 : Int) (x7_1 : Int), v6 = .int .i64 x6_1 ∧ v7 = .int .i64 x7_1 ∧ Aside0 (cobwebref01_minus.l0 kq l0 l1 x5_1 x6_1 x7_1 = some r) ∧ Aside0 (kq ≤ k) ∧ Aside0 (Kd.R (Kd.int .i64) 3 w' w.heap.size (fun _ => True) v5 x5_1) ∧ Aside0 (Below w.heap.size w w'))
 case atStart => exact ⟨(([] : List Int)), (0), (0), (by first | rfl | (simp; done) | (simp [*]; done)), (by first | rfl | (simp; done) | (simp [*]; done)), H', ⟨Nat.le_refl _⟩, ⟨by first | exact Kd.R_nil _ _ _ _ _ | exact Kd.N_nil _ _ _ _ _ | exact Kd.V_nil _ _ _ _ _ | exact Kd.Q_nil _ _ _ _ _ | exact Kd.S_nil _ _ _ _ _⟩, ⟨ky HB⟩⟩
 case round =>
  clear H'
  try clear c1; try clear p2
  obtain ⟨x5_1, x6_1, x7_1, rfl, rfl, HA, HK1, HO_5, HB⟩ := hrel
  cases gk with
  | zero => exact absurd HA.out (by simp [cobwebref01_minus.l0])
  | succ k1 =>
   have H := HA.out; clear HA
   simp only [cobwebref01_minus.l0] at H
   by_cases c3 : x7_1 < (l0.length : Int)
   rotate_left
   ·rw [if_neg c3] at H
    have c3b0 : decide (x7_1 < (l0.length : Int)) = false := decide_eq_false c3; clear c3; obtain rfl := Option.some.inj H
    go_wp2
    repeat (go_quiet (fail); try go_wp2)
    go_ret
    exact ⟨_, by first | rfl | (simp [errW_none, errW_some] <;> rfl) | (simp [*, errW_none, errW_some] <;> rfl), by (with_reducible repeat (first | apply Kd.R_alloc | apply Kd.R_drewN | apply Kd.R_drew)); exact HO_5.out, ky HB⟩

   rw [if_pos c3] at H
   have c3b0 : decide (x7_1 < (l0.length : Int)) = true := decide_eq_true c3; clear c3
   by_cases c4 : 0 ≤ x7_1
   rotate_left
   ·rw [if_neg c4] at H
    exact absurd H (by simp)
   rw [if_pos c4] at H
   have c4b0 : decide (0 ≤ x7_1) = true := decide_eq_true c4; clear c4; replace H := Option.bind_eq_some_iff.mp H; obtain ⟨t415, A50, H⟩ := H; (try dsimp only at H); have A5 := Aside0.mk A50; clear A50
   by_cases c6 : (wrap64 ((wrap64 ((rd l0 x7_1) - t415)) - x6_1)) < 0
   rotate_left
   ·rw [if_neg c6] at H
    have c6b0 : decide ((wrap64 ((wrap64 ((rd l0 x7_1) - t415)) - x6_1)) < 0) = false := decide_eq_false c6; clear c6
    by_cases c10 : x5_1.length < 17592186044416
    rotate_left
    ·rw [if_neg c10] at H
     exact absurd H (by simp)
    rw [if_pos c10] at H
    have LMc10 := Aside0.mk c10; clear c10; obtain ⟨y420, hy420⟩ : ∃ y_ : List Int, y_ = (x5_1 ++ [wrap64 ((wrap64 ((rd l0 x7_1) - t415)) - x6_1)]) := ⟨_, rfl⟩
    replace H : (cobwebref01_minus.l0 k1 l0 l1 y420 0 (wrap64 (x7_1 + 1))) = some r := by first | (rw [hy420]; with_reducible exact H) | (have H2_ := (Option.bind_some _ _).symm.trans H; rw [hy420]; with_reducible exact H2_) | (have H2_ := (Option.bind_some _ _).symm.trans H; with_reducible exact H2_) | with_reducible exact H | (rw [hy420]; exact H) | exact H
    have Ny420 := Aside0.mk hy420; clear hy420; have H' := Aside0.mk H; clear H; have p414 : 0 ≤ (x7_1 : Int) := of_decide_eq_true (by first | (with_reducible assumption) | assumption); have q414 : x7_1 < (l0.length : Int) := of_decide_eq_true (by first | (with_reducible assumption) | assumption); obtain ⟨ad414, e414, hx414_0⟩ := Kd.at_int HR0.out x7_1 p414 q414
    cases e414
    replace hx414_0 := (HB.out.cell (World.block_lt_of_cell? w _ hx414_0)).trans hx414_0; replace p414 := eq_true p414; replace q414 := eq_true q414
    go_wp2_with (first | (go_at_call 73; (with_reducible refine (cobwebref01_digit.calls _ _ l1 x7_1 t415 _ ?side1 ?side2 A5.out).mono ?_); (case side1 => exact kQ (Kd.C_below HR1.out HB.out)); (case side2 => exact HC1.out); rintro e w' ⟨rfl, ⟨nd, rfl⟩⟩; (try first | exact ⟨rfl, _, World.drewN_drewN _ _ _⟩ | exact ⟨rfl, _, Eq.trans (World.drewN_drewN _ _ _) (congrArg (World.drewN _) (Nat.add_assoc _ _ _))⟩)) | ((with_reducible refine gate_builtin (b := .append) (xs := #[.tmp 30, .tmp 32]) rfl ?_); at_builtin; refine Kd.R_append (Kd.int .i64) (w0 := w) w.heap.size rfl (.tmp 30) (.tmp 32) 31 3 (.int .i64 0) 8 rfl Try.underlying31 info3 rfl (by decide) (by omega) u5 x5_1 (wrap64 ((wrap64 ((rd l0 x7_1) - t415)) - x6_1)) [.int .i64 (wrap64 ((wrap64 ((rd l0 x7_1) - t415)) - x6_1))] (fun _ => True) (fun _ => False) rfl rfl ?aP (fun _ hk => hk.elim) ?aF ?aO ?aB ?aS ?aL ?_; (case aP => exact rfl); (case aB => exact (ky HB)); (case aF => exact (fun _ _ => trivial)); (case aO => exact (kr HO_5)); (case aS => exact (ko HB)); (case aL => have := LMc10.out; omega); intro v421 w11 ho hb hg hat; rw [← Ny420.out] at ho; have n0_ := Aside0.mk (hb); have n1_ := Aside0.mk (ho); clear HB; clear HO_5; have HB := n0_; have HO422 := n1_; clear n0_ n1_; clear ho hb hg hat))
    repeat (go_quiet (first | (go_at_call 73; (with_reducible refine (cobwebref01_digit.calls _ _ l1 x7_1 t415 _ ?side1 ?side2 A5.out).mono ?_); (case side1 => exact kQ (Kd.C_below HR1.out HB.out)); (case side2 => exact HC1.out); rintro e w' ⟨rfl, ⟨nd, rfl⟩⟩; (try first | exact ⟨rfl, _, World.drewN_drewN _ _ _⟩ | exact ⟨rfl, _, Eq.trans (World.drewN_drewN _ _ _) (congrArg (World.drewN _) (Nat.add_assoc _ _ _))⟩)) | ((with_reducible refine gate_builtin (b := .append) (xs := #[.tmp 30, .tmp 32]) rfl ?_); at_builtin; refine Kd.R_append (Kd.int .i64) (w0 := w) w.heap.size rfl (.tmp 30) (.tmp 32) 31 3 (.int .i64 0) 8 rfl Try.underlying31 info3 rfl (by decide) (by omega) u5 x5_1 (wrap64 ((wrap64 ((rd l0 x7_1) - t415)) - x6_1)) [.int .i64 (wrap64 ((wrap64 ((rd l0 x7_1) - t415)) - x6_1))] (fun _ => True) (fun _ => False) rfl rfl ?aP (fun _ hk => hk.elim) ?aF ?aO ?aB ?aS ?aL ?_; (case aP => exact rfl); (case aB => exact (ky HB)); (case aF => exact (fun _ _ => trivial)); (case aO => exact (kr HO_5)); (case aS => exact (ko HB)); (case aL => have := LMc10.out; omega); intro v421 w11 ho hb hg hat; rw [← Ny420.out] at ho; have n0_ := Aside0.mk (hb); have n1_ := Aside0.mk (ho); clear HB; clear HO_5; have HB := n0_; have HO422 := n1_; clear n0_ n1_; clear ho hb hg hat)); try go_wp2_with (first | (go_at_call 73; (with_reducible refine (cobwebref01_digit.calls _ _ l1 x7_1 t415 _ ?side1 ?side2 A5.out).mono ?_); (case side1 => exact kQ (Kd.C_below HR1.out HB.out)); (case side2 => exact HC1.out); rintro e w' ⟨rfl, ⟨nd, rfl⟩⟩; (try first | exact ⟨rfl, _, World.drewN_drewN _ _ _⟩ | exact ⟨rfl, _, Eq.trans (World.drewN_drewN _ _ _) (congrArg (World.drewN _) (Nat.add_assoc _ _ _))⟩)) | ((with_reducible refine gate_builtin (b := .append) (xs := #[.tmp 30, .tmp 32]) rfl ?_); at_builtin; refine Kd.R_append (Kd.int .i64) (w0 := w) w.heap.size rfl (.tmp 30) (.tmp 32) 31 3 (.int .i64 0) 8 rfl Try.underlying31 info3 rfl (by decide) (by omega) u5 x5_1 (wrap64 ((wrap64 ((rd l0 x7_1) - t415)) - x6_1)) [.int .i64 (wrap64 ((wrap64 ((rd l0 x7_1) - t415)) - x6_1))] (fun _ => True) (fun _ => False) rfl rfl ?aP (fun _ hk => hk.elim) ?aF ?aO ?aB ?aS ?aL ?_; (case aP => exact rfl); (case aB => exact (ky HB)); (case aF => exact (fun _ _ => trivial)); (case aO => exact (kr HO_5)); (case aS => exact (ko HB)); (case aL => have := LMc10.out; omega); intro v421 w11 ho hb hg hat; rw [← Ny420.out] at ho; have n0_ := Aside0.mk (hb); have n1_ := Aside0.mk (ho); clear HB; clear HO_5; have HB := n0_; have HO422 := n1_; clear n0_ n1_; clear ho hb hg hat)))
    go_roundg k1
    case measure => have := HK1.out; omega
    case rel => exact ⟨(y420), (0), (wrap64 (x7_1 + 1)), (by first | rfl | (simp; done) | (simp [*]; done)), (by first | rfl | (simp; done) | (simp [*]; done)), H', ⟨by have := HK1.out; omega⟩, ⟨by (with_reducible repeat (first | apply Kd.R_alloc | apply Kd.R_drewN | apply Kd.R_drew)); exact HO422.out⟩, ⟨ky HB⟩⟩
   rw [if_pos c6] at H
   have c6b0 : decide ((wrap64 ((wrap64 ((rd l0 x7_1) - t415)) - x6_1)) < 0) = true := decide_eq_true c6; clear c6; replace H := Option.bind_eq_some_iff.mp H; obtain ⟨t416, A70, H⟩ := H; (try dsimp only at H); have A7 := Aside0.mk A70; clear A70
   by_cases c8 : x5_1.length < 17592186044416
   rotate_left
   ·rw [if_neg c8] at H
    exact absurd H (by simp)
   rw [if_pos c8] at H
   have LMc8 := Aside0.mk c8; clear c8; obtain ⟨y417, hy417⟩ : ∃ y_ : List Int, y_ = (x5_1 ++ [wrap64 ((wrap64 ((wrap64 ((rd l0 x7_1) - t415)) - x6_1)) + t416)]) := ⟨_, rfl⟩
   replace H : (cobwebref01_minus.l0 k1 l0 l1 y417 1 (wrap64 (x7_1 + 1))) = some r := by first | (rw [hy417]; with_reducible exact H) | (have H2_ := (Option.bind_some _ _).symm.trans H; rw [hy417]; with_reducible exact H2_) | (have H2_ := (Option.bind_some _ _).symm.trans H; with_reducible exact H2_) | with_reducible exact H | (rw [hy417]; exact H) | exact H
   have Ny417 := Aside0.mk hy417; clear hy417; have H' := Aside0.mk H; clear H; have p414 : 0 ≤ (x7_1 : Int) := of_decide_eq_true (by first | (with_reducible assumption) | assumption); have q414 : x7_1 < (l0.length : Int) := of_decide_eq_true (by first | (with_reducible assumption) | assumption); obtain ⟨ad414, e414, hx414_0⟩ := Kd.at_int HR0.out x7_1 p414 q414
   cases e414
   replace hx414_0 := (HB.out.cell (World.block_lt_of_cell? w _ hx414_0)).trans hx414_0; replace p414 := eq_true p414; replace q414 := eq_true q414
   go_wp2_with (first | (go_at_call 73; (with_reducible refine (cobwebref01_digit.calls _ _ l1 x7_1 t415 _ ?side1 ?side2 A5.out).mono ?_); (case side1 => exact kQ (Kd.C_below HR1.out HB.out)); (case side2 => exact HC1.out); rintro e w' ⟨rfl, ⟨nd, rfl⟩⟩; (try first | exact ⟨rfl, _, World.drewN_drewN _ _ _⟩ | exact ⟨rfl, _, Eq.trans (World.drewN_drewN _ _ _) (congrArg (World.drewN _) (Nat.add_assoc _ _ _))⟩)) | (go_at_call 74; (with_reducible refine (cobwebref01_base.calls  t416 _ A7.out).mono ?_); rintro e w' ⟨rfl, ⟨nd, rfl⟩⟩; (try first | exact ⟨rfl, _, World.drewN_drewN _ _ _⟩ | exact ⟨rfl, _, Eq.trans (World.drewN_drewN _ _ _) (congrArg (World.drewN _) (Nat.add_assoc _ _ _))⟩)) | ((with_reducible refine gate_builtin (b := .append) (xs := #[.tmp 30, .tmp 32]) rfl ?_); at_builtin; refine Kd.R_append (Kd.int .i64) (w0 := w) w.heap.size rfl (.tmp 30) (.tmp 32) 31 3 (.int .i64 0) 8 rfl Try.underlying31 info3 rfl (by decide) (by omega) u5 x5_1 (wrap64 ((wrap64 ((wrap64 ((rd l0 x7_1) - t415)) - x6_1)) + t416)) [.int .i64 (wrap64 ((wrap64 ((wrap64 ((rd l0 x7_1) - t415)) - x6_1)) + t416))] (fun _ => True) (fun _ => False) rfl rfl ?aP (fun _ hk => hk.elim) ?aF ?aO ?aB ?aS ?aL ?_; (case aP => exact rfl); (case aB => exact (ky HB)); (case aF => exact (fun _ _ => trivial)); (case aO => exact (kr HO_5)); (case aS => exact (ko HB)); (case aL => have := LMc8.out; omega); intro v418 w9 ho hb hg hat; rw [← Ny417.out] at ho; have n0_ := Aside0.mk (hb); have n1_ := Aside0.mk (ho); clear HB; clear HO_5; have HB := n0_; have HO419 := n1_; clear n0_ n1_; clear ho hb hg hat))
   repeat (go_quiet (first | (go_at_call 73; (with_reducible refine (cobwebref01_digit.calls _ _ l1 x7_1 t415 _ ?side1 ?side2 A5.out).mono ?_); (case side1 => exact kQ (Kd.C_below HR1.out HB.out)); (case side2 => exact HC1.out); rintro e w' ⟨rfl, ⟨nd, rfl⟩⟩; (try first | exact ⟨rfl, _, World.drewN_drewN _ _ _⟩ | exact ⟨rfl, _, Eq.trans (World.drewN_drewN _ _ _) (congrArg (World.drewN _) (Nat.add_assoc _ _ _))⟩)) | (go_at_call 74; (with_reducible refine (cobwebref01_base.calls  t416 _ A7.out).mono ?_); rintro e w' ⟨rfl, ⟨nd, rfl⟩⟩; (try first | exact ⟨rfl, _, World.drewN_drewN _ _ _⟩ | exact ⟨rfl, _, Eq.trans (World.drewN_drewN _ _ _) (congrArg (World.drewN _) (Nat.add_assoc _ _ _))⟩)) | ((with_reducible refine gate_builtin (b := .append) (xs := #[.tmp 30, .tmp 32]) rfl ?_); at_builtin; refine Kd.R_append (Kd.int .i64) (w0 := w) w.heap.size rfl (.tmp 30) (.tmp 32) 31 3 (.int .i64 0) 8 rfl Try.underlying31 info3 rfl (by decide) (by omega) u5 x5_1 (wrap64 ((wrap64 ((wrap64 ((rd l0 x7_1) - t415)) - x6_1)) + t416)) [.int .i64 (wrap64 ((wrap64 ((wrap64 ((rd l0 x7_1) - t415)) - x6_1)) + t416))] (fun _ => True) (fun _ => False) rfl rfl ?aP (fun _ hk => hk.elim) ?aF ?aO ?aB ?aS ?aL ?_; (case aP => exact rfl); (case aB => exact (ky HB)); (case aF => exact (fun _ _ => trivial)); (case aO => exact (kr HO_5)); (case aS => exact (ko HB)); (case aL => have := LMc8.out; omega); intro v418 w9 ho hb hg hat; rw [← Ny417.out] at ho; have n0_ := Aside0.mk (hb); have n1_ := Aside0.mk (ho); clear HB; clear HO_5; have HB := n0_; have HO419 := n1_; clear n0_ n1_; clear ho hb hg hat)); try go_wp2_with (first | (go_at_call 73; (with_reducible refine (cobwebref01_digit.calls _ _ l1 x7_1 t415 _ ?side1 ?side2 A5.out).mono ?_); (case side1 => exact kQ (Kd.C_below HR1.out HB.out)); (case side2 => exact HC1.out); rintro e w' ⟨rfl, ⟨nd, rfl⟩⟩; (try first | exact ⟨rfl, _, World.drewN_drewN _ _ _⟩ | exact ⟨rfl, _, Eq.trans (World.drewN_drewN _ _ _) (congrArg (World.drewN _) (Nat.add_assoc _ _ _))⟩)) | (go_at_call 74; (with_reducible refine (cobwebref01_base.calls  t416 _ A7.out).mono ?_); rintro e w' ⟨rfl, ⟨nd, rfl⟩⟩; (try first | exact ⟨rfl, _, World.drewN_drewN _ _ _⟩ | exact ⟨rfl, _, Eq.trans (World.drewN_drewN _ _ _) (congrArg (World.drewN _) (Nat.add_assoc _ _ _))⟩)) | ((with_reducible refine gate_builtin (b := .append) (xs := #[.tmp 30, .tmp 32]) rfl ?_); at_builtin; refine Kd.R_append (Kd.int .i64) (w0 := w) w.heap.size rfl (.tmp 30) (.tmp 32) 31 3 (.int .i64 0) 8 rfl Try.underlying31 info3 rfl (by decide) (by omega) u5 x5_1 (wrap64 ((wrap64 ((wrap64 ((rd l0 x7_1) - t415)) - x6_1)) + t416)) [.int .i64 (wrap64 ((wrap64 ((wrap64 ((rd l0 x7_1) - t415)) - x6_1)) + t416))] (fun _ => True) (fun _ => False) rfl rfl ?aP (fun _ hk => hk.elim) ?aF ?aO ?aB ?aS ?aL ?_; (case aP => exact rfl); (case aB => exact (ky HB)); (case aF => exact (fun _ _ => trivial)); (case aO => exact (kr HO_5)); (case aS => exact (ko HB)); (case aL => have := LMc8.out; omega); intro v418 w9 ho hb hg hat; rw [← Ny417.out] at ho; have n0_ := Aside0.mk (hb); have n1_ := Aside0.mk (ho); clear HB; clear HO_5; have HB := n0_; have HO419 := n1_; clear n0_ n1_; clear ho hb hg hat)))
   go_roundg k1
   case measure => have := HK1.out; omega
   case rel => exact ⟨(y417), (1), (wrap64 (x7_1 + 1)), (by first | rfl | (simp; done) | (simp [*]; done)), (by first | rfl | (simp; done) | (simp [*]; done)), H', ⟨by have := HK1.out; omega⟩, ⟨by (with_reducible repeat (first | apply Kd.R_alloc | apply Kd.R_drewN | apply Kd.R_drew)); exact HO419.out⟩, ⟨ky HB⟩⟩
/-! ### cobwebref01_Add: function 58 -/
def cobwebref01_Add.f (k : Nat) (a0_0 : Bool) (l0_1 : List Int) (a1_0 : Bool) (l1_1 : List Int) : Option (Bool × List Int) := if (a0_0 == a1_0) = true then ((cobwebref01_plus.f k l0_1 l1_1).bind fun t426 => ((cobwebref01_trim.f k a0_0 t426).bind fun bt429 => (some (bt429.1, bt429.2)))) else ((cobwebref01_size.f k l0_1 l1_1).bind fun t433 => (if t433 ≥ 0 then ((cobwebref01_minus.f k l0_1 l1_1).bind fun t434 => ((cobwebref01_trim.f k a0_0 t434).bind fun bt437 => (some (bt437.1, bt437.2)))) else ((cobwebref01_minus.f k l1_1 l0_1).bind fun t441 => ((cobwebref01_trim.f k a1_0 t441).bind fun bt444 => (some (bt444.1, bt444.2))))))
theorem cobwebref01_Add.mono : ∀ a0 a1 a2 a3 k, LeO (cobwebref01_Add.f k a0 a1 a2 a3) (cobwebref01_Add.f (k + 1) a0 a1 a2 a3) := by
 intro a0 a1 a2 a3 k
 unfold cobwebref01_Add.f
 repeat' first
   | (with_reducible exact cobwebref01_minus.mono _ _ _)
   | (with_reducible exact cobwebref01_plus.mono _ _ _)
   | (with_reducible exact cobwebref01_size.mono _ _ _)
   | (with_reducible exact cobwebref01_trim.mono _ _ _)
   | (with_reducible exact LeO.refl _)
   | (with_reducible exact LeO.none _)
   | (with_reducible refine LeO.ite ?_ ?_)
   | (with_reducible refine LeO.bind ?_ (fun _ => ?_))
   | exact cobwebref01_minus.mono _ _ _
   | exact cobwebref01_plus.mono _ _ _
   | exact cobwebref01_size.mono _ _ _
   | exact cobwebref01_trim.mono _ _ _
   | exact LeO.none _
   | refine LeO.ite ?_ ?_
   | refine LeO.bind ?_ (fun _ => ?_)
def cobwebref01_Add.T2 : Bool × List (List Nat × List Nat) := (true, [([], []), ([0], [0]), ([], []), ([2], [2]), ([], []), ([4], [4]), ([3, 5], [3, 5]), ([1, 6], [1, 6]), ([7, 6], [7]), ([8, 8, 0, 1, 2, 3, 4, 5, 6, 7, 8], [8])])
def cobwebref01_Add.B2 : List Nat := [0, 1, 0, 4, 0, 16, 60, 127, 255, 511]
theorem cobwebref01_Add.tab2 : rtab .any (opsOf Try.f58 2) = cobwebref01_Add.T2 := by kernel_rfl
theorem cobwebref01_Add.bits2 : waitsOk cobwebref01_Add.T2.2 cobwebref01_Add.B2 = true := by kernel_rfl
def cobwebref01_Add.T4 : Bool × List (List Nat × List Nat) := (true, [([], []), ([0], [0]), ([], []), ([2], [2]), ([], []), ([4], [4]), ([3, 5], [3, 5]), ([1, 6], [1, 6]), ([7, 6], [7]), ([8, 8, 0, 1, 2, 3, 4, 5, 6, 7, 8], [8])])
def cobwebref01_Add.B4 : List Nat := [0, 1, 0, 4, 0, 16, 60, 127, 255, 511]
theorem cobwebref01_Add.tab4 : rtab .any (opsOf Try.f58 4) = cobwebref01_Add.T4 := by kernel_rfl
theorem cobwebref01_Add.bits4 : waitsOk cobwebref01_Add.T4.2 cobwebref01_Add.B4 = true := by kernel_rfl
def cobwebref01_Add.T5 : Bool × List (List Nat × List Nat) := (true, [([], []), ([0], [0]), ([], []), ([2], [2]), ([], []), ([4], [4]), ([3, 5], [3, 5]), ([1, 6], [1, 6]), ([7, 6], [7]), ([8, 8, 0, 1, 2, 3, 4, 5, 6, 7, 8], [8])])
def cobwebref01_Add.B5 : List Nat := [0, 1, 0, 4, 0, 16, 60, 127, 255, 511]
theorem cobwebref01_Add.tab5 : rtab .any (opsOf Try.f58 5) = cobwebref01_Add.T5 := by kernel_rfl
theorem cobwebref01_Add.bits5 : waitsOk cobwebref01_Add.T5.2 cobwebref01_Add.B5 = true := by kernel_rfl
set_option maxHeartbeats 8000000 in
set_option maxRecDepth 100000 in
theorem cobwebref01_Add.calls (k : Nat) (a0_0 : Bool) (A0_1 : Option Addr) (c0_1 : Nat) (l0_1 : List Int) (a1_0 : Bool) (A1_1 : Option Addr) (c1_1 : Nat) (l1_1 : List Int) (r1 : Bool) (r2 : List Int) (w : World) (hr0_1 : Kd.C (Kd.int .i64) w A0_1 l0_1.length l0_1) (hc0_1 : l0_1.length ≤ c0_1) (hr1_1 : Kd.C (Kd.int .i64) w A1_1 l1_1.length l1_1) (hc1_1 : l1_1.length ≤ c1_1) (h : cobwebref01_Add.f k a0_0 l0_1 a1_0 l1_1 = some (r1, r2)) :
  Calls Try.prog 58 #[.agg #[.bool a0_0, .slice A0_1 l0_1.length c0_1], .agg #[.bool a1_0, .slice A1_1 l1_1.length c1_1]] w fun e w' => ∃ v1_ : Value, e = .returned (.agg #[.bool r1, v1_]) ∧ Kd.V (Kd.int .i64) 3 w' w.heap.size (fun k_ => (w.heap.size ≤ k_)) v1_ r2 ∧ Below w.heap.size w w' := by
 have hu33 := Try.underlying33; have HR0_1 := Aside0.mk hr0_1; have HC0_1 := Aside0.mk hc0_1; clear hr0_1 hc0_1; have HR1_1 := Aside0.mk hr1_1; have HC1_1 := Aside0.mk hc1_1; clear hr1_1 hc1_1; have HB := Aside0.mk (Below.refl w.heap.size w); have H : (if (a0_0 == a1_0) = true then ((cobwebref01_plus.f k l0_1 l1_1).bind fun t426 => ((cobwebref01_trim.f k a0_0 t426).bind fun bt429 => (some (bt429.1, bt429.2)))) else ((cobwebref01_size.f k l0_1 l1_1).bind fun t433 => (if t433 ≥ 0 then ((cobwebref01_minus.f k l0_1 l1_1).bind fun t434 => ((cobwebref01_trim.f k a0_0 t434).bind fun bt437 => (some (bt437.1, bt437.2)))) else ((cobwebref01_minus.f k l1_1 l0_1).bind fun t441 => ((cobwebref01_trim.f k a1_0 t441).bind fun bt444 => (some (bt444.1, bt444.2))))))) = some (r1, r2) := h; clear h
 by_cases c3 : (a0_0 == a1_0) = true
 ·rw [if_pos c3] at H
  have c3b0 : (a0_0 == a1_0) = true := c3
  (try (have c3b1 : decide (a0_0 = a1_0) = true := by simpa using c3))
  (try (have c3b2 : (a0_0 == a1_0) = true := by simpa using c3))
  clear c3; replace H := Option.bind_eq_some_iff.mp H; obtain ⟨t426, A40, H⟩ := H; (try dsimp only at H); have A4 := Aside0.mk A40; clear A40; replace H := Option.bind_eq_some_iff.mp H; obtain ⟨⟨t429, t430⟩, A50, H⟩ := H; (try dsimp only at H); have A5 := Aside0.mk A50; clear A50
  simp only [Option.some.injEq, Prod.mk.injEq] at H
  obtain ⟨rfl, rfl⟩ := H
  go_enter Try.func58, Try.ntmps58
  try go_wp2_with (first | ((with_reducible refine gate_dst (N := 2) rfl ?_); refine box_event ?hg (N := 2) ?hd (cs := #[.bool a0_0, .slice A0_1 l0_1.length c0_1]) (t := 33) ?hr ?_; (case hd => rfl); (case hg => rfl); (case hr => first | (go_simp; done) | (go_simp; rfl)); intro gb423 hg w6 hbox hb; have BK423 := Aside0.mk (hbox); have GW423 := kS HB hg; have GE423 := kS HB hg; replace HB := kB HB hb; clear hb hbox hg) | ((with_reducible refine gate_dst (N := 3) rfl ?_); refine box_event ?hg (N := 3) ?hd (cs := #[.bool a1_0, .slice A1_1 l1_1.length c1_1]) (t := 33) ?hr ?_; (case hd => rfl); (case hg => rfl); (case hr => first | (go_simp; done) | (go_simp; rfl)); intro gb424 hg w7 hbox hb; have BK424 := Aside0.mk (hbox); have GW424 := kS HB hg; have GE424 := kS HB hg; have NB423_424 := kN BK423 hg; have NB424_423 := kM BK423 hg; replace BK423 := kb BK423 hb; replace HB := kB HB hb; clear hb hbox hg) | ((with_reducible refine gate_dst (N := 4) rfl ?_); refine box_event ?hg (N := 4) ?hd (cs := #[.bool false, .slice none 0 0]) (t := 33) ?hr ?_; (case hd => rfl); (case hg => rfl); (case hr => first | (go_simp; done) | (go_simp; rfl)); intro gb425 hg w8 hbox hb; have BK425 := Aside0.mk (hbox); have GW425 := kS HB hg; have GE425 := kS HB hg; have NB423_425 := kN BK423 hg; have NB425_423 := kM BK423 hg; have NB424_425 := kN BK424 hg; have NB425_424 := kM BK424 hg; replace BK423 := kb BK423 hb; replace BK424 := kb BK424 hb; replace HB := kB HB hb; clear hb hbox hg; have hnb9 := NB423_424.out; have hnc9 := NB424_423.out; have hnb10 := NB423_425.out; have hnc10 := NB425_423.out; have hcz11_0 : w8.cell? ⟨gb423, 0, none⟩ = some (.bool a0_0) := kc BK423 0; have hcz11_1 : w8.cell? ⟨gb423, 1, none⟩ = some (.slice A0_1 l0_1.length c0_1) := kc BK423 1; have hfz11_0 := blk_frozen BK423.out 0; have hfz11_1 := blk_frozen BK423.out 1; have hnb12 := NB424_425.out; have hnc12 := NB425_424.out; have hcz13_0 : w8.cell? ⟨gb424, 0, none⟩ = some (.bool a1_0) := kc BK424 0; have hcz13_1 : w8.cell? ⟨gb424, 1, none⟩ = some (.slice A1_1 l1_1.length c1_1) := kc BK424 1; have hfz13_0 := blk_frozen BK424.out 0; have hfz13_1 := blk_frozen BK424.out 1))
  replace BK423 := Aside0.mk (blk_drew BK423.out); replace BK424 := Aside0.mk (blk_drew BK424.out); replace BK425 := Aside0.mk (blk_drew BK425.out); replace HB := Aside0.mk (below_drew1 HB.out); refine start_ (n := 10) (S := fun w' => w'.cell? ⟨gb423, 0, none⟩ = some (.bool a0_0) ∧ w'.cell? ⟨gb423, 1, none⟩ = some (.slice A0_1 l0_1.length c0_1) ∧ w'.cell? ⟨gb424, 0, none⟩ = some (.bool a1_0) ∧ w'.cell? ⟨gb424, 1, none⟩ = some (.slice A1_1 l1_1.length c1_1)) (ds := []) #[O, O, O, O, O, O, O, O, O, O] (by kernel_rfl) rfl rfl ⟨kc BK423 0, kc BK423 1, kc BK424 0, kc BK424 1⟩ (fun hHeld => ?_); refine with_tabW cobwebref01_Add.tab2 cobwebref01_Add.bits2 (fun HT_ HW_ => ?_)
  generalize w8.drew = w14 at BK423 BK424 BK425 HB hHeld ⊢
  refine pure_ (i := 0) (N := some 10) (v := ?_) (a' := ?_) #[T, O, O, O, O, O, O, O, O, O] rfl rfl (any_of HT_.out (by kernel_rfl)) (fun _ _ _ h => h) (Or.inl ⟨by rfl, ?_⟩) ?_ ?_; rotate_left; focus (intro w'; go_simp; with_reducible rfl)
  rotate_left; focus (simp only [Act.put, s1, s2, s3, i64_w, i32_w]; rfl)
  refine pure_ (i := 2) (N := some 12) (v := ?_) (a' := ?_) #[T, O, T, O, O, O, O, O, O, O] rfl rfl (any_of HT_.out (by kernel_rfl)) (fun _ _ _ h => h) (Or.inl ⟨by rfl, ?_⟩) ?_ ?_; rotate_left; focus (intro w'; go_simp; with_reducible rfl)
  rotate_left; focus (simp only [Act.put, s1, s2, s3, i64_w, i32_w]; rfl)
  refine pure_ (i := 4) (N := some 14) (v := ?_) (a' := ?_) #[T, O, T, O, T, O, O, O, O, O] rfl rfl (any_of HT_.out (by kernel_rfl)) (fun _ _ _ h => h) (Or.inl ⟨by rfl, ?_⟩) ?_ ?_; rotate_left; focus (intro w'; go_simp; with_reducible rfl)
  rotate_left; focus (simp only [Act.put, s1, s2, s3, i64_w, i32_w]; rfl)
  refine take_ (i := 1) (N := some 11) (v := ?_) (a' := ?_) #[T, T, T, O, T, O, O, O, O, O] rfl rfl (take_ofW HT_.out HW_.out (by kernel_rfl)) (fun _ _ _ h => h) (Or.inl ⟨by rfl, ?_⟩) hHeld ?_ ?_; rotate_left; focus (rintro w' ⟨s0, s1, s2, s3⟩; go_simp; with_reducible rfl)
  rotate_left; focus (simp only [Act.put, s1, s2, s3, i64_w, i32_w]; rfl)
  refine take_ (i := 3) (N := some 13) (v := ?_) (a' := ?_) #[T, T, T, T, T, O, O, O, O, O] rfl rfl (take_ofW HT_.out HW_.out (by kernel_rfl)) (fun _ _ _ h => h) (Or.inl ⟨by rfl, ?_⟩) hHeld ?_ ?_; rotate_left; focus (rintro w' ⟨s0, s1, s2, s3⟩; go_simp; with_reducible rfl)
  rotate_left; focus (simp only [Act.put, s1, s2, s3, i64_w, i32_w]; rfl)
  refine take_ (i := 5) (N := some 15) (v := ?_) (a' := ?_) #[T, T, T, T, T, T, O, O, O, O] rfl rfl (take_ofW HT_.out HW_.out (by kernel_rfl)) (fun _ _ _ h => h) (Or.inl ⟨by rfl, ?_⟩) hHeld ?_ ?_; rotate_left; focus (rintro w' ⟨s0, s1, s2, s3⟩; go_simp; with_reducible rfl)
  rotate_left; focus (simp only [Act.put, s1, s2, s3, i64_w, i32_w]; rfl)
  refine one_ (i := 6) (N := some 16) #[T, T, T, T, T, T, T, O, O, O] rfl rfl (one_of HT_.out (by kernel_rfl)) (by decide) (fun K hK => ?_); refine gS Try.func79 #[.slice A0_1 l0_1.length c0_1, .slice A1_1 l1_1.length c1_1] ?_
  with_reducible refine (cobwebref01_plus.calls k _ _ l0_1 _ _ l1_1 t426 _ ?side1 ?side2 ?side3 ?side4 A4.out).mono ?_
  (case side1 => exact kQ (Kd.C_below HR0_1.out HB.out))
  (case side2 => exact HC0_1.out)
  (case side3 => exact kQ (Kd.C_below HR1_1.out HB.out))
  (case side4 => exact HC1_1.out)
  rintro e w15 ⟨v427, rfl, ho0, hb⟩; refine ⟨_, rfl, ?_⟩; have HO428 := Aside0.mk (Kd.R_lower (Kd.R_newM (M := fun k_ => (w.heap.size ≤ k_)) ho0 (ko HB) (fun k_ h_ => h_)) (ko HB)); replace BK423 := kb BK423 hb; replace BK424 := kb BK424 hb; replace BK425 := kb BK425 hb; replace HB := kB HB hb
  (try clear hb); (try clear hb2); (try clear hk); (try clear hi); (try clear ho0)
  obtain ⟨Ao16, co16, eo16⟩ := Kd.R_slice HO428.out
  (first | subst eo16 | (injection eo16 with f1_ f2_ f3_; have f4_ := f1_.symm; have f5_ := f3_.symm; clear f1_ f2_ f3_; subst f4_; subst f5_))
  refine hK.out _ _ ⟨kc BK423 0, kc BK423 1, kc BK424 0, kc BK424 1⟩ (fun hHeld => ?_); clear hK K
  refine norm_ (a' := ?_) ?_ ?_; rotate_left; focus (show Act.put _ (some 16) _ = _; simp only [Act.put, s1, s2, s3, i64_w, i32_w]; rfl)
  refine pure_ (i := 7) (N := some 17) (v := ?_) (a' := ?_) #[T, T, T, T, T, T, T, T, O, O] rfl rfl (any_of HT_.out (by kernel_rfl)) (fun _ _ _ h => h) (Or.inl ⟨by rfl, ?_⟩) ?_ ?_; rotate_left; focus (intro w'; go_simp; with_reducible rfl)
  rotate_left; focus (simp only [Act.put, s1, s2, s3, i64_w, i32_w]; rfl)
  refine one_ (i := 8) (N := some 18) #[T, T, T, T, T, T, T, T, T, O] rfl rfl (one_of HT_.out (by kernel_rfl)) (by decide) (fun K hK => ?_); refine gS Try.func75 #[.agg #[.bool a0_0, .slice Ao16 t426.length co16]] ?_
  with_reducible refine (cobwebref01_trim.calls k a0_0 (fun k_ => some k_ = (.slice Ao16 t426.length co16 : Value).ownBlock) _ _ t426 t429 t430 _ ?side1 A5.out).mono ?_
  (case side1 => exact Kd.R_V (Kd.R_tight rfl (Kd.R_types (Kd.R_types (Kd.R_types (HO428.out) BK423.out (by decide)) BK424.out (by decide)) BK425.out (by decide))))
  rintro e w17 ⟨v431, rfl, ho0, hb⟩; refine ⟨_, rfl, ?_⟩; have HO432 := Aside0.mk (Kd.V_lower (Kd.V_mono (ok' := fun k_ => (w.heap.size ≤ k_) ∧ k_ ≠ gb423 ∧ k_ ≠ gb424 ∧ k_ ≠ gb425) ho0 (fun k_ hk_ => ⟨Or.elim hk_ (fun hs_ => ((Kd.R_types (Kd.R_types (Kd.R_types (HO428.out) BK423.out (by decide)) BK424.out (by decide)) BK425.out (by decide)).1 k_ hs_.symm).1.1.1.1) (fun hn_ => (Nat.le_trans (ko HB) hn_)), Or.elim hk_ (fun hs_ => ((Kd.R_types (Kd.R_types (Kd.R_types (HO428.out) BK423.out (by decide)) BK424.out (by decide)) BK425.out (by decide)).1 k_ hs_.symm).1.1.2) (fun hn_ => (Kd.freshB (g := gb423) (o := .cells #[.bool a0_0, .slice A0_1 l0_1.length c0_1] 33 (0, 0)) (kx BK423) k_ hn_)), Or.elim hk_ (fun hs_ => ((Kd.R_types (Kd.R_types (Kd.R_types (HO428.out) BK423.out (by decide)) BK424.out (by decide)) BK425.out (by decide)).1 k_ hs_.symm).1.2) (fun hn_ => (Kd.freshB (g := gb424) (o := .cells #[.bool a1_0, .slice A1_1 l1_1.length c1_1] 33 (0, 0)) (kx BK424) k_ hn_)), Or.elim hk_ (fun hs_ => ((Kd.R_types (Kd.R_types (Kd.R_types (HO428.out) BK423.out (by decide)) BK424.out (by decide)) BK425.out (by decide)).1 k_ hs_.symm).2) (fun hn_ => (Kd.freshB (g := gb425) (o := .cells #[.bool false, .slice none 0 0] 33 (0, 0)) (kx BK425) k_ hn_))⟩)) (ko HB)); replace HO428 := kR HO428 hb; replace BK423 := kb BK423 hb; replace BK424 := kb BK424 hb; replace BK425 := kb BK425 hb; replace HB := kB HB hb
  (try clear hb); (try clear hb2); (try clear hk); (try clear hi); (try clear ho0)
  obtain ⟨Ao19, co19, eo19⟩ := Kd.V_slice HO432.out
  (first | subst eo19 | (injection eo19 with f1_ f2_ f3_; have f4_ := f1_.symm; have f5_ := f3_.symm; clear f1_ f2_ f3_; subst f4_; subst f5_))
  refine hK.out _ _ ⟨kc BK423 0, kc BK423 1, kc BK424 0, kc BK424 1⟩ (fun hHeld => ?_); clear hK K
  refine norm_ (a' := ?_) ?_ ?_; rotate_left; focus (show Act.put _ (some 18) _ = _; simp only [Act.put, s1, s2, s3, i64_w, i32_w]; rfl)
  refine one_ (i := 9) (N := none) #[T, T, T, T, T, T, T, T, T, T] rfl rfl (one_of HT_.out (by kernel_rfl)) (by decide) (fun K hK => ?_); have hs18 : w17.cell? ⟨gb425, 0, none⟩ = some (.bool false) := kc BK425 0; have hfs18 := blk_frozen BK425.out 0; have hns18_0 := NB423_425.out; have hns18_1 := NB424_425.out; have hms18_0 := NB425_423.out; have hms18_1 := NB425_424.out; have hs20 : w17.cell? ⟨gb425, 1, none⟩ = some (.slice none 0 0) := kc BK425 1; have hfs20 := blk_frozen BK425.out 1; have hns20_0 := NB423_425.out; have hns20_1 := NB424_425.out; have hms20_0 := NB425_423.out; have hms20_1 := NB425_424.out; refine skip_ (w1 := ?_) (by rfl) rfl ?_ ?_; rotate_left
  ·go_simp
   rfl
  refine hK.out _ _ ⟨((cell_far (p := ⟨gb425, _, none⟩) NB423_425.out _).trans (((cell_far (p := ⟨gb425, _, none⟩) NB423_425.out _).trans (hHeld.1)))), ((cell_far (p := ⟨gb425, _, none⟩) NB423_425.out _).trans (((cell_far (p := ⟨gb425, _, none⟩) NB423_425.out _).trans (hHeld.2.1)))), ((cell_far (p := ⟨gb425, _, none⟩) NB424_425.out _).trans (((cell_far (p := ⟨gb425, _, none⟩) NB424_425.out _).trans (hHeld.2.2.1)))), ((cell_far (p := ⟨gb425, _, none⟩) NB424_425.out _).trans (((cell_far (p := ⟨gb425, _, none⟩) NB424_425.out _).trans (hHeld.2.2.2))))⟩ (fun hHeld => ?_); clear hK K; refine done_ (done_of HT_.out (by kernel_rfl)) ?_
  try go_wp2
  refine bodyPost_ret (results_cell_row rfl _ _ gb425 33 #[.bool t429, .slice Ao19 t430.length co19] (0, 0) _ rfl (by (with_reducible repeat (first | refine zr ?_ _ | refine zw ?_ | refine za ?_ _)); refine blk_put (cs := #[.bool t429, .slice none 0 0]) ?_ 1 _ rfl; (with_reducible repeat (first | refine zr ?_ _ | refine zw ?_ | refine za ?_ _)); refine blk_put (cs := #[.bool false, .slice none 0 0]) ?_ 0 _ rfl; (with_reducible repeat (first | refine zr ?_ _ | refine zw ?_ | refine za ?_ _)); exact BK425.out) Try.underlying33 rfl (by kernel_rfl)) rfl ?_; exact ⟨_, by first | rfl | (simp [errW_none, errW_some] <;> rfl) | (simp [*, errW_none, errW_some] <;> rfl), by (with_reducible repeat (first | apply Kd.V_alloc | apply Kd.V_drewN | apply Kd.V_drew)); exact Kd.V_mono (Kd.V_far (p := ⟨gb425, 1, none⟩) (Kd.V_far (p := ⟨gb425, 0, none⟩) (Kd.V_mono HO432.out (fun k_ hk => (⟨hk, hk.2.2.2⟩ : _ ∧ k_ ≠ gb425))) (fun _ hk => hk.2) (.bool t429)) (fun _ hk => hk.2) (.slice Ao19 t430.length co19)) (fun _ hk => hk.1.1), ky HB⟩
 rw [if_neg c3] at H
 have c3b0 : (a0_0 == a1_0) = false := by simpa using c3
 (try (have c3b1 : decide (a0_0 = a1_0) = false := by simpa using c3))
 (try (have c3b2 : (a0_0 == a1_0) = false := by simpa using c3))
 (try (have c3b3 : ¬ (a0_0 = a1_0) := by simpa using c3))
 clear c3; replace H := Option.bind_eq_some_iff.mp H; obtain ⟨t433, A210, H⟩ := H; (try dsimp only at H); have A21 := Aside0.mk A210; clear A210
 by_cases c22 : t433 ≥ 0
 ·rw [if_pos c22] at H
  have c22b0 : decide (0 ≤ t433) = true := decide_eq_true c22; clear c22; replace H := Option.bind_eq_some_iff.mp H; obtain ⟨t434, A230, H⟩ := H; (try dsimp only at H); have A23 := Aside0.mk A230; clear A230; replace H := Option.bind_eq_some_iff.mp H; obtain ⟨⟨t437, t438⟩, A240, H⟩ := H; (try dsimp only at H); have A24 := Aside0.mk A240; clear A240
  simp only [Option.some.injEq, Prod.mk.injEq] at H
  obtain ⟨rfl, rfl⟩ := H
  go_enter Try.func58, Try.ntmps58
  try go_wp2_with (first | ((with_reducible refine gate_dst (N := 2) rfl ?_); refine box_event ?hg (N := 2) ?hd (cs := #[.bool a0_0, .slice A0_1 l0_1.length c0_1]) (t := 33) ?hr ?_; (case hd => rfl); (case hg => rfl); (case hr => first | (go_simp; done) | (go_simp; rfl)); intro gb423 hg w25 hbox hb; have BK423 := Aside0.mk (hbox); have GW423 := kS HB hg; have GE423 := kS HB hg; replace HB := kB HB hb; clear hb hbox hg) | ((with_reducible refine gate_dst (N := 3) rfl ?_); refine box_event ?hg (N := 3) ?hd (cs := #[.bool a1_0, .slice A1_1 l1_1.length c1_1]) (t := 33) ?hr ?_; (case hd => rfl); (case hg => rfl); (case hr => first | (go_simp; done) | (go_simp; rfl)); intro gb424 hg w26 hbox hb; have BK424 := Aside0.mk (hbox); have GW424 := kS HB hg; have GE424 := kS HB hg; have NB423_424 := kN BK423 hg; have NB424_423 := kM BK423 hg; replace BK423 := kb BK423 hb; replace HB := kB HB hb; clear hb hbox hg) | ((with_reducible refine gate_dst (N := 4) rfl ?_); refine box_event ?hg (N := 4) ?hd (cs := #[.bool false, .slice none 0 0]) (t := 33) ?hr ?_; (case hd => rfl); (case hg => rfl); (case hr => first | (go_simp; done) | (go_simp; rfl)); intro gb425 hg w27 hbox hb; have BK425 := Aside0.mk (hbox); have GW425 := kS HB hg; have GE425 := kS HB hg; have NB423_425 := kN BK423 hg; have NB425_423 := kM BK423 hg; have NB424_425 := kN BK424 hg; have NB425_424 := kM BK424 hg; replace BK423 := kb BK423 hb; replace BK424 := kb BK424 hb; replace HB := kB HB hb; clear hb hbox hg; have hnb28 := NB423_424.out; have hnc28 := NB424_423.out; have hnb29 := NB423_425.out; have hnc29 := NB425_423.out; have hcz30_0 : w27.cell? ⟨gb423, 0, none⟩ = some (.bool a0_0) := kc BK423 0; have hcz30_1 : w27.cell? ⟨gb423, 1, none⟩ = some (.slice A0_1 l0_1.length c0_1) := kc BK423 1; have hfz30_0 := blk_frozen BK423.out 0; have hfz30_1 := blk_frozen BK423.out 1; have hnb31 := NB424_425.out; have hnc31 := NB425_424.out; have hcz32_0 : w27.cell? ⟨gb424, 0, none⟩ = some (.bool a1_0) := kc BK424 0; have hcz32_1 : w27.cell? ⟨gb424, 1, none⟩ = some (.slice A1_1 l1_1.length c1_1) := kc BK424 1; have hfz32_0 := blk_frozen BK424.out 0; have hfz32_1 := blk_frozen BK424.out 1) | ((with_reducible refine gate_callee (f := 52) rfl ?_); refine gL 23 Try.func52 #[.slice A0_1 l0_1.length c0_1, .slice A1_1 l1_1.length c1_1] ?_; (with_reducible refine (cobwebref01_size.calls k _ _ l0_1 _ _ l1_1 t433 _ ?side1 ?side2 ?side3 ?side4 A21.out).mono ?_); (case side1 => exact kQ (Kd.C_below HR0_1.out HB.out)); (case side2 => exact HC0_1.out); (case side3 => exact kQ (Kd.C_below HR1_1.out HB.out)); (case side4 => exact HC1_1.out); rintro e w33 ⟨rfl, hb⟩; refine ⟨_, rfl, ?_⟩; replace BK423 := kb BK423 hb; replace BK424 := kb BK424 hb; replace BK425 := kb BK425 hb; replace HB := kB HB hb; (try clear hb); (try clear hb2); (try clear hk); (try clear hi)))
  replace BK423 := Aside0.mk (blk_drew BK423.out); replace BK424 := Aside0.mk (blk_drew BK424.out); replace BK425 := Aside0.mk (blk_drew BK425.out); replace HB := Aside0.mk (below_drew1 HB.out); refine start_ (n := 10) (S := fun w' => w'.cell? ⟨gb423, 0, none⟩ = some (.bool a0_0) ∧ w'.cell? ⟨gb423, 1, none⟩ = some (.slice A0_1 l0_1.length c0_1) ∧ w'.cell? ⟨gb424, 0, none⟩ = some (.bool a1_0) ∧ w'.cell? ⟨gb424, 1, none⟩ = some (.slice A1_1 l1_1.length c1_1)) (ds := []) #[O, O, O, O, O, O, O, O, O, O] (by kernel_rfl) rfl rfl ⟨kc BK423 0, kc BK423 1, kc BK424 0, kc BK424 1⟩ (fun hHeld => ?_); refine with_tabW cobwebref01_Add.tab4 cobwebref01_Add.bits4 (fun HT_ HW_ => ?_)
  generalize w33.drew = w34 at BK423 BK424 BK425 HB hHeld ⊢
  refine pure_ (i := 0) (N := some 25) (v := ?_) (a' := ?_) #[T, O, O, O, O, O, O, O, O, O] rfl rfl (any_of HT_.out (by kernel_rfl)) (fun _ _ _ h => h) (Or.inl ⟨by rfl, ?_⟩) ?_ ?_; rotate_left; focus (intro w'; go_simp; with_reducible rfl)
  rotate_left; focus (simp only [Act.put, s1, s2, s3, i64_w, i32_w]; rfl)
  refine pure_ (i := 2) (N := some 27) (v := ?_) (a' := ?_) #[T, O, T, O, O, O, O, O, O, O] rfl rfl (any_of HT_.out (by kernel_rfl)) (fun _ _ _ h => h) (Or.inl ⟨by rfl, ?_⟩) ?_ ?_; rotate_left; focus (intro w'; go_simp; with_reducible rfl)
  rotate_left; focus (simp only [Act.put, s1, s2, s3, i64_w, i32_w]; rfl)
  refine pure_ (i := 4) (N := some 29) (v := ?_) (a' := ?_) #[T, O, T, O, T, O, O, O, O, O] rfl rfl (any_of HT_.out (by kernel_rfl)) (fun _ _ _ h => h) (Or.inl ⟨by rfl, ?_⟩) ?_ ?_; rotate_left; focus (intro w'; go_simp; with_reducible rfl)
  rotate_left; focus (simp only [Act.put, s1, s2, s3, i64_w, i32_w]; rfl)
  refine take_ (i := 1) (N := some 26) (v := ?_) (a' := ?_) #[T, T, T, O, T, O, O, O, O, O] rfl rfl (take_ofW HT_.out HW_.out (by kernel_rfl)) (fun _ _ _ h => h) (Or.inl ⟨by rfl, ?_⟩) hHeld ?_ ?_; rotate_left; focus (rintro w' ⟨s0, s1, s2, s3⟩; go_simp; with_reducible rfl)
  rotate_left; focus (simp only [Act.put, s1, s2, s3, i64_w, i32_w]; rfl)
  refine take_ (i := 3) (N := some 28) (v := ?_) (a' := ?_) #[T, T, T, T, T, O, O, O, O, O] rfl rfl (take_ofW HT_.out HW_.out (by kernel_rfl)) (fun _ _ _ h => h) (Or.inl ⟨by rfl, ?_⟩) hHeld ?_ ?_; rotate_left; focus (rintro w' ⟨s0, s1, s2, s3⟩; go_simp; with_reducible rfl)
  rotate_left; focus (simp only [Act.put, s1, s2, s3, i64_w, i32_w]; rfl)
  refine take_ (i := 5) (N := some 30) (v := ?_) (a' := ?_) #[T, T, T, T, T, T, O, O, O, O] rfl rfl (take_ofW HT_.out HW_.out (by kernel_rfl)) (fun _ _ _ h => h) (Or.inl ⟨by rfl, ?_⟩) hHeld ?_ ?_; rotate_left; focus (rintro w' ⟨s0, s1, s2, s3⟩; go_simp; with_reducible rfl)
  rotate_left; focus (simp only [Act.put, s1, s2, s3, i64_w, i32_w]; rfl)
  refine one_ (i := 6) (N := some 31) #[T, T, T, T, T, T, T, O, O, O] rfl rfl (one_of HT_.out (by kernel_rfl)) (by decide) (fun K hK => ?_); refine gS Try.func80 #[.slice A0_1 l0_1.length c0_1, .slice A1_1 l1_1.length c1_1] ?_
  with_reducible refine (cobwebref01_minus.calls k _ _ l0_1 _ _ l1_1 t434 _ ?side1 ?side2 ?side3 ?side4 A23.out).mono ?_
  (case side1 => exact kQ (Kd.C_below HR0_1.out HB.out))
  (case side2 => exact HC0_1.out)
  (case side3 => exact kQ (Kd.C_below HR1_1.out HB.out))
  (case side4 => exact HC1_1.out)
  rintro e w35 ⟨v435, rfl, ho0, hb⟩; refine ⟨_, rfl, ?_⟩; have HO436 := Aside0.mk (Kd.R_lower (Kd.R_newM (M := fun k_ => (w.heap.size ≤ k_)) ho0 (ko HB) (fun k_ h_ => h_)) (ko HB)); replace BK423 := kb BK423 hb; replace BK424 := kb BK424 hb; replace BK425 := kb BK425 hb; replace HB := kB HB hb
  (try clear hb); (try clear hb2); (try clear hk); (try clear hi); (try clear ho0)
  obtain ⟨Ao36, co36, eo36⟩ := Kd.R_slice HO436.out
  (first | subst eo36 | (injection eo36 with f1_ f2_ f3_; have f4_ := f1_.symm; have f5_ := f3_.symm; clear f1_ f2_ f3_; subst f4_; subst f5_))
  refine hK.out _ _ ⟨kc BK423 0, kc BK423 1, kc BK424 0, kc BK424 1⟩ (fun hHeld => ?_); clear hK K
  refine norm_ (a' := ?_) ?_ ?_; rotate_left; focus (show Act.put _ (some 31) _ = _; simp only [Act.put, s1, s2, s3, i64_w, i32_w]; rfl)
  refine pure_ (i := 7) (N := some 32) (v := ?_) (a' := ?_) #[T, T, T, T, T, T, T, T, O, O] rfl rfl (any_of HT_.out (by kernel_rfl)) (fun _ _ _ h => h) (Or.inl ⟨by rfl, ?_⟩) ?_ ?_; rotate_left; focus (intro w'; go_simp; with_reducible rfl)
  rotate_left; focus (simp only [Act.put, s1, s2, s3, i64_w, i32_w]; rfl)
  refine one_ (i := 8) (N := some 33) #[T, T, T, T, T, T, T, T, T, O] rfl rfl (one_of HT_.out (by kernel_rfl)) (by decide) (fun K hK => ?_); refine gS Try.func75 #[.agg #[.bool a0_0, .slice Ao36 t434.length co36]] ?_
  with_reducible refine (cobwebref01_trim.calls k a0_0 (fun k_ => some k_ = (.slice Ao36 t434.length co36 : Value).ownBlock) _ _ t434 t437 t438 _ ?side1 A24.out).mono ?_
  (case side1 => exact Kd.R_V (Kd.R_tight rfl (Kd.R_types (Kd.R_types (Kd.R_types (HO436.out) BK423.out (by decide)) BK424.out (by decide)) BK425.out (by decide))))
  rintro e w37 ⟨v439, rfl, ho0, hb⟩; refine ⟨_, rfl, ?_⟩; have HO440 := Aside0.mk (Kd.V_lower (Kd.V_mono (ok' := fun k_ => (w.heap.size ≤ k_) ∧ k_ ≠ gb423 ∧ k_ ≠ gb424 ∧ k_ ≠ gb425) ho0 (fun k_ hk_ => ⟨Or.elim hk_ (fun hs_ => ((Kd.R_types (Kd.R_types (Kd.R_types (HO436.out) BK423.out (by decide)) BK424.out (by decide)) BK425.out (by decide)).1 k_ hs_.symm).1.1.1.1) (fun hn_ => (Nat.le_trans (ko HB) hn_)), Or.elim hk_ (fun hs_ => ((Kd.R_types (Kd.R_types (Kd.R_types (HO436.out) BK423.out (by decide)) BK424.out (by decide)) BK425.out (by decide)).1 k_ hs_.symm).1.1.2) (fun hn_ => (Kd.freshB (g := gb423) (o := .cells #[.bool a0_0, .slice A0_1 l0_1.length c0_1] 33 (0, 0)) (kx BK423) k_ hn_)), Or.elim hk_ (fun hs_ => ((Kd.R_types (Kd.R_types (Kd.R_types (HO436.out) BK423.out (by decide)) BK424.out (by decide)) BK425.out (by decide)).1 k_ hs_.symm).1.2) (fun hn_ => (Kd.freshB (g := gb424) (o := .cells #[.bool a1_0, .slice A1_1 l1_1.length c1_1] 33 (0, 0)) (kx BK424) k_ hn_)), Or.elim hk_ (fun hs_ => ((Kd.R_types (Kd.R_types (Kd.R_types (HO436.out) BK423.out (by decide)) BK424.out (by decide)) BK425.out (by decide)).1 k_ hs_.symm).2) (fun hn_ => (Kd.freshB (g := gb425) (o := .cells #[.bool false, .slice none 0 0] 33 (0, 0)) (kx BK425) k_ hn_))⟩)) (ko HB)); replace HO436 := kR HO436 hb; replace BK423 := kb BK423 hb; replace BK424 := kb BK424 hb; replace BK425 := kb BK425 hb; replace HB := kB HB hb
  (try clear hb); (try clear hb2); (try clear hk); (try clear hi); (try clear ho0)
  obtain ⟨Ao39, co39, eo39⟩ := Kd.V_slice HO440.out
  (first | subst eo39 | (injection eo39 with f1_ f2_ f3_; have f4_ := f1_.symm; have f5_ := f3_.symm; clear f1_ f2_ f3_; subst f4_; subst f5_))
  refine hK.out _ _ ⟨kc BK423 0, kc BK423 1, kc BK424 0, kc BK424 1⟩ (fun hHeld => ?_); clear hK K
  refine norm_ (a' := ?_) ?_ ?_; rotate_left; focus (show Act.put _ (some 33) _ = _; simp only [Act.put, s1, s2, s3, i64_w, i32_w]; rfl)
  refine one_ (i := 9) (N := none) #[T, T, T, T, T, T, T, T, T, T] rfl rfl (one_of HT_.out (by kernel_rfl)) (by decide) (fun K hK => ?_); have hs38 : w37.cell? ⟨gb425, 0, none⟩ = some (.bool false) := kc BK425 0; have hfs38 := blk_frozen BK425.out 0; have hns38_0 := NB423_425.out; have hns38_1 := NB424_425.out; have hms38_0 := NB425_423.out; have hms38_1 := NB425_424.out; have hs40 : w37.cell? ⟨gb425, 1, none⟩ = some (.slice none 0 0) := kc BK425 1; have hfs40 := blk_frozen BK425.out 1; have hns40_0 := NB423_425.out; have hns40_1 := NB424_425.out; have hms40_0 := NB425_423.out; have hms40_1 := NB425_424.out; refine skip_ (w1 := ?_) (by rfl) rfl ?_ ?_; rotate_left
  ·go_simp
   rfl
  refine hK.out _ _ ⟨((cell_far (p := ⟨gb425, _, none⟩) NB423_425.out _).trans (((cell_far (p := ⟨gb425, _, none⟩) NB423_425.out _).trans (hHeld.1)))), ((cell_far (p := ⟨gb425, _, none⟩) NB423_425.out _).trans (((cell_far (p := ⟨gb425, _, none⟩) NB423_425.out _).trans (hHeld.2.1)))), ((cell_far (p := ⟨gb425, _, none⟩) NB424_425.out _).trans (((cell_far (p := ⟨gb425, _, none⟩) NB424_425.out _).trans (hHeld.2.2.1)))), ((cell_far (p := ⟨gb425, _, none⟩) NB424_425.out _).trans (((cell_far (p := ⟨gb425, _, none⟩) NB424_425.out _).trans (hHeld.2.2.2))))⟩ (fun hHeld => ?_); clear hK K; refine done_ (done_of HT_.out (by kernel_rfl)) ?_
  try go_wp2
  refine bodyPost_ret (results_cell_row rfl _ _ gb425 33 #[.bool t437, .slice Ao39 t438.length co39] (0, 0) _ rfl (by (with_reducible repeat (first | refine zr ?_ _ | refine zw ?_ | refine za ?_ _)); refine blk_put (cs := #[.bool t437, .slice none 0 0]) ?_ 1 _ rfl; (with_reducible repeat (first | refine zr ?_ _ | refine zw ?_ | refine za ?_ _)); refine blk_put (cs := #[.bool false, .slice none 0 0]) ?_ 0 _ rfl; (with_reducible repeat (first | refine zr ?_ _ | refine zw ?_ | refine za ?_ _)); exact BK425.out) Try.underlying33 rfl (by kernel_rfl)) rfl ?_; exact ⟨_, by first | rfl | (simp [errW_none, errW_some] <;> rfl) | (simp [*, errW_none, errW_some] <;> rfl), by (with_reducible repeat (first | apply Kd.V_alloc | apply Kd.V_drewN | apply Kd.V_drew)); exact Kd.V_mono (Kd.V_far (p := ⟨gb425, 1, none⟩) (Kd.V_far (p := ⟨gb425, 0, none⟩) (Kd.V_mono HO440.out (fun k_ hk => (⟨hk, hk.2.2.2⟩ : _ ∧ k_ ≠ gb425))) (fun _ hk => hk.2) (.bool t437)) (fun _ hk => hk.2) (.slice Ao39 t438.length co39)) (fun _ hk => hk.1.1), ky HB⟩
 rw [if_neg c22] at H
 have c22b0 : decide (0 ≤ t433) = false := decide_eq_false c22; clear c22; replace H := Option.bind_eq_some_iff.mp H; obtain ⟨t441, A410, H⟩ := H; (try dsimp only at H); have A41 := Aside0.mk A410; clear A410; replace H := Option.bind_eq_some_iff.mp H; obtain ⟨⟨t444, t445⟩, A420, H⟩ := H; (try dsimp only at H); have A42 := Aside0.mk A420; clear A420
 simp only [Option.some.injEq, Prod.mk.injEq] at H
 obtain ⟨rfl, rfl⟩ := H
 go_enter Try.func58, Try.ntmps58
 try go_wp2_with (first | ((with_reducible refine gate_dst (N := 2) rfl ?_); refine box_event ?hg (N := 2) ?hd (cs := #[.bool a0_0, .slice A0_1 l0_1.length c0_1]) (t := 33) ?hr ?_; (case hd => rfl); (case hg => rfl); (case hr => first | (go_simp; done) | (go_simp; rfl)); intro gb423 hg w43 hbox hb; have BK423 := Aside0.mk (hbox); have GW423 := kS HB hg; have GE423 := kS HB hg; replace HB := kB HB hb; clear hb hbox hg) | ((with_reducible refine gate_dst (N := 3) rfl ?_); refine box_event ?hg (N := 3) ?hd (cs := #[.bool a1_0, .slice A1_1 l1_1.length c1_1]) (t := 33) ?hr ?_; (case hd => rfl); (case hg => rfl); (case hr => first | (go_simp; done) | (go_simp; rfl)); intro gb424 hg w44 hbox hb; have BK424 := Aside0.mk (hbox); have GW424 := kS HB hg; have GE424 := kS HB hg; have NB423_424 := kN BK423 hg; have NB424_423 := kM BK423 hg; replace BK423 := kb BK423 hb; replace HB := kB HB hb; clear hb hbox hg) | ((with_reducible refine gate_dst (N := 4) rfl ?_); refine box_event ?hg (N := 4) ?hd (cs := #[.bool false, .slice none 0 0]) (t := 33) ?hr ?_; (case hd => rfl); (case hg => rfl); (case hr => first | (go_simp; done) | (go_simp; rfl)); intro gb425 hg w45 hbox hb; have BK425 := Aside0.mk (hbox); have GW425 := kS HB hg; have GE425 := kS HB hg; have NB423_425 := kN BK423 hg; have NB425_423 := kM BK423 hg; have NB424_425 := kN BK424 hg; have NB425_424 := kM BK424 hg; replace BK423 := kb BK423 hb; replace BK424 := kb BK424 hb; replace HB := kB HB hb; clear hb hbox hg; have hnb46 := NB423_424.out; have hnc46 := NB424_423.out; have hnb47 := NB423_425.out; have hnc47 := NB425_423.out; have hcz48_0 : w45.cell? ⟨gb423, 0, none⟩ = some (.bool a0_0) := kc BK423 0; have hcz48_1 : w45.cell? ⟨gb423, 1, none⟩ = some (.slice A0_1 l0_1.length c0_1) := kc BK423 1; have hfz48_0 := blk_frozen BK423.out 0; have hfz48_1 := blk_frozen BK423.out 1; have hnb49 := NB424_425.out; have hnc49 := NB425_424.out; have hcz50_0 : w45.cell? ⟨gb424, 0, none⟩ = some (.bool a1_0) := kc BK424 0; have hcz50_1 : w45.cell? ⟨gb424, 1, none⟩ = some (.slice A1_1 l1_1.length c1_1) := kc BK424 1; have hfz50_0 := blk_frozen BK424.out 0; have hfz50_1 := blk_frozen BK424.out 1) | ((with_reducible refine gate_callee (f := 52) rfl ?_); refine gL 23 Try.func52 #[.slice A0_1 l0_1.length c0_1, .slice A1_1 l1_1.length c1_1] ?_; (with_reducible refine (cobwebref01_size.calls k _ _ l0_1 _ _ l1_1 t433 _ ?side1 ?side2 ?side3 ?side4 A21.out).mono ?_); (case side1 => exact kQ (Kd.C_below HR0_1.out HB.out)); (case side2 => exact HC0_1.out); (case side3 => exact kQ (Kd.C_below HR1_1.out HB.out)); (case side4 => exact HC1_1.out); rintro e w51 ⟨rfl, hb⟩; refine ⟨_, rfl, ?_⟩; replace BK423 := kb BK423 hb; replace BK424 := kb BK424 hb; replace BK425 := kb BK425 hb; replace HB := kB HB hb; (try clear hb); (try clear hb2); (try clear hk); (try clear hi)))
 replace BK423 := Aside0.mk (blk_drew BK423.out); replace BK424 := Aside0.mk (blk_drew BK424.out); replace BK425 := Aside0.mk (blk_drew BK425.out); replace HB := Aside0.mk (below_drew1 HB.out); refine start_ (n := 10) (S := fun w' => w'.cell? ⟨gb424, 0, none⟩ = some (.bool a1_0) ∧ w'.cell? ⟨gb424, 1, none⟩ = some (.slice A1_1 l1_1.length c1_1) ∧ w'.cell? ⟨gb423, 0, none⟩ = some (.bool a0_0) ∧ w'.cell? ⟨gb423, 1, none⟩ = some (.slice A0_1 l0_1.length c0_1)) (ds := []) #[O, O, O, O, O, O, O, O, O, O] (by kernel_rfl) rfl rfl ⟨kc BK424 0, kc BK424 1, kc BK423 0, kc BK423 1⟩ (fun hHeld => ?_); refine with_tabW cobwebref01_Add.tab5 cobwebref01_Add.bits5 (fun HT_ HW_ => ?_)
 generalize w51.drew = w52 at BK423 BK424 BK425 HB hHeld ⊢
 refine pure_ (i := 0) (N := some 34) (v := ?_) (a' := ?_) #[T, O, O, O, O, O, O, O, O, O] rfl rfl (any_of HT_.out (by kernel_rfl)) (fun _ _ _ h => h) (Or.inl ⟨by rfl, ?_⟩) ?_ ?_; rotate_left; focus (intro w'; go_simp; with_reducible rfl)
 rotate_left; focus (simp only [Act.put, s1, s2, s3, i64_w, i32_w]; rfl)
 refine pure_ (i := 2) (N := some 36) (v := ?_) (a' := ?_) #[T, O, T, O, O, O, O, O, O, O] rfl rfl (any_of HT_.out (by kernel_rfl)) (fun _ _ _ h => h) (Or.inl ⟨by rfl, ?_⟩) ?_ ?_; rotate_left; focus (intro w'; go_simp; with_reducible rfl)
 rotate_left; focus (simp only [Act.put, s1, s2, s3, i64_w, i32_w]; rfl)
 refine pure_ (i := 4) (N := some 38) (v := ?_) (a' := ?_) #[T, O, T, O, T, O, O, O, O, O] rfl rfl (any_of HT_.out (by kernel_rfl)) (fun _ _ _ h => h) (Or.inl ⟨by rfl, ?_⟩) ?_ ?_; rotate_left; focus (intro w'; go_simp; with_reducible rfl)
 rotate_left; focus (simp only [Act.put, s1, s2, s3, i64_w, i32_w]; rfl)
 refine take_ (i := 1) (N := some 35) (v := ?_) (a' := ?_) #[T, T, T, O, T, O, O, O, O, O] rfl rfl (take_ofW HT_.out HW_.out (by kernel_rfl)) (fun _ _ _ h => h) (Or.inl ⟨by rfl, ?_⟩) hHeld ?_ ?_; rotate_left; focus (rintro w' ⟨s0, s1, s2, s3⟩; go_simp; with_reducible rfl)
 rotate_left; focus (simp only [Act.put, s1, s2, s3, i64_w, i32_w]; rfl)
 refine take_ (i := 3) (N := some 37) (v := ?_) (a' := ?_) #[T, T, T, T, T, O, O, O, O, O] rfl rfl (take_ofW HT_.out HW_.out (by kernel_rfl)) (fun _ _ _ h => h) (Or.inl ⟨by rfl, ?_⟩) hHeld ?_ ?_; rotate_left; focus (rintro w' ⟨s0, s1, s2, s3⟩; go_simp; with_reducible rfl)
 rotate_left; focus (simp only [Act.put, s1, s2, s3, i64_w, i32_w]; rfl)
 refine take_ (i := 5) (N := some 39) (v := ?_) (a' := ?_) #[T, T, T, T, T, T, O, O, O, O] rfl rfl (take_ofW HT_.out HW_.out (by kernel_rfl)) (fun _ _ _ h => h) (Or.inl ⟨by rfl, ?_⟩) hHeld ?_ ?_; rotate_left; focus (rintro w' ⟨s0, s1, s2, s3⟩; go_simp; with_reducible rfl)
 rotate_left; focus (simp only [Act.put, s1, s2, s3, i64_w, i32_w]; rfl)
 refine one_ (i := 6) (N := some 40) #[T, T, T, T, T, T, T, O, O, O] rfl rfl (one_of HT_.out (by kernel_rfl)) (by decide) (fun K hK => ?_); refine gS Try.func80 #[.slice A1_1 l1_1.length c1_1, .slice A0_1 l0_1.length c0_1] ?_
 with_reducible refine (cobwebref01_minus.calls k _ _ l1_1 _ _ l0_1 t441 _ ?side1 ?side2 ?side3 ?side4 A41.out).mono ?_
 (case side1 => exact kQ (Kd.C_below HR1_1.out HB.out))
 (case side2 => exact HC1_1.out)
 (case side3 => exact kQ (Kd.C_below HR0_1.out HB.out))
 (case side4 => exact HC0_1.out)
 rintro e w53 ⟨v442, rfl, ho0, hb⟩; refine ⟨_, rfl, ?_⟩; have HO443 := Aside0.mk (Kd.R_lower (Kd.R_newM (M := fun k_ => (w.heap.size ≤ k_)) ho0 (ko HB) (fun k_ h_ => h_)) (ko HB)); replace BK423 := kb BK423 hb; replace BK424 := kb BK424 hb; replace BK425 := kb BK425 hb; replace HB := kB HB hb
 (try clear hb); (try clear hb2); (try clear hk); (try clear hi); (try clear ho0)
 obtain ⟨Ao54, co54, eo54⟩ := Kd.R_slice HO443.out
 (first | subst eo54 | (injection eo54 with f1_ f2_ f3_; have f4_ := f1_.symm; have f5_ := f3_.symm; clear f1_ f2_ f3_; subst f4_; subst f5_))
 refine hK.out _ _ ⟨kc BK424 0, kc BK424 1, kc BK423 0, kc BK423 1⟩ (fun hHeld => ?_); clear hK K
 refine norm_ (a' := ?_) ?_ ?_; rotate_left; focus (show Act.put _ (some 40) _ = _; simp only [Act.put, s1, s2, s3, i64_w, i32_w]; rfl)
 refine pure_ (i := 7) (N := some 41) (v := ?_) (a' := ?_) #[T, T, T, T, T, T, T, T, O, O] rfl rfl (any_of HT_.out (by kernel_rfl)) (fun _ _ _ h => h) (Or.inl ⟨by rfl, ?_⟩) ?_ ?_; rotate_left; focus (intro w'; go_simp; with_reducible rfl)
 rotate_left; focus (simp only [Act.put, s1, s2, s3, i64_w, i32_w]; rfl)
 refine one_ (i := 8) (N := some 42) #[T, T, T, T, T, T, T, T, T, O] rfl rfl (one_of HT_.out (by kernel_rfl)) (by decide) (fun K hK => ?_); refine gS Try.func75 #[.agg #[.bool a1_0, .slice Ao54 t441.length co54]] ?_
 with_reducible refine (cobwebref01_trim.calls k a1_0 (fun k_ => some k_ = (.slice Ao54 t441.length co54 : Value).ownBlock) _ _ t441 t444 t445 _ ?side1 A42.out).mono ?_
 (case side1 => exact Kd.R_V (Kd.R_tight rfl (Kd.R_types (Kd.R_types (Kd.R_types (HO443.out) BK423.out (by decide)) BK424.out (by decide)) BK425.out (by decide))))
 rintro e w55 ⟨v446, rfl, ho0, hb⟩; refine ⟨_, rfl, ?_⟩; have HO447 := Aside0.mk (Kd.V_lower (Kd.V_mono (ok' := fun k_ => (w.heap.size ≤ k_) ∧ k_ ≠ gb423 ∧ k_ ≠ gb424 ∧ k_ ≠ gb425) ho0 (fun k_ hk_ => ⟨Or.elim hk_ (fun hs_ => ((Kd.R_types (Kd.R_types (Kd.R_types (HO443.out) BK423.out (by decide)) BK424.out (by decide)) BK425.out (by decide)).1 k_ hs_.symm).1.1.1.1) (fun hn_ => (Nat.le_trans (ko HB) hn_)), Or.elim hk_ (fun hs_ => ((Kd.R_types (Kd.R_types (Kd.R_types (HO443.out) BK423.out (by decide)) BK424.out (by decide)) BK425.out (by decide)).1 k_ hs_.symm).1.1.2) (fun hn_ => (Kd.freshB (g := gb423) (o := .cells #[.bool a0_0, .slice A0_1 l0_1.length c0_1] 33 (0, 0)) (kx BK423) k_ hn_)), Or.elim hk_ (fun hs_ => ((Kd.R_types (Kd.R_types (Kd.R_types (HO443.out) BK423.out (by decide)) BK424.out (by decide)) BK425.out (by decide)).1 k_ hs_.symm).1.2) (fun hn_ => (Kd.freshB (g := gb424) (o := .cells #[.bool a1_0, .slice A1_1 l1_1.length c1_1] 33 (0, 0)) (kx BK424) k_ hn_)), Or.elim hk_ (fun hs_ => ((Kd.R_types (Kd.R_types (Kd.R_types (HO443.out) BK423.out (by decide)) BK424.out (by decide)) BK425.out (by decide)).1 k_ hs_.symm).2) (fun hn_ => (Kd.freshB (g := gb425) (o := .cells #[.bool false, .slice none 0 0] 33 (0, 0)) (kx BK425) k_ hn_))⟩)) (ko HB)); replace HO443 := kR HO443 hb; replace BK423 := kb BK423 hb; replace BK424 := kb BK424 hb; replace BK425 := kb BK425 hb; replace HB := kB HB hb
 (try clear hb); (try clear hb2); (try clear hk); (try clear hi); (try clear ho0)
 obtain ⟨Ao57, co57, eo57⟩ := Kd.V_slice HO447.out
 (first | subst eo57 | (injection eo57 with f1_ f2_ f3_; have f4_ := f1_.symm; have f5_ := f3_.symm; clear f1_ f2_ f3_; subst f4_; subst f5_))
 refine hK.out _ _ ⟨kc BK424 0, kc BK424 1, kc BK423 0, kc BK423 1⟩ (fun hHeld => ?_); clear hK K
 refine norm_ (a' := ?_) ?_ ?_; rotate_left; focus (show Act.put _ (some 42) _ = _; simp only [Act.put, s1, s2, s3, i64_w, i32_w]; rfl)
 refine one_ (i := 9) (N := none) #[T, T, T, T, T, T, T, T, T, T] rfl rfl (one_of HT_.out (by kernel_rfl)) (by decide) (fun K hK => ?_); have hs56 : w55.cell? ⟨gb425, 0, none⟩ = some (.bool false) := kc BK425 0; have hfs56 := blk_frozen BK425.out 0; have hns56_0 := NB423_425.out; have hns56_1 := NB424_425.out; have hms56_0 := NB425_423.out; have hms56_1 := NB425_424.out; have hs58 : w55.cell? ⟨gb425, 1, none⟩ = some (.slice none 0 0) := kc BK425 1; have hfs58 := blk_frozen BK425.out 1; have hns58_0 := NB423_425.out; have hns58_1 := NB424_425.out; have hms58_0 := NB425_423.out; have hms58_1 := NB425_424.out; refine skip_ (w1 := ?_) (by rfl) rfl ?_ ?_; rotate_left
 ·go_simp
  rfl
 refine hK.out _ _ ⟨((cell_far (p := ⟨gb425, _, none⟩) NB424_425.out _).trans (((cell_far (p := ⟨gb425, _, none⟩) NB424_425.out _).trans (hHeld.1)))), ((cell_far (p := ⟨gb425, _, none⟩) NB424_425.out _).trans (((cell_far (p := ⟨gb425, _, none⟩) NB424_425.out _).trans (hHeld.2.1)))), ((cell_far (p := ⟨gb425, _, none⟩) NB423_425.out _).trans (((cell_far (p := ⟨gb425, _, none⟩) NB423_425.out _).trans (hHeld.2.2.1)))), ((cell_far (p := ⟨gb425, _, none⟩) NB423_425.out _).trans (((cell_far (p := ⟨gb425, _, none⟩) NB423_425.out _).trans (hHeld.2.2.2))))⟩ (fun hHeld => ?_); clear hK K; refine done_ (done_of HT_.out (by kernel_rfl)) ?_
 try go_wp2
 refine bodyPost_ret (results_cell_row rfl _ _ gb425 33 #[.bool t444, .slice Ao57 t445.length co57] (0, 0) _ rfl (by (with_reducible repeat (first | refine zr ?_ _ | refine zw ?_ | refine za ?_ _)); refine blk_put (cs := #[.bool t444, .slice none 0 0]) ?_ 1 _ rfl; (with_reducible repeat (first | refine zr ?_ _ | refine zw ?_ | refine za ?_ _)); refine blk_put (cs := #[.bool false, .slice none 0 0]) ?_ 0 _ rfl; (with_reducible repeat (first | refine zr ?_ _ | refine zw ?_ | refine za ?_ _)); exact BK425.out) Try.underlying33 rfl (by kernel_rfl)) rfl ?_; exact ⟨_, by first | rfl | (simp [errW_none, errW_some] <;> rfl) | (simp [*, errW_none, errW_some] <;> rfl), by (with_reducible repeat (first | apply Kd.V_alloc | apply Kd.V_drewN | apply Kd.V_drew)); exact Kd.V_mono (Kd.V_far (p := ⟨gb425, 1, none⟩) (Kd.V_far (p := ⟨gb425, 0, none⟩) (Kd.V_mono HO447.out (fun k_ hk => (⟨hk, hk.2.2.2⟩ : _ ∧ k_ ≠ gb425))) (fun _ hk => hk.2) (.bool t444)) (fun _ hk => hk.2) (.slice Ao57 t445.length co57)) (fun _ hk => hk.1.1), ky HB⟩

/-! ### cobwebref01_Power: function 59 -/
def cobwebref01_Power.l0 : Nat → Int → Int → Bool → List Int → Option (Bool × List Int)
 | 0, _, _, _, _ => none
 | k + 1, x0, x4, x454000, x454001 => if x4 < x0 then ((cobwebref01_Add.f k x454000 x454001 x454000 x454001).bind fun bt454 => (cobwebref01_Power.l0 k x0 (wrap64 (x4 + 1)) bt454.1 bt454.2)) else (some (x454000, x454001))
def cobwebref01_Power.f (k : Nat) (a0 : Int) : Option (Bool × List Int) := (cobwebref01_Of.f k 1).bind fun bt449 => (cobwebref01_Power.l0 k a0 0 bt449.1 bt449.2)
theorem cobwebref01_Power.mono_l : ∀ k, (∀ y0 y1 y2 y3, LeO (cobwebref01_Power.l0 k y0 y1 y2 y3) (cobwebref01_Power.l0 (k + 1) y0 y1 y2 y3))
 | 0 => fun _ _ _ _ r h => by simp [cobwebref01_Power.l0] at h
 | k + 1 => by
  have ih0 := cobwebref01_Power.mono_l k
  ·intro y0 y1 y2 y3
   unfold cobwebref01_Power.l0
   repeat' first
   | (with_reducible exact ih0 _ _ _ _)
   | (with_reducible exact cobwebref01_Add.mono _ _ _ _ _)
   | (with_reducible exact cobwebref01_Of.mono _ _)
   | (with_reducible exact LeO.refl _)
   | (with_reducible exact LeO.none _)
   | (with_reducible refine LeO.ite ?_ ?_)
   | (with_reducible refine LeO.bind ?_ (fun _ => ?_))
   | exact ih0 _ _ _ _
   | exact cobwebref01_Add.mono _ _ _ _ _
   | exact cobwebref01_Of.mono _ _
   | exact LeO.none _
   | refine LeO.ite ?_ ?_
   | refine LeO.bind ?_ (fun _ => ?_)
theorem cobwebref01_Power.mono : ∀ a0 k, LeO (cobwebref01_Power.f k a0) (cobwebref01_Power.f (k + 1) a0) := by
 intro a0 k; have ih0 := cobwebref01_Power.mono_l k
 unfold cobwebref01_Power.f
 repeat' first
   | (with_reducible exact ih0 _ _ _ _)
   | (with_reducible exact cobwebref01_Add.mono _ _ _ _ _)
   | (with_reducible exact cobwebref01_Of.mono _ _)
   | (with_reducible exact LeO.refl _)
   | (with_reducible exact LeO.none _)
   | (with_reducible refine LeO.ite ?_ ?_)
   | (with_reducible refine LeO.bind ?_ (fun _ => ?_))
   | exact ih0 _ _ _ _
   | exact cobwebref01_Add.mono _ _ _ _ _
   | exact cobwebref01_Of.mono _ _
   | exact LeO.none _
   | refine LeO.ite ?_ ?_
   | refine LeO.bind ?_ (fun _ => ?_)
set_option maxHeartbeats 8000000 in
set_option maxRecDepth 100000 in
theorem cobwebref01_Power.calls (k : Nat) (a0 : Int) (r1 : Bool) (r2 : List Int) (w : World) (h : cobwebref01_Power.f k a0 = some (r1, r2)) :
  Calls Try.prog 59 #[.int .i64 a0] w fun e w' => ∃ v1_ : Value, e = .returned (.agg #[.bool r1, v1_]) ∧ Kd.V (Kd.int .i64) 3 w' w.heap.size (fun k_ => (w.heap.size ≤ k_)) v1_ r2 ∧ Below w.heap.size w w' := by
 have hu33 := Try.underlying33; have HB := Aside0.mk (Below.refl w.heap.size w); have H : ((cobwebref01_Of.f k 1).bind fun bt449 => (cobwebref01_Power.l0 k a0 0 bt449.1 bt449.2)) = some (r1, r2) := h; clear h; replace H := Option.bind_eq_some_iff.mp H; obtain ⟨⟨t449, t450⟩, A20, H⟩ := H; (try dsimp only at H); have A2 := Aside0.mk A20; clear A20; have H' := Aside0.mk H; clear H
 go_enter Try.func59, Try.ntmps59
 go_wp2_with (first | ((with_reducible refine gate_dst (N := 2) rfl ?_); refine box_event ?hg (N := 2) ?hd (cs := #[.bool false, .slice none 0 0]) (t := 33) ?hr ?_; (case hd => rfl); (case hg => rfl); (case hr => first | (go_simp; done) | (go_simp; rfl)); intro gb448 hg w3 hbox hb; have BK448 := Aside0.mk (hbox); have GW448 := kS HB hg; have GE448 := kS HB hg; replace HB := kB HB hb; clear hb hbox hg) | ((with_reducible refine gate_callee (f := 33) rfl ?_); refine gL 5 Try.func33 #[.int .i64 1] ?_; (with_reducible refine (cobwebref01_Of.calls k 1 t449 t450 _ A2.out).mono ?_); rintro e w4 ⟨v451, rfl, ho0, hb⟩; refine ⟨_, rfl, ?_⟩; have HO452 := Aside0.mk (Kd.R_lower (Kd.R_newM (M := fun k_ => (w.heap.size ≤ k_)) ho0 (ko HB) (fun k_ h_ => h_)) (ko HB)); replace BK448 := kb BK448 hb; replace HB := kB HB hb; (try clear hb); (try clear hb2); (try clear hk); (try clear hi); (try clear ho0)) | ((with_reducible refine gate_dst (N := 3) rfl ?_); refine box_event ?hg (N := 3) ?hd (cs := #[.bool false, .slice none 0 0]) (t := 33) ?hr ?_; (case hd => rfl); (case hg => rfl); (case hr => first | (go_simp; done) | (go_simp; rfl)); intro gb453 hg w5 hbox hb; have BK453 := Aside0.mk (hbox); have GW453 := kS HB hg; have GE453 := kS HB hg; have NB448_453 := kN BK448 hg; have NB453_448 := kM BK448 hg; replace HO452 := kR HO452 hb; replace BK448 := kb BK448 hb; replace HB := kB HB hb; clear hb hbox hg; have hnb6 := NB453_448.out; have hnc6 := NB448_453.out; have hcz7_0 : w5.cell? ⟨gb453, 0, none⟩ = some (.bool false) := kc BK453 0; have hcz7_1 : w5.cell? ⟨gb453, 1, none⟩ = some (.slice none 0 0) := kc BK453 1; have hfz7_0 := blk_frozen BK453.out 0; have hfz7_1 := blk_frozen BK453.out 1; obtain ⟨Ao8, co8, eo8⟩ := Kd.R_slice HO452.out; subst eo8))
 go_loopg [4] k (fun kq v4 w' => ∃ (x4_1 : Int) (x454000_1 : Bool) (x454001_1 : List Int) (u454001 : Value), v4 = .int .i64 x4_1 ∧ Aside0 (cobwebref01_Power.l0 kq a0 x4_1 x454000_1 x454001_1 = some (r1, r2)) ∧ Aside0 (kq ≤ k) ∧ Aside0 (Kd.V (Kd.int .i64) 3 w' w.heap.size (fun k_ => (w.heap.size ≤ k_) ∧ k_ ≠ gb448 ∧ k_ ≠ gb453) u454001 x454001_1) ∧ Aside0 (w'.heap[gb448]? = some (.cells #[.bool false, (.slice none 0 0)] 33 (0, 0))) ∧ Aside0 (w'.heap[gb453]? = some (.cells #[.bool x454000_1, u454001] 33 (0, 0))) ∧ Aside0 (Below w.heap.size w w'))
 case atStart => exact ⟨(0), (t449), (t450), (.slice Ao8 t450.length co8), (by first | rfl | (simp; done) | (simp [*]; done)), H', ⟨Nat.le_refl _⟩, ⟨Kd.R_V (by (with_reducible repeat (first | apply Kd.R_alloc | apply Kd.R_drewN | apply Kd.R_drew)); exact Kd.R_mono (Kd.R_far (p := ⟨gb453, 1, none⟩) (Kd.R_far (p := ⟨gb453, 0, none⟩) (Kd.R_types (Kd.R_types (Kd.R_types HO452.out BK448.out (by decide)) BK453.out (by decide)) BK453.out (by decide)) (fun _ hk => hk.2) (.bool t449)) (fun _ hk => hk.2) (.slice Ao8 t450.length co8)) (fun _ hk => ⟨hk.1.1.1.1, ⟨hk.1.1.2, hk.1.2⟩⟩))⟩, ⟨kx BK448⟩, ⟨by (with_reducible repeat (first | refine zr ?_ _ | refine zw ?_ | refine za ?_ _)); refine blk_put (cs := #[.bool t449, .slice none 0 0]) ?_ 1 _ rfl; (with_reducible repeat (first | refine zr ?_ _ | refine zw ?_ | refine za ?_ _)); refine blk_put (cs := #[.bool false, .slice none 0 0]) ?_ 0 _ rfl; (with_reducible repeat (first | refine zr ?_ _ | refine zw ?_ | refine za ?_ _)); exact BK453.out⟩, ⟨ky HB⟩⟩
 case round =>
  clear H'
  try clear p2; try clear c3; try clear c5; try clear c6; try clear hcz7_0; try clear hcz7_1; try clear hfz7_0; try clear hfz7_1
  obtain ⟨x4_1, x454000_1, x454001_1, u454001, rfl, HA, HK1, HO_454001, BK448, BK453, HB⟩ := hrel
  cases gk with
  | zero => exact absurd HA.out (by simp [cobwebref01_Power.l0])
  | succ k1 =>
   have H := HA.out; clear HA
   simp only [cobwebref01_Power.l0] at H
   by_cases c9 : x4_1 < a0
   rotate_left
   ·rw [if_neg c9] at H
    have c9b0 : decide (x4_1 < a0) = false := decide_eq_false c9; clear c9
    simp only [Option.some.injEq, Prod.mk.injEq] at H
    obtain ⟨rfl, rfl⟩ := H; have hnb17 := NB453_448.out; have hnc17 := NB448_453.out; obtain ⟨hcz18_0, hcz18_1⟩ := kc2 BK453; obtain ⟨hfz18_0, hfz18_1⟩ := kf2 BK453; obtain ⟨hcz19_0, hcz19_1⟩ := kc2 BK448; obtain ⟨hfz19_0, hfz19_1⟩ := kf2 BK448; obtain ⟨Ao20, co20, eo20⟩ := Kd.V_slice HO_454001.out; subst eo20
    go_wp2
    refine bodyPost_ret (results_cell_row rfl _ _ gb448 33 #[.bool x454000_1, .slice Ao20 x454001_1.length co20] (0, 0) _ rfl (by (with_reducible repeat (first | refine zr ?_ _ | refine zw ?_ | refine za ?_ _)); refine blk_put (cs := #[.bool x454000_1, .slice none 0 0]) ?_ 1 _ rfl; (with_reducible repeat (first | refine zr ?_ _ | refine zw ?_ | refine za ?_ _)); refine blk_put (cs := #[.bool false, .slice none 0 0]) ?_ 0 _ rfl; (with_reducible repeat (first | refine zr ?_ _ | refine zw ?_ | refine za ?_ _)); exact BK448.out) Try.underlying33 rfl (by kernel_rfl)) rfl ?_; exact ⟨_, by first | rfl | (simp [errW_none, errW_some] <;> rfl) | (simp [*, errW_none, errW_some] <;> rfl), by (with_reducible repeat (first | apply Kd.V_alloc | apply Kd.V_drewN | apply Kd.V_drew)); exact Kd.V_mono (Kd.V_far (p := ⟨gb448, 1, none⟩) (Kd.V_far (p := ⟨gb448, 0, none⟩) (Kd.V_mono HO_454001.out (fun k_ hk => (⟨hk, hk.2.1⟩ : _ ∧ k_ ≠ gb448))) (fun _ hk => hk.2) (.bool x454000_1)) (fun _ hk => hk.2) (.slice Ao20 x454001_1.length co20)) (fun _ hk => hk.1.1), ky HB⟩

   rw [if_pos c9] at H
   have c9b0 : decide (x4_1 < a0) = true := decide_eq_true c9; clear c9; replace H := Option.bind_eq_some_iff.mp H; obtain ⟨⟨t454, t455⟩, A100, H⟩ := H; (try dsimp only at H); have A10 := Aside0.mk A100; clear A100; have H' := Aside0.mk H; clear H; have hnb11 := NB453_448.out; have hnc11 := NB448_453.out; obtain ⟨hcz12_0, hcz12_1⟩ := kc2 BK453; obtain ⟨hfz12_0, hfz12_1⟩ := kf2 BK453; obtain ⟨Ao13, co13, eo13⟩ := Kd.V_slice HO_454001.out; subst eo13
   go_wp2_with (first | ((with_reducible refine gate_callee (f := 58) rfl ?_); refine gL 13 Try.func58 #[.agg #[.bool x454000_1, .slice Ao13 x454001_1.length co13], .agg #[.bool x454000_1, .slice Ao13 x454001_1.length co13]] ?_; (with_reducible refine (cobwebref01_Add.calls k1 x454000_1 _ _ x454001_1 x454000_1 _ _ x454001_1 t454 t455 _ ?side1 ?side2 ?side3 ?side4 A10.out).mono ?_); (case side1 => exact kQ ((Kd.V_reads' HO_454001.out).2.2)); (case side2 => exact (Kd.V_reads' HO_454001.out).2.1); (case side3 => exact kQ ((Kd.V_reads' HO_454001.out).2.2)); (case side4 => exact (Kd.V_reads' HO_454001.out).2.1); rintro e w14 ⟨v456, rfl, ho0, hb⟩; refine ⟨_, rfl, ?_⟩; have HO457 := Aside0.mk (Kd.V_lower (Kd.V_mono (ok' := fun k_ => (w.heap.size ≤ k_) ∧ k_ ≠ gb448 ∧ k_ ≠ gb453) ho0 (fun k_ hk_ => ⟨(Nat.le_trans (ko HB) hk_), (kF BK448 k_ hk_), (kF BK453 k_ hk_)⟩)) (ko HB)); replace HO_454001 := kV HO_454001 hb; replace BK448 := kb BK448 hb; replace BK453 := kb BK453 hb; replace HB := kB HB hb; (try clear hb); (try clear hb2); (try clear hk); (try clear hi); (try clear ho0); have hcz15_0 : w14.cell? ⟨gb453, 0, none⟩ = some (.bool x454000_1) := kc BK453 0; have hcz15_1 : w14.cell? ⟨gb453, 1, none⟩ = some (.slice Ao13 x454001_1.length co13) := kc BK453 1; have hfz15_0 := blk_frozen BK453.out 0; have hfz15_1 := blk_frozen BK453.out 1; obtain ⟨Ao16, co16, eo16⟩ := Kd.V_slice HO457.out; subst eo16))
   go_roundg k1
   case measure => have := HK1.out; omega
   case rel => exact ⟨(wrap64 (x4_1 + 1)), (t454), (t455), (.slice Ao16 t455.length co16), (by first | rfl | (simp; done) | (simp [*]; done)), H', ⟨by have := HK1.out; omega⟩, ⟨by (with_reducible repeat (first | apply Kd.V_alloc | apply Kd.V_drewN | apply Kd.V_drew)); exact Kd.V_mono (Kd.V_far (p := ⟨gb453, 1, none⟩) (Kd.V_far (p := ⟨gb453, 0, none⟩) (Kd.V_mono HO457.out (fun k_ hk => (⟨hk, hk.2.2⟩ : _ ∧ k_ ≠ gb453))) (fun _ hk => hk.2) (.bool t454)) (fun _ hk => hk.2) (.slice Ao16 t455.length co16)) (fun _ hk => ⟨hk.1.1, ⟨hk.1.2.1, hk.1.2.2⟩⟩)⟩, ⟨kx BK448⟩, ⟨by (with_reducible repeat (first | refine zr ?_ _ | refine zw ?_ | refine za ?_ _)); refine blk_put (cs := #[.bool t454, .slice Ao13 x454001_1.length co13]) ?_ 1 _ rfl; (with_reducible repeat (first | refine zr ?_ _ | refine zw ?_ | refine za ?_ _)); refine blk_put (cs := #[.bool x454000_1, .slice Ao13 x454001_1.length co13]) ?_ 0 _ rfl; (with_reducible repeat (first | refine zr ?_ _ | refine zw ?_ | refine za ?_ _)); exact BK453.out⟩, ⟨ky HB⟩⟩
end Go.Proofs.Ytpjbniihdndlmab.Q
