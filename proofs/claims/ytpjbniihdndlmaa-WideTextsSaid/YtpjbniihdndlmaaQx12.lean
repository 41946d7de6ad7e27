-- Printed by wip/pp.sh (a session's own turning of the kit's print) for this seat.
import Derived.Test.YtpjbniihdndlmaaQx0
import Derived.Test.YtpjbniihdndlmaaQx11
namespace Go.Proofs.Ytpjbniihdndlmaa.Q
open Go.RowKit Go.Proofs.YtpjbniihdndlmaaW.PrintWords Go.Proofs.YtpjbniihdndlmaaW.PrintLast Go.Proofs.YtpjbniihdndlmaaW.PrintMore
open Go.Proofs.Ytpjbniihdndlmaa.H
attribute [local go_sem] hq_add64 hq_sub64 hq_not64 add64c_nn sub64c_nn sub64c_le
attribute [local go_sem] max2_int min2_int max_two min_two max_three min_three max_four min_four   -- for this text's walks alone
set_option linter.unusedVariables false
set_option linter.unusedSimpArgs false

/-! ### cobwebref01_plus: function 77 -/
mutual
def cobwebref01_plus.l0 : Nat → List Int → List Int → List Int → Int → Int → Option (List Int)
 | 0, _, _, _, _, _ => none
 | k + 1, x0, x1, x5, x6, x7 => if x7 < (mx (x0.length : Int) (x1.length : Int)) then (cobwebref01_plus.j1 k x0 x1 x5 x6 x7 true) else (cobwebref01_plus.j1 k x0 x1 x5 x6 x7 (decide (x6 > 0)))
def cobwebref01_plus.j1 : Nat → List Int → List Int → List Int → Int → Int → Bool → Option (List Int)
 | 0, _, _, _, _, _, _ => none
 | k + 1, x0, x1, x5, x6, x7, x18 => if x18 = true then ((cobwebref01_digit.f x0 x7).bind fun t334 => ((cobwebref01_digit.f x1 x7).bind fun t335 => ((cobwebref01_base.f).bind fun t336 => (if t336 = 0 then (none) else (if x5.length < 17592186044416 then ((cobwebref01_base.f).bind fun t340 => (if t340 = 0 then (none) else (cobwebref01_plus.l0 k x0 x1 (x5 ++ [Int.tmod (wrap64 ((wrap64 (x6 + t334)) + t335)) t336]) (wrap64 (Int.tdiv (wrap64 ((wrap64 (x6 + t334)) + t335)) t340)) (wrap64 (x7 + 1))))) else (none)))))) else (some x5)
end
def cobwebref01_plus.f (k : Nat) (l0 : List Int) (l1 : List Int) : Option (List Int) := cobwebref01_plus.l0 k l0 l1 ([] : List Int) 0 0
theorem cobwebref01_plus.mono_l : ∀ k, (∀ y0 y1 y2 y3 y4, LeO (cobwebref01_plus.l0 k y0 y1 y2 y3 y4) (cobwebref01_plus.l0 (k + 1) y0 y1 y2 y3 y4)) ∧ (∀ y0 y1 y2 y3 y4 y5, LeO (cobwebref01_plus.j1 k y0 y1 y2 y3 y4 y5) (cobwebref01_plus.j1 (k + 1) y0 y1 y2 y3 y4 y5))
 | 0 => ⟨fun _ _ _ _ _ r h => by simp [cobwebref01_plus.l0] at h, fun _ _ _ _ _ _ r h => by simp [cobwebref01_plus.j1] at h⟩
 | k + 1 => by
  obtain ⟨ih0, ih1⟩ := cobwebref01_plus.mono_l k; refine ⟨?_, ?_⟩
  ·intro y0 y1 y2 y3 y4
   unfold cobwebref01_plus.l0
   repeat' first
   | (with_reducible exact ih0 _ _ _ _ _)
   | (with_reducible exact ih1 _ _ _ _ _ _)
   | (with_reducible exact LeO.refl _)
   | (with_reducible exact LeO.none _)
   | (with_reducible refine LeO.ite ?_ ?_)
   | (with_reducible refine LeO.bind ?_ (fun _ => ?_))
   | exact ih0 _ _ _ _ _
   | exact ih1 _ _ _ _ _ _
   | exact LeO.none _
   | refine LeO.ite ?_ ?_
   | refine LeO.bind ?_ (fun _ => ?_)
  ·intro y0 y1 y2 y3 y4 y5
   unfold cobwebref01_plus.j1
   repeat' first
   | (with_reducible exact ih0 _ _ _ _ _)
   | (with_reducible exact ih1 _ _ _ _ _ _)
   | (with_reducible exact LeO.refl _)
   | (with_reducible exact LeO.none _)
   | (with_reducible refine LeO.ite ?_ ?_)
   | (with_reducible refine LeO.bind ?_ (fun _ => ?_))
   | exact ih0 _ _ _ _ _
   | exact ih1 _ _ _ _ _ _
   | exact LeO.none _
   | refine LeO.ite ?_ ?_
   | refine LeO.bind ?_ (fun _ => ?_)
theorem cobwebref01_plus.mono : ∀ a0 a1 k, LeO (cobwebref01_plus.f k a0 a1) (cobwebref01_plus.f (k + 1) a0 a1) := by
 intro a0 a1 k; obtain ⟨ih0, ih1⟩ := cobwebref01_plus.mono_l k
 unfold cobwebref01_plus.f
 repeat' first
   | (with_reducible exact ih0 _ _ _ _ _)
   | (with_reducible exact ih1 _ _ _ _ _ _)
   | (with_reducible exact LeO.refl _)
   | (with_reducible exact LeO.none _)
   | (with_reducible refine LeO.ite ?_ ?_)
   | (with_reducible refine LeO.bind ?_ (fun _ => ?_))
   | exact ih0 _ _ _ _ _
   | exact ih1 _ _ _ _ _ _
   | exact LeO.none _
   | refine LeO.ite ?_ ?_
   | refine LeO.bind ?_ (fun _ => ?_)
set_option maxHeartbeats 8000000 in
set_option maxRecDepth 100000 in
theorem cobwebref01_plus.calls (k : Nat) (A0 : Option Addr) (c0 : Nat) (l0 : List Int) (A1 : Option Addr) (c1 : Nat) (l1 : List Int) (r : List Int) (w : World) (hr0 : Kd.C (Kd.int .i64) w A0 l0.length l0) (hc0 : l0.length ≤ c0) (hr1 : Kd.C (Kd.int .i64) w A1 l1.length l1) (hc1 : l1.length ≤ c1) (h : cobwebref01_plus.f k l0 l1 = some r) :
  Calls Try.prog 77 #[.slice A0 l0.length c0, .slice A1 l1.length c1] w fun e w' => ∃ v0_ : Value, e = .returned (v0_) ∧ Kd.R (Kd.int .i64) 3 w' w.heap.size (fun _ => True) v0_ r ∧ Below w.heap.size w w' := by
 have HR0 := Aside0.mk hr0; have HC0 := Aside0.mk hc0; clear hr0 hc0; have HR1 := Aside0.mk hr1; have HC1 := Aside0.mk hc1; clear hr1 hc1; have HB := Aside0.mk (Below.refl w.heap.size w); have H : (cobwebref01_plus.l0 k l0 l1 ([] : List Int) 0 0) = some r := h; clear h; have H' := Aside0.mk H; clear H
 go_enter Try.func77, Try.ntmps77
 go_wp2
 go_loopg [5, 6, 7] k (fun kq v5 v6 v7 w' => ∃ (x5_1 : List Int) (x6_1 : Int) (x7_1 : Int), v6 = .int .i64 x6_1 ∧ v7 = .int .i64 x7_1 ∧ Aside0 (cobwebref01_plus.l0 kq l0 l1 x5_1 x6_1 x7_1 = some r) ∧ Aside0 (kq ≤ k) ∧ Aside0 (Kd.R (Kd.int .i64) 3 w' w.heap.size (fun _ => True) v5 x5_1) ∧ Aside0 (Below w.heap.size w w'))
 case atStart => exact ⟨(([] : List Int)), (0), (0), (by first | rfl | (simp; done) | (simp [*]; done)), (by first | rfl | (simp; done) | (simp [*]; done)), H', ⟨Nat.le_refl _⟩, ⟨by first | exact Kd.R_nil _ _ _ _ _ | exact Kd.N_nil _ _ _ _ _ | exact Kd.V_nil _ _ _ _ _ | exact Kd.Q_nil _ _ _ _ _ | exact Kd.S_nil _ _ _ _ _⟩, ⟨ky HB⟩⟩
 case round =>
  clear H'
  try clear c1; try clear p2
  obtain ⟨x5_1, x6_1, x7_1, rfl, rfl, HA, HK1, HO_5, HB⟩ := hrel
  cases gk with
  | zero => exact absurd HA.out (by simp [cobwebref01_plus.l0])
  | succ k1 =>
   have H := HA.out; clear HA
   simp only [cobwebref01_plus.l0] at H
   have HC3 := Aside0.mk H; clear H
   go_upto_region 4 with (fail)
   go_cut [18] (fun v18 wc => ∃ (kq : Nat) (x18_2 : Bool), v18 = .bool x18_2 ∧ Aside0 (cobwebref01_plus.j1 kq l0 l1 x5_1 x6_1 x7_1 x18_2 = some r) ∧ Aside0 (kq ≤ k1) ∧ Aside0 (Kd.R (Kd.int .i64) 3 wc w.heap.size (fun _ => True) u5 x5_1) ∧ Aside0 (Below w.heap.size w wc))
   case first =>
    have H := HC3.out; clear HC3; obtain ⟨ji4, hji4⟩ : ∃ j_ : Int, (mx (l0.length : Int) (l1.length : Int)) = j_ := ⟨_, rfl⟩
    replace H : (if x7_1 < (ji4) then (cobwebref01_plus.j1 k1 l0 l1 x5_1 x6_1 x7_1 true) else (cobwebref01_plus.j1 k1 l0 l1 x5_1 x6_1 x7_1 (decide (x6_1 > 0)))) = some r := by first | (rw [hji4] at H; exact H) | (simp only [hji4] at H ⊢; exact H)
    (try (have hji4l : 0 ≤ ji4 := by (rw [← hji4]; unfold mx; (repeat' split) <;> omega)))
    (try (have hji4m : 0 ≤ ji4 := by omega))
    have hji4n_ : (if l0.length < l1.length then (l1.length : Int) else (l0.length : Int)) = ji4 := by (simp only [← Int.ofNat_lt]; exact hji4)
    have hji4_ : (if (l0.length : Int) < (l1.length : Int) then (l1.length : Int) else (l0.length : Int)) = ji4 := hji4
    by_cases c5 : x7_1 < (ji4)
    ·rw [if_pos c5] at H
     have c5b0 : decide (x7_1 < (ji4)) = true := decide_eq_true c5; clear c5
     (first | rw [c5b0] | (simp only [i64_w, i32_w]; rw [c5b0]) | skip)
     have H' := Aside0.mk H; clear H
     go_wp2
     go_meet
     case rel => exact ⟨_, (true), (by first | rfl | (simp; done) | (simp [*]; done)), H', ⟨by have := HK1.out; first | omega | exact Nat.le_refl _⟩, ⟨by (with_reducible repeat (first | apply Kd.R_alloc | apply Kd.R_drewN | apply Kd.R_drew)); exact HO_5.out⟩, ⟨ky HB⟩⟩
    rw [if_neg c5] at H
    have c5b0 : decide (x7_1 < (ji4)) = false := decide_eq_false c5; clear c5
    (first | rw [c5b0] | (simp only [i64_w, i32_w]; rw [c5b0]) | skip)
    have H' := Aside0.mk H; clear H
    go_wp2
    go_meet
    case rel => exact ⟨_, (decide (x6_1 > 0)), (by first | rfl | (simp; done) | (simp [*]; done)), H', ⟨by have := HK1.out; first | omega | exact Nat.le_refl _⟩, ⟨by (with_reducible repeat (first | apply Kd.R_alloc | apply Kd.R_drewN | apply Kd.R_drew)); exact HO_5.out⟩, ⟨ky HB⟩⟩
   case rest =>
    clear HC3; try clear c1; try clear p2; try clear c5; try clear c5b0; try clear p2
    obtain ⟨kq, x18_2, rfl, HA, HJ2, HO_5, HB⟩ := hcut
    cases kq with
    | zero => exact absurd HA.out (by simp [cobwebref01_plus.j1])
    | succ kj2 =>
     have H := HA.out; clear HA
     simp only [cobwebref01_plus.j1] at H
     by_cases c6 : x18_2 = true
     rotate_left
     ·replace c6 := Bool.eq_false_iff.mpr c6; subst c6
      have H1 : (some x5_1) = some r := by rw [if_neg (show ¬ (false = true) by decide)] at H; exact H
      clear H; have H := H1; clear H1; obtain rfl := Option.some.inj H
      go_wp2
      go_ret
      exact ⟨_, by first | rfl | (simp [errW_none, errW_some] <;> rfl) | (simp [*, errW_none, errW_some] <;> rfl), by (with_reducible repeat (first | apply Kd.R_alloc | apply Kd.R_drewN | apply Kd.R_drew)); exact HO_5.out, ky HB⟩

     subst c6
     have H1 : ((cobwebref01_digit.f l0 x7_1).bind fun t334 => ((cobwebref01_digit.f l1 x7_1).bind fun t335 => ((cobwebref01_base.f).bind fun t336 => (if t336 = 0 then (none) else (if x5_1.length < 17592186044416 then ((cobwebref01_base.f).bind fun t340 => (if t340 = 0 then (none) else (cobwebref01_plus.l0 kj2 l0 l1 (x5_1 ++ [Int.tmod (wrap64 ((wrap64 (x6_1 + t334)) + t335)) t336]) (wrap64 (Int.tdiv (wrap64 ((wrap64 (x6_1 + t334)) + t335)) t340)) (wrap64 (x7_1 + 1))))) else (none)))))) = some r := by rw [if_pos rfl] at H; exact H
     clear H; have H := H1; clear H1; replace H := Option.bind_eq_some_iff.mp H; obtain ⟨t334, A70, H⟩ := H; replace H : ((cobwebref01_digit.f l1 x7_1).bind fun t335 => ((cobwebref01_base.f).bind fun t336 => (if t336 = 0 then (none) else (if x5_1.length < 17592186044416 then ((cobwebref01_base.f).bind fun t340 => (if t340 = 0 then (none) else (cobwebref01_plus.l0 kj2 l0 l1 (x5_1 ++ [Int.tmod (wrap64 ((wrap64 (x6_1 + t334)) + t335)) t336]) (wrap64 (Int.tdiv (wrap64 ((wrap64 (x6_1 + t334)) + t335)) t340)) (wrap64 (x7_1 + 1))))) else (none))))) = some r := H; have A7 := Aside0.mk A70; clear A70; replace H := Option.bind_eq_some_iff.mp H; obtain ⟨t335, A80, H⟩ := H; replace H : ((cobwebref01_base.f).bind fun t336 => (if t336 = 0 then (none) else (if x5_1.length < 17592186044416 then ((cobwebref01_base.f).bind fun t340 => (if t340 = 0 then (none) else (cobwebref01_plus.l0 kj2 l0 l1 (x5_1 ++ [Int.tmod (wrap64 ((wrap64 (x6_1 + t334)) + t335)) t336]) (wrap64 (Int.tdiv (wrap64 ((wrap64 (x6_1 + t334)) + t335)) t340)) (wrap64 (x7_1 + 1))))) else (none)))) = some r := H; have A8 := Aside0.mk A80; clear A80; replace H := Option.bind_eq_some_iff.mp H; obtain ⟨t336, A90, H⟩ := H; replace H : (if t336 = 0 then (none) else (if x5_1.length < 17592186044416 then ((cobwebref01_base.f).bind fun t340 => (if t340 = 0 then (none) else (cobwebref01_plus.l0 kj2 l0 l1 (x5_1 ++ [Int.tmod (wrap64 ((wrap64 (x6_1 + t334)) + t335)) t336]) (wrap64 (Int.tdiv (wrap64 ((wrap64 (x6_1 + t334)) + t335)) t340)) (wrap64 (x7_1 + 1))))) else (none))) = some r := H; have A9 := Aside0.mk A90; clear A90
     by_cases c10 : t336 = 0
     ·rw [if_pos c10] at H
      exact absurd H (by simp)
     rw [if_neg c10] at H
     have c10b0 : (t336 == 0) = false := beq_eq_false_iff_ne.mpr c10; have c10b1 : (t336 != 0) = true := bne_iff_ne.mpr c10
     by_cases c11 : x5_1.length < 17592186044416
     rotate_left
     ·rw [if_neg c11] at H
      exact absurd H (by simp)
     rw [if_pos c11] at H
     have LMc11 := Aside0.mk c11; clear c11; obtain ⟨y337, hy337⟩ : ∃ y_ : List Int, y_ = (x5_1 ++ [Int.tmod (wrap64 ((wrap64 (x6_1 + t334)) + t335)) t336]) := ⟨_, rfl⟩
     replace H : ((cobwebref01_base.f).bind fun t340 => (if t340 = 0 then (none) else (cobwebref01_plus.l0 kj2 l0 l1 y337 (wrap64 (Int.tdiv (wrap64 ((wrap64 (x6_1 + t334)) + t335)) t340)) (wrap64 (x7_1 + 1))))) = some r := by first | (rw [hy337]; with_reducible exact H) | (have H2_ := (Option.bind_some _ _).symm.trans H; rw [hy337]; with_reducible exact H2_) | (have H2_ := (Option.bind_some _ _).symm.trans H; with_reducible exact H2_) | with_reducible exact H | (rw [hy337]; exact H) | exact H
     have Ny337 := Aside0.mk hy337; clear hy337; replace H := Option.bind_eq_some_iff.mp H; obtain ⟨t340, A120, H⟩ := H; replace H : (if t340 = 0 then (none) else (cobwebref01_plus.l0 kj2 l0 l1 y337 (wrap64 (Int.tdiv (wrap64 ((wrap64 (x6_1 + t334)) + t335)) t340)) (wrap64 (x7_1 + 1)))) = some r := H; have A12 := Aside0.mk A120; clear A120
     by_cases c13 : t340 = 0
     ·rw [if_pos c13] at H
      exact absurd H (by simp)
     rw [if_neg c13] at H
     have c13b0 : (t340 == 0) = false := beq_eq_false_iff_ne.mpr c13; have c13b1 : (t340 != 0) = true := bne_iff_ne.mpr c13; have H' := Aside0.mk H; clear H
     go_wp2_with (first | ((with_reducible refine gate_callee (f := 55) rfl ?_); refine goesL_ (some 24) rfl rfl Try.func55 (by kernel_rfl) rfl #[.slice A0 l0.length c0, .int .i64 x7_1] rfl (by (try simp only [zm, zc, zn]); first | done | rfl | (simp only [zd, zt]; rfl)) ?_; (with_reducible refine (cobwebref01_digit.calls _ _ l0 x7_1 t334 _ ?side1 ?side2 A7.out).mono ?_); (case side1 => repeat (first | exact (Kd.C_below HR0.out HB.out) | (with_reducible refine Kd.C_alloc ?_ _) | (with_reducible refine Kd.C_drewN ?_ _) | (with_reducible refine Kd.C_drew ?_))); (case side2 => exact HC0.out); rintro e w' ⟨rfl, ⟨nd, rfl⟩⟩; refine ⟨_, rfl, ?_⟩) | ((with_reducible refine gate_callee (f := 55) rfl ?_); refine goesL_ (some 28) rfl rfl Try.func55 (by kernel_rfl) rfl #[.slice A1 l1.length c1, .int .i64 x7_1] rfl (by (try simp only [zm, zc, zn]); first | done | rfl | (simp only [zd, zt]; rfl)) ?_; (with_reducible refine (cobwebref01_digit.calls _ _ l1 x7_1 t335 _ ?side1 ?side2 A8.out).mono ?_); (case side1 => repeat (first | exact (Kd.C_below HR1.out (ky HB)) | (with_reducible refine Kd.C_alloc ?_ _) | (with_reducible refine Kd.C_drewN ?_ _) | (with_reducible refine Kd.C_drew ?_))); (case side2 => exact HC1.out); rintro e w' ⟨rfl, ⟨nd, rfl⟩⟩; refine ⟨_, rfl, ?_⟩) | ((with_reducible refine gate_callee (f := 56) rfl ?_); refine goesL_ (some 32) rfl rfl Try.func56 (by kernel_rfl) rfl #[] rfl (by (try simp only [zm, zc, zn]); first | done | rfl | (simp only [zd, zt]; rfl)) ?_; (with_reducible refine (cobwebref01_base.calls  t336 _ A9.out).mono ?_); rintro e w' ⟨rfl, ⟨nd, rfl⟩⟩; refine ⟨_, rfl, ?_⟩) | ((with_reducible refine gate_builtin (b := .append) (xs := #[.tmp 30, .tmp 34]) rfl ?_); at_builtin; refine Kd.R_append (Kd.int .i64) (w0 := w) w.heap.size rfl (.tmp 30) (.tmp 34) 30 3 (.int .i64 0) 8 rfl Try.underlying30 info3 rfl (by decide) (by omega) u5 x5_1 (Int.tmod (wrap64 ((wrap64 (x6_1 + t334)) + t335)) t336) [.int .i64 (Int.tmod (wrap64 ((wrap64 (x6_1 + t334)) + t335)) t336)] (fun _ => True) (fun _ => False) rfl rfl ?aP (fun _ hk => hk.elim) ?aF ?aO ?aB ?aS ?aL ?_; (case aP => exact rfl); (case aB => exact (ky HB)); (case aF => exact (fun _ _ => trivial)); (case aO => exact (kr HO_5)); (case aS => exact (ko HB)); (case aL => have := LMc11.out; omega); intro v338 w14 ho hb hg hat; rw [← Ny337.out] at ho; have n0_ := Aside0.mk (hb); have n1_ := Aside0.mk (ho); clear HB; clear HO_5; have HB := n0_; have HO339 := n1_; clear n0_ n1_; clear ho hb hg hat) | ((with_reducible refine gate_callee (f := 56) rfl ?_); refine goesL_ (some 37) rfl rfl Try.func56 (by kernel_rfl) rfl #[] rfl (by (try simp only [zm, zc, zn]); first | done | rfl | (simp only [zd, zt]; rfl)) ?_; (with_reducible refine (cobwebref01_base.calls  t340 _ A12.out).mono ?_); rintro e w' ⟨rfl, ⟨nd, rfl⟩⟩; refine ⟨_, rfl, ?_⟩))
     go_roundg kj2
     case measure => have := HK1.out; have := HJ2.out; omega
     case rel => exact ⟨(y337), (wrap64 (Int.tdiv (wrap64 ((wrap64 (x6_1 + t334)) + t335)) t340)), (wrap64 (x7_1 + 1)), (by first | rfl | (simp; done) | (simp [*]; done)), (by first | rfl | (simp; done) | (simp [*]; done)), H', ⟨by have := HK1.out; have := HJ2.out; omega⟩, ⟨by (with_reducible repeat (first | apply Kd.R_alloc | apply Kd.R_drewN | apply Kd.R_drew)); exact HO339.out⟩, ⟨ky HB⟩⟩
/-! ### cobwebref01_minus: function 78 -/
def cobwebref01_minus.l0 : Nat → List Int → List Int → List Int → Int → Int → Option (List Int)
 | 0, _, _, _, _, _ => none
 | k + 1, x0, x1, x5, x6, x7 => if x7 < (x0.length : Int) then (if 0 ≤ x7 then ((cobwebref01_digit.f x1 x7).bind fun t342 => (if (wrap64 ((wrap64 ((rd x0 x7) - t342)) - x6)) < 0 then ((cobwebref01_base.f).bind fun t343 => (if x5.length < 17592186044416 then (cobwebref01_minus.l0 k x0 x1 (x5 ++ [wrap64 ((wrap64 ((wrap64 ((rd x0 x7) - t342)) - x6)) + t343)]) 1 (wrap64 (x7 + 1))) else (none))) else (if x5.length < 17592186044416 then (cobwebref01_minus.l0 k x0 x1 (x5 ++ [wrap64 ((wrap64 ((rd x0 x7) - t342)) - x6)]) 0 (wrap64 (x7 + 1))) else (none)))) else (none)) else (some x5)
def cobwebref01_minus.f (k : Nat) (l0 : List Int) (l1 : List Int) : Option (List Int) := cobwebref01_minus.l0 k l0 l1 ([] : List Int) 0 0
theorem cobwebref01_minus.mono_l : ∀ k, (∀ y0 y1 y2 y3 y4, LeO (cobwebref01_minus.l0 k y0 y1 y2 y3 y4) (cobwebref01_minus.l0 (k + 1) y0 y1 y2 y3 y4))
 | 0 => fun _ _ _ _ _ r h => by simp [cobwebref01_minus.l0] at h
 | k + 1 => by
  have ih0 := cobwebref01_minus.mono_l k
  ·intro y0 y1 y2 y3 y4
   unfold cobwebref01_minus.l0
   repeat' first
   | (with_reducible exact ih0 _ _ _ _ _)
   | (with_reducible exact LeO.refl _)
   | (with_reducible exact LeO.none _)
   | (with_reducible refine LeO.ite ?_ ?_)
   | (with_reducible refine LeO.bind ?_ (fun _ => ?_))
   | exact ih0 _ _ _ _ _
   | exact LeO.none _
   | refine LeO.ite ?_ ?_
   | refine LeO.bind ?_ (fun _ => ?_)
theorem cobwebref01_minus.mono : ∀ a0 a1 k, LeO (cobwebref01_minus.f k a0 a1) (cobwebref01_minus.f (k + 1) a0 a1) := by
 intro a0 a1 k; have ih0 := cobwebref01_minus.mono_l k
 unfold cobwebref01_minus.f
 repeat' first
   | (with_reducible exact ih0 _ _ _ _ _)
   | (with_reducible exact LeO.refl _)
   | (with_reducible exact LeO.none _)
   | (with_reducible refine LeO.ite ?_ ?_)
   | (with_reducible refine LeO.bind ?_ (fun _ => ?_))
   | exact ih0 _ _ _ _ _
   | exact LeO.none _
   | refine LeO.ite ?_ ?_
   | refine LeO.bind ?_ (fun _ => ?_)
set_option maxHeartbeats 8000000 in
set_option maxRecDepth 100000 in
theorem cobwebref01_minus.calls (k : Nat) (A0 : Option Addr) (c0 : Nat) (l0 : List Int) (A1 : Option Addr) (c1 : Nat) (l1 : List Int) (r : List Int) (w : World) (hr0 : Kd.C (Kd.int .i64) w A0 l0.length l0) (hc0 : l0.length ≤ c0) (hr1 : Kd.C (Kd.int .i64) w A1 l1.length l1) (hc1 : l1.length ≤ c1) (h : cobwebref01_minus.f k l0 l1 = some r) :
  Calls Try.prog 78 #[.slice A0 l0.length c0, .slice A1 l1.length c1] w fun e w' => ∃ v0_ : Value, e = .returned (v0_) ∧ Kd.R (Kd.int .i64) 3 w' w.heap.size (fun _ => True) v0_ r ∧ Below w.heap.size w w' := by
 have HR0 := Aside0.mk hr0; have HC0 := Aside0.mk hc0; clear hr0 hc0; have HR1 := Aside0.mk hr1; have HC1 := Aside0.mk hc1; clear hr1 hc1; have HB := Aside0.mk (Below.refl w.heap.size w); have H : (cobwebref01_minus.l0 k l0 l1 ([] : List Int) 0 0) = some r := h; clear h; have H' := Aside0.mk H; clear H
 go_enter Try.func78, Try.ntmps78
 go_wp2
 repeat (go_quiet (fail); try go_wp2)
 go_loopg [5, 6, 7] k (fun kq v5 v6 v7 w' => ∃ (x5_1 : List Int) (x6_1 : Int) (x7_1 : Int), v6 = .int .i64 x6_1 ∧ v7 = .int .i64 x7_1 ∧ Aside0 (cobwebref01_minus.l0 kq l0 l1 x5_1 x6_1 x7_1 = some r) ∧ Aside0 (kq ≤ k) ∧ Aside0 (Kd.R (Kd.int .i64) 3 w' w.heap.size (fun _ => True) v5 x5_1) ∧ Aside0 (Below w.heap.size w w'))
 case atStart => exact ⟨(([] : List Int)), (0), (0), (by first | rfl | (simp; done) | (simp [*]; done)), (by first | rfl | (simp; done) | (simp [*]; done)), H', ⟨Nat.le_refl _⟩, ⟨by first | exact Kd.R_nil _ _ _ _ _ | exact Kd.N_nil _ _ _ _ _ | exact Kd.V_nil _ _ _ _ _ | exact Kd.Q_nil _ _ _ _ _ | exact Kd.S_nil _ _ _ _ _⟩, ⟨ky HB⟩⟩
 case round =>
  clear H'
  try clear c1; try clear p2
  obtain ⟨x5_1, x6_1, x7_1, rfl, rfl, HA, HK1, HO_5, HB⟩ := hrel
  cases gk with
  | zero => exact absurd HA.out (by simp [cobwebref01_minus.l0])
  | succ k1 =>
   have H := HA.out; clear HA
   simp only [cobwebref01_minus.l0] at H
   by_cases c3 : x7_1 < (l0.length : Int)
   rotate_left
   ·rw [if_neg c3] at H
    have c3b0 : decide (x7_1 < (l0.length : Int)) = false := decide_eq_false c3; clear c3; obtain rfl := Option.some.inj H
    go_wp2
    repeat (go_quiet (fail); try go_wp2)
    go_ret
    exact ⟨_, by first | rfl | (simp [errW_none, errW_some] <;> rfl) | (simp [*, errW_none, errW_some] <;> rfl), by (with_reducible repeat (first | apply Kd.R_alloc | apply Kd.R_drewN | apply Kd.R_drew)); exact HO_5.out, ky HB⟩

   rw [if_pos c3] at H
   have c3b0 : decide (x7_1 < (l0.length : Int)) = true := decide_eq_true c3; clear c3
   by_cases c4 : 0 ≤ x7_1
   rotate_left
   ·rw [if_neg c4] at H
    exact absurd H (by simp)
   rw [if_pos c4] at H
   have c4b0 : decide (0 ≤ x7_1) = true := decide_eq_true c4; clear c4; replace H := Option.bind_eq_some_iff.mp H; obtain ⟨t342, A50, H⟩ := H; replace H : (if (wrap64 ((wrap64 ((rd l0 x7_1) - t342)) - x6_1)) < 0 then ((cobwebref01_base.f).bind fun t343 => (if x5_1.length < 17592186044416 then (cobwebref01_minus.l0 k1 l0 l1 (x5_1 ++ [wrap64 ((wrap64 ((wrap64 ((rd l0 x7_1) - t342)) - x6_1)) + t343)]) 1 (wrap64 (x7_1 + 1))) else (none))) else (if x5_1.length < 17592186044416 then (cobwebref01_minus.l0 k1 l0 l1 (x5_1 ++ [wrap64 ((wrap64 ((rd l0 x7_1) - t342)) - x6_1)]) 0 (wrap64 (x7_1 + 1))) else (none))) = some r := H; have A5 := Aside0.mk A50; clear A50
   by_cases c6 : (wrap64 ((wrap64 ((rd l0 x7_1) - t342)) - x6_1)) < 0
   rotate_left
   ·rw [if_neg c6] at H
    have c6b0 : decide ((wrap64 ((wrap64 ((rd l0 x7_1) - t342)) - x6_1)) < 0) = false := decide_eq_false c6; clear c6
    by_cases c10 : x5_1.length < 17592186044416
    rotate_left
    ·rw [if_neg c10] at H
     exact absurd H (by simp)
    rw [if_pos c10] at H
    have LMc10 := Aside0.mk c10; clear c10; obtain ⟨y347, hy347⟩ : ∃ y_ : List Int, y_ = (x5_1 ++ [wrap64 ((wrap64 ((rd l0 x7_1) - t342)) - x6_1)]) := ⟨_, rfl⟩
    replace H : (cobwebref01_minus.l0 k1 l0 l1 y347 0 (wrap64 (x7_1 + 1))) = some r := by first | (rw [hy347]; with_reducible exact H) | (have H2_ := (Option.bind_some _ _).symm.trans H; rw [hy347]; with_reducible exact H2_) | (have H2_ := (Option.bind_some _ _).symm.trans H; with_reducible exact H2_) | with_reducible exact H | (rw [hy347]; exact H) | exact H
    have Ny347 := Aside0.mk hy347; clear hy347; have H' := Aside0.mk H; clear H; have p341 : 0 ≤ (x7_1 : Int) := of_decide_eq_true (by first | (with_reducible assumption) | assumption); have q341 : x7_1 < (l0.length : Int) := of_decide_eq_true (by first | (with_reducible assumption) | assumption); obtain ⟨ad341, e341, hx341_0⟩ := Kd.at_int HR0.out x7_1 p341 q341
    cases e341
    replace hx341_0 := (HB.out.cell (World.block_lt_of_cell? w _ hx341_0)).trans hx341_0; replace p341 := eq_true p341; replace q341 := eq_true q341
    go_wp2_with (first | (go_at_call 55; (with_reducible refine (cobwebref01_digit.calls _ _ l1 x7_1 t342 _ ?side1 ?side2 A5.out).mono ?_); (case side1 => repeat (first | exact (Kd.C_below HR1.out HB.out) | (with_reducible refine Kd.C_alloc ?_ _) | (with_reducible refine Kd.C_drewN ?_ _) | (with_reducible refine Kd.C_drew ?_))); (case side2 => exact HC1.out); rintro e w' ⟨rfl, ⟨nd, rfl⟩⟩; (try first | exact ⟨rfl, _, World.drewN_drewN _ _ _⟩ | exact ⟨rfl, _, Eq.trans (World.drewN_drewN _ _ _) (congrArg (World.drewN _) (Nat.add_assoc _ _ _))⟩)) | ((with_reducible refine gate_builtin (b := .append) (xs := #[.tmp 30, .tmp 32]) rfl ?_); at_builtin; refine Kd.R_append (Kd.int .i64) (w0 := w) w.heap.size rfl (.tmp 30) (.tmp 32) 30 3 (.int .i64 0) 8 rfl Try.underlying30 info3 rfl (by decide) (by omega) u5 x5_1 (wrap64 ((wrap64 ((rd l0 x7_1) - t342)) - x6_1)) [.int .i64 (wrap64 ((wrap64 ((rd l0 x7_1) - t342)) - x6_1))] (fun _ => True) (fun _ => False) rfl rfl ?aP (fun _ hk => hk.elim) ?aF ?aO ?aB ?aS ?aL ?_; (case aP => exact rfl); (case aB => exact (ky HB)); (case aF => exact (fun _ _ => trivial)); (case aO => exact (kr HO_5)); (case aS => exact (ko HB)); (case aL => have := LMc10.out; omega); intro v348 w11 ho hb hg hat; rw [← Ny347.out] at ho; have n0_ := Aside0.mk (hb); have n1_ := Aside0.mk (ho); clear HB; clear HO_5; have HB := n0_; have HO349 := n1_; clear n0_ n1_; clear ho hb hg hat))
    repeat (go_quiet (first | (go_at_call 55; (with_reducible refine (cobwebref01_digit.calls _ _ l1 x7_1 t342 _ ?side1 ?side2 A5.out).mono ?_); (case side1 => repeat (first | exact (Kd.C_below HR1.out HB.out) | (with_reducible refine Kd.C_alloc ?_ _) | (with_reducible refine Kd.C_drewN ?_ _) | (with_reducible refine Kd.C_drew ?_))); (case side2 => exact HC1.out); rintro e w' ⟨rfl, ⟨nd, rfl⟩⟩; (try first | exact ⟨rfl, _, World.drewN_drewN _ _ _⟩ | exact ⟨rfl, _, Eq.trans (World.drewN_drewN _ _ _) (congrArg (World.drewN _) (Nat.add_assoc _ _ _))⟩)) | ((with_reducible refine gate_builtin (b := .append) (xs := #[.tmp 30, .tmp 32]) rfl ?_); at_builtin; refine Kd.R_append (Kd.int .i64) (w0 := w) w.heap.size rfl (.tmp 30) (.tmp 32) 30 3 (.int .i64 0) 8 rfl Try.underlying30 info3 rfl (by decide) (by omega) u5 x5_1 (wrap64 ((wrap64 ((rd l0 x7_1) - t342)) - x6_1)) [.int .i64 (wrap64 ((wrap64 ((rd l0 x7_1) - t342)) - x6_1))] (fun _ => True) (fun _ => False) rfl rfl ?aP (fun _ hk => hk.elim) ?aF ?aO ?aB ?aS ?aL ?_; (case aP => exact rfl); (case aB => exact (ky HB)); (case aF => exact (fun _ _ => trivial)); (case aO => exact (kr HO_5)); (case aS => exact (ko HB)); (case aL => have := LMc10.out; omega); intro v348 w11 ho hb hg hat; rw [← Ny347.out] at ho; have n0_ := Aside0.mk (hb); have n1_ := Aside0.mk (ho); clear HB; clear HO_5; have HB := n0_; have HO349 := n1_; clear n0_ n1_; clear ho hb hg hat)); try go_wp2_with (first | (go_at_call 55; (with_reducible refine (cobwebref01_digit.calls _ _ l1 x7_1 t342 _ ?side1 ?side2 A5.out).mono ?_); (case side1 => repeat (first | exact (Kd.C_below HR1.out HB.out) | (with_reducible refine Kd.C_alloc ?_ _) | (with_reducible refine Kd.C_drewN ?_ _) | (with_reducible refine Kd.C_drew ?_))); (case side2 => exact HC1.out); rintro e w' ⟨rfl, ⟨nd, rfl⟩⟩; (try first | exact ⟨rfl, _, World.drewN_drewN _ _ _⟩ | exact ⟨rfl, _, Eq.trans (World.drewN_drewN _ _ _) (congrArg (World.drewN _) (Nat.add_assoc _ _ _))⟩)) | ((with_reducible refine gate_builtin (b := .append) (xs := #[.tmp 30, .tmp 32]) rfl ?_); at_builtin; refine Kd.R_append (Kd.int .i64) (w0 := w) w.heap.size rfl (.tmp 30) (.tmp 32) 30 3 (.int .i64 0) 8 rfl Try.underlying30 info3 rfl (by decide) (by omega) u5 x5_1 (wrap64 ((wrap64 ((rd l0 x7_1) - t342)) - x6_1)) [.int .i64 (wrap64 ((wrap64 ((rd l0 x7_1) - t342)) - x6_1))] (fun _ => True) (fun _ => False) rfl rfl ?aP (fun _ hk => hk.elim) ?aF ?aO ?aB ?aS ?aL ?_; (case aP => exact rfl); (case aB => exact (ky HB)); (case aF => exact (fun _ _ => trivial)); (case aO => exact (kr HO_5)); (case aS => exact (ko HB)); (case aL => have := LMc10.out; omega); intro v348 w11 ho hb hg hat; rw [← Ny347.out] at ho; have n0_ := Aside0.mk (hb); have n1_ := Aside0.mk (ho); clear HB; clear HO_5; have HB := n0_; have HO349 := n1_; clear n0_ n1_; clear ho hb hg hat)))
    go_roundg k1
    case measure => have := HK1.out; omega
    case rel => exact ⟨(y347), (0), (wrap64 (x7_1 + 1)), (by first | rfl | (simp; done) | (simp [*]; done)), (by first | rfl | (simp; done) | (simp [*]; done)), H', ⟨by have := HK1.out; omega⟩, ⟨by (with_reducible repeat (first | apply Kd.R_alloc | apply Kd.R_drewN | apply Kd.R_drew)); exact HO349.out⟩, ⟨ky HB⟩⟩
   rw [if_pos c6] at H
   have c6b0 : decide ((wrap64 ((wrap64 ((rd l0 x7_1) - t342)) - x6_1)) < 0) = true := decide_eq_true c6; clear c6; replace H := Option.bind_eq_some_iff.mp H; obtain ⟨t343, A70, H⟩ := H; replace H : (if x5_1.length < 17592186044416 then (cobwebref01_minus.l0 k1 l0 l1 (x5_1 ++ [wrap64 ((wrap64 ((wrap64 ((rd l0 x7_1) - t342)) - x6_1)) + t343)]) 1 (wrap64 (x7_1 + 1))) else (none)) = some r := H; have A7 := Aside0.mk A70; clear A70
   by_cases c8 : x5_1.length < 17592186044416
   rotate_left
   ·rw [if_neg c8] at H
    exact absurd H (by simp)
   rw [if_pos c8] at H
   have LMc8 := Aside0.mk c8; clear c8; obtain ⟨y344, hy344⟩ : ∃ y_ : List Int, y_ = (x5_1 ++ [wrap64 ((wrap64 ((wrap64 ((rd l0 x7_1) - t342)) - x6_1)) + t343)]) := ⟨_, rfl⟩
   replace H : (cobwebref01_minus.l0 k1 l0 l1 y344 1 (wrap64 (x7_1 + 1))) = some r := by first | (rw [hy344]; with_reducible exact H) | (have H2_ := (Option.bind_some _ _).symm.trans H; rw [hy344]; with_reducible exact H2_) | (have H2_ := (Option.bind_some _ _).symm.trans H; with_reducible exact H2_) | with_reducible exact H | (rw [hy344]; exact H) | exact H
   have Ny344 := Aside0.mk hy344; clear hy344; have H' := Aside0.mk H; clear H; have p341 : 0 ≤ (x7_1 : Int) := of_decide_eq_true (by first | (with_reducible assumption) | assumption); have q341 : x7_1 < (l0.length : Int) := of_decide_eq_true (by first | (with_reducible assumption) | assumption); obtain ⟨ad341, e341, hx341_0⟩ := Kd.at_int HR0.out x7_1 p341 q341
   cases e341
   replace hx341_0 := (HB.out.cell (World.block_lt_of_cell? w _ hx341_0)).trans hx341_0; replace p341 := eq_true p341; replace q341 := eq_true q341
   go_wp2_with (first | (go_at_call 55; (with_reducible refine (cobwebref01_digit.calls _ _ l1 x7_1 t342 _ ?side1 ?side2 A5.out).mono ?_); (case side1 => repeat (first | exact (Kd.C_below HR1.out HB.out) | (with_reducible refine Kd.C_alloc ?_ _) | (with_reducible refine Kd.C_drewN ?_ _) | (with_reducible refine Kd.C_drew ?_))); (case side2 => exact HC1.out); rintro e w' ⟨rfl, ⟨nd, rfl⟩⟩; (try first | exact ⟨rfl, _, World.drewN_drewN _ _ _⟩ | exact ⟨rfl, _, Eq.trans (World.drewN_drewN _ _ _) (congrArg (World.drewN _) (Nat.add_assoc _ _ _))⟩)) | (go_at_call 56; (with_reducible refine (cobwebref01_base.calls  t343 _ A7.out).mono ?_); rintro e w' ⟨rfl, ⟨nd, rfl⟩⟩; (try first | exact ⟨rfl, _, World.drewN_drewN _ _ _⟩ | exact ⟨rfl, _, Eq.trans (World.drewN_drewN _ _ _) (congrArg (World.drewN _) (Nat.add_assoc _ _ _))⟩)) | ((with_reducible refine gate_builtin (b := .append) (xs := #[.tmp 30, .tmp 32]) rfl ?_); at_builtin; refine Kd.R_append (Kd.int .i64) (w0 := w) w.heap.size rfl (.tmp 30) (.tmp 32) 30 3 (.int .i64 0) 8 rfl Try.underlying30 info3 rfl (by decide) (by omega) u5 x5_1 (wrap64 ((wrap64 ((wrap64 ((rd l0 x7_1) - t342)) - x6_1)) + t343)) [.int .i64 (wrap64 ((wrap64 ((wrap64 ((rd l0 x7_1) - t342)) - x6_1)) + t343))] (fun _ => True) (fun _ => False) rfl rfl ?aP (fun _ hk => hk.elim) ?aF ?aO ?aB ?aS ?aL ?_; (case aP => exact rfl); (case aB => exact (ky HB)); (case aF => exact (fun _ _ => trivial)); (case aO => exact (kr HO_5)); (case aS => exact (ko HB)); (case aL => have := LMc8.out; omega); intro v345 w9 ho hb hg hat; rw [← Ny344.out] at ho; have n0_ := Aside0.mk (hb); have n1_ := Aside0.mk (ho); clear HB; clear HO_5; have HB := n0_; have HO346 := n1_; clear n0_ n1_; clear ho hb hg hat))
   repeat (go_quiet (first | (go_at_call 55; (with_reducible refine (cobwebref01_digit.calls _ _ l1 x7_1 t342 _ ?side1 ?side2 A5.out).mono ?_); (case side1 => repeat (first | exact (Kd.C_below HR1.out HB.out) | (with_reducible refine Kd.C_alloc ?_ _) | (with_reducible refine Kd.C_drewN ?_ _) | (with_reducible refine Kd.C_drew ?_))); (case side2 => exact HC1.out); rintro e w' ⟨rfl, ⟨nd, rfl⟩⟩; (try first | exact ⟨rfl, _, World.drewN_drewN _ _ _⟩ | exact ⟨rfl, _, Eq.trans (World.drewN_drewN _ _ _) (congrArg (World.drewN _) (Nat.add_assoc _ _ _))⟩)) | (go_at_call 56; (with_reducible refine (cobwebref01_base.calls  t343 _ A7.out).mono ?_); rintro e w' ⟨rfl, ⟨nd, rfl⟩⟩; (try first | exact ⟨rfl, _, World.drewN_drewN _ _ _⟩ | exact ⟨rfl, _, Eq.trans (World.drewN_drewN _ _ _) (congrArg (World.drewN _) (Nat.add_assoc _ _ _))⟩)) | ((with_reducible refine gate_builtin (b := .append) (xs := #[.tmp 30, .tmp 32]) rfl ?_); at_builtin; refine Kd.R_append (Kd.int .i64) (w0 := w) w.heap.size rfl (.tmp 30) (.tmp 32) 30 3 (.int .i64 0) 8 rfl Try.underlying30 info3 rfl (by decide) (by omega) u5 x5_1 (wrap64 ((wrap64 ((wrap64 ((rd l0 x7_1) - t342)) - x6_1)) + t343)) [.int .i64 (wrap64 ((wrap64 ((wrap64 ((rd l0 x7_1) - t342)) - x6_1)) + t343))] (fun _ => True) (fun _ => False) rfl rfl ?aP (fun _ hk => hk.elim) ?aF ?aO ?aB ?aS ?aL ?_; (case aP => exact rfl); (case aB => exact (ky HB)); (case aF => exact (fun _ _ => trivial)); (case aO => exact (kr HO_5)); (case aS => exact (ko HB)); (case aL => have := LMc8.out; omega); intro v345 w9 ho hb hg hat; rw [← Ny344.out] at ho; have n0_ := Aside0.mk (hb); have n1_ := Aside0.mk (ho); clear HB; clear HO_5; have HB := n0_; have HO346 := n1_; clear n0_ n1_; clear ho hb hg hat)); try go_wp2_with (first | (go_at_call 55; (with_reducible refine (cobwebref01_digit.calls _ _ l1 x7_1 t342 _ ?side1 ?side2 A5.out).mono ?_); (case side1 => repeat (first | exact (Kd.C_below HR1.out HB.out) | (with_reducible refine Kd.C_alloc ?_ _) | (with_reducible refine Kd.C_drewN ?_ _) | (with_reducible refine Kd.C_drew ?_))); (case side2 => exact HC1.out); rintro e w' ⟨rfl, ⟨nd, rfl⟩⟩; (try first | exact ⟨rfl, _, World.drewN_drewN _ _ _⟩ | exact ⟨rfl, _, Eq.trans (World.drewN_drewN _ _ _) (congrArg (World.drewN _) (Nat.add_assoc _ _ _))⟩)) | (go_at_call 56; (with_reducible refine (cobwebref01_base.calls  t343 _ A7.out).mono ?_); rintro e w' ⟨rfl, ⟨nd, rfl⟩⟩; (try first | exact ⟨rfl, _, World.drewN_drewN _ _ _⟩ | exact ⟨rfl, _, Eq.trans (World.drewN_drewN _ _ _) (congrArg (World.drewN _) (Nat.add_assoc _ _ _))⟩)) | ((with_reducible refine gate_builtin (b := .append) (xs := #[.tmp 30, .tmp 32]) rfl ?_); at_builtin; refine Kd.R_append (Kd.int .i64) (w0 := w) w.heap.size rfl (.tmp 30) (.tmp 32) 30 3 (.int .i64 0) 8 rfl Try.underlying30 info3 rfl (by decide) (by omega) u5 x5_1 (wrap64 ((wrap64 ((wrap64 ((rd l0 x7_1) - t342)) - x6_1)) + t343)) [.int .i64 (wrap64 ((wrap64 ((wrap64 ((rd l0 x7_1) - t342)) - x6_1)) + t343))] (fun _ => True) (fun _ => False) rfl rfl ?aP (fun _ hk => hk.elim) ?aF ?aO ?aB ?aS ?aL ?_; (case aP => exact rfl); (case aB => exact (ky HB)); (case aF => exact (fun _ _ => trivial)); (case aO => exact (kr HO_5)); (case aS => exact (ko HB)); (case aL => have := LMc8.out; omega); intro v345 w9 ho hb hg hat; rw [← Ny344.out] at ho; have n0_ := Aside0.mk (hb); have n1_ := Aside0.mk (ho); clear HB; clear HO_5; have HB := n0_; have HO346 := n1_; clear n0_ n1_; clear ho hb hg hat)))
   go_roundg k1
   case measure => have := HK1.out; omega
   case rel => exact ⟨(y344), (1), (wrap64 (x7_1 + 1)), (by first | rfl | (simp; done) | (simp [*]; done)), (by first | rfl | (simp; done) | (simp [*]; done)), H', ⟨by have := HK1.out; omega⟩, ⟨by (with_reducible repeat (first | apply Kd.R_alloc | apply Kd.R_drewN | apply Kd.R_drew)); exact HO346.out⟩, ⟨ky HB⟩⟩
/-! ### cobwebref01_Add: function 45 -/
def cobwebref01_Add.f (k : Nat) (a0_0 : Bool) (l0_1 : List Int) (a1_0 : Bool) (l1_1 : List Int) : Option (Bool × List Int) := if (a0_0 == a1_0) = true then ((cobwebref01_plus.f k l0_1 l1_1).bind fun t353 => ((cobwebref01_trim.f k a0_0 t353).bind fun bt356 => (some (bt356.1, bt356.2)))) else ((cobwebref01_size.f k l0_1 l1_1).bind fun t360 => (if t360 ≥ 0 then ((cobwebref01_minus.f k l0_1 l1_1).bind fun t361 => ((cobwebref01_trim.f k a0_0 t361).bind fun bt364 => (some (bt364.1, bt364.2)))) else ((cobwebref01_minus.f k l1_1 l0_1).bind fun t368 => ((cobwebref01_trim.f k a1_0 t368).bind fun bt371 => (some (bt371.1, bt371.2))))))
theorem cobwebref01_Add.mono : ∀ a0 a1 a2 a3 k, LeO (cobwebref01_Add.f k a0 a1 a2 a3) (cobwebref01_Add.f (k + 1) a0 a1 a2 a3) := by
 intro a0 a1 a2 a3 k
 unfold cobwebref01_Add.f
 repeat' first
   | (with_reducible exact cobwebref01_minus.mono _ _ _)
   | (with_reducible exact cobwebref01_plus.mono _ _ _)
   | (with_reducible exact cobwebref01_size.mono _ _ _)
   | (with_reducible exact cobwebref01_trim.mono _ _ _)
   | (with_reducible exact LeO.refl _)
   | (with_reducible exact LeO.none _)
   | (with_reducible refine LeO.ite ?_ ?_)
   | (with_reducible refine LeO.bind ?_ (fun _ => ?_))
   | exact cobwebref01_minus.mono _ _ _
   | exact cobwebref01_plus.mono _ _ _
   | exact cobwebref01_size.mono _ _ _
   | exact cobwebref01_trim.mono _ _ _
   | exact LeO.none _
   | refine LeO.ite ?_ ?_
   | refine LeO.bind ?_ (fun _ => ?_)
def cobwebref01_Add.T2 : Bool × List (List Nat × List Nat) := (true, [([], []), ([0], [0]), ([], []), ([2], [2]), ([], []), ([4], [4]), ([3, 5], [3, 5]), ([1, 6], [1, 6]), ([7, 6], [7]), ([8, 8, 0, 1, 2, 3, 4, 5, 6, 7, 8], [8])])
def cobwebref01_Add.B2 : List Nat := [0, 1, 0, 4, 0, 16, 60, 127, 255, 511]
theorem cobwebref01_Add.tab2 : rtab .any (opsOf Try.f45 2) = cobwebref01_Add.T2 := by kernel_rfl
theorem cobwebref01_Add.bits2 : waitsOk cobwebref01_Add.T2.2 cobwebref01_Add.B2 = true := by kernel_rfl
def cobwebref01_Add.T4 : Bool × List (List Nat × List Nat) := (true, [([], []), ([0], [0]), ([], []), ([2], [2]), ([], []), ([4], [4]), ([3, 5], [3, 5]), ([1, 6], [1, 6]), ([7, 6], [7]), ([8, 8, 0, 1, 2, 3, 4, 5, 6, 7, 8], [8])])
def cobwebref01_Add.B4 : List Nat := [0, 1, 0, 4, 0, 16, 60, 127, 255, 511]
theorem cobwebref01_Add.tab4 : rtab .any (opsOf Try.f45 4) = cobwebref01_Add.T4 := by kernel_rfl
theorem cobwebref01_Add.bits4 : waitsOk cobwebref01_Add.T4.2 cobwebref01_Add.B4 = true := by kernel_rfl
def cobwebref01_Add.T5 : Bool × List (List Nat × List Nat) := (true, [([], []), ([0], [0]), ([], []), ([2], [2]), ([], []), ([4], [4]), ([3, 5], [3, 5]), ([1, 6], [1, 6]), ([7, 6], [7]), ([8, 8, 0, 1, 2, 3, 4, 5, 6, 7, 8], [8])])
def cobwebref01_Add.B5 : List Nat := [0, 1, 0, 4, 0, 16, 60, 127, 255, 511]
theorem cobwebref01_Add.tab5 : rtab .any (opsOf Try.f45 5) = cobwebref01_Add.T5 := by kernel_rfl
theorem cobwebref01_Add.bits5 : waitsOk cobwebref01_Add.T5.2 cobwebref01_Add.B5 = true := by kernel_rfl
set_option maxHeartbeats 8000000 in
set_option maxRecDepth 100000 in
theorem cobwebref01_Add.calls (k : Nat) (a0_0 : Bool) (A0_1 : Option Addr) (c0_1 : Nat) (l0_1 : List Int) (a1_0 : Bool) (A1_1 : Option Addr) (c1_1 : Nat) (l1_1 : List Int) (r1 : Bool) (r2 : List Int) (w : World) (hr0_1 : Kd.C (Kd.int .i64) w A0_1 l0_1.length l0_1) (hc0_1 : l0_1.length ≤ c0_1) (hr1_1 : Kd.C (Kd.int .i64) w A1_1 l1_1.length l1_1) (hc1_1 : l1_1.length ≤ c1_1) (h : cobwebref01_Add.f k a0_0 l0_1 a1_0 l1_1 = some (r1, r2)) :
  Calls Try.prog 45 #[.agg #[.bool a0_0, .slice A0_1 l0_1.length c0_1], .agg #[.bool a1_0, .slice A1_1 l1_1.length c1_1]] w fun e w' => ∃ v1_ : Value, e = .returned (.agg #[.bool r1, v1_]) ∧ Kd.V (Kd.int .i64) 3 w' w.heap.size (fun k_ => (w.heap.size ≤ k_)) v1_ r2 ∧ Below w.heap.size w w' := by
 have hu32 := Try.underlying32; have HR0_1 := Aside0.mk hr0_1; have HC0_1 := Aside0.mk hc0_1; clear hr0_1 hc0_1; have HR1_1 := Aside0.mk hr1_1; have HC1_1 := Aside0.mk hc1_1; clear hr1_1 hc1_1; have HB := Aside0.mk (Below.refl w.heap.size w); have H : (if (a0_0 == a1_0) = true then ((cobwebref01_plus.f k l0_1 l1_1).bind fun t353 => ((cobwebref01_trim.f k a0_0 t353).bind fun bt356 => (some (bt356.1, bt356.2)))) else ((cobwebref01_size.f k l0_1 l1_1).bind fun t360 => (if t360 ≥ 0 then ((cobwebref01_minus.f k l0_1 l1_1).bind fun t361 => ((cobwebref01_trim.f k a0_0 t361).bind fun bt364 => (some (bt364.1, bt364.2)))) else ((cobwebref01_minus.f k l1_1 l0_1).bind fun t368 => ((cobwebref01_trim.f k a1_0 t368).bind fun bt371 => (some (bt371.1, bt371.2))))))) = some (r1, r2) := h; clear h
 by_cases c3 : (a0_0 == a1_0) = true
 ·rw [if_pos c3] at H
  have c3b0 : (a0_0 == a1_0) = true := c3
  (try (have c3b1 : decide (a0_0 = a1_0) = true := by simpa using c3))
  (try (have c3b2 : (a0_0 == a1_0) = true := by simpa using c3))
  clear c3; replace H := Option.bind_eq_some_iff.mp H; obtain ⟨t353, A40, H⟩ := H; replace H : ((cobwebref01_trim.f k a0_0 t353).bind fun bt356 => (some (bt356.1, bt356.2))) = some (r1, r2) := H; have A4 := Aside0.mk A40; clear A40; replace H := Option.bind_eq_some_iff.mp H; obtain ⟨⟨t356, t357⟩, A50, H⟩ := H; replace H : (some (t356, t357)) = some (r1, r2) := H; have A5 := Aside0.mk A50; clear A50
  simp only [Option.some.injEq, Prod.mk.injEq] at H
  obtain ⟨rfl, rfl⟩ := H
  go_enter Try.func45, Try.ntmps45
  try go_wp2_with (first | ((with_reducible refine gate_dst (N := 2) rfl ?_); refine box_event ?hg (N := 2) ?hd (cs := #[.bool a0_0, .slice A0_1 l0_1.length c0_1]) (t := 32) ?hr ?_; (case hd => rfl); (case hg => rfl); (case hr => first | (go_simp; done) | (go_simp; rfl)); intro gb350 hg w6 hbox hb; have BK350 := Aside0.mk (hbox); have GW350 := kS HB hg; have GE350 := kS HB hg; replace HB := kB HB hb; clear hb hbox hg) | ((with_reducible refine gate_dst (N := 3) rfl ?_); refine box_event ?hg (N := 3) ?hd (cs := #[.bool a1_0, .slice A1_1 l1_1.length c1_1]) (t := 32) ?hr ?_; (case hd => rfl); (case hg => rfl); (case hr => first | (go_simp; done) | (go_simp; rfl)); intro gb351 hg w7 hbox hb; have BK351 := Aside0.mk (hbox); have GW351 := kS HB hg; have GE351 := kS HB hg; have NB350_351 := kN BK350 hg; have NB351_350 := kM BK350 hg; replace BK350 := kb BK350 hb; replace HB := kB HB hb; clear hb hbox hg) | ((with_reducible refine gate_dst (N := 4) rfl ?_); refine box_event ?hg (N := 4) ?hd (cs := #[.bool false, .slice none 0 0]) (t := 32) ?hr ?_; (case hd => rfl); (case hg => rfl); (case hr => first | (go_simp; done) | (go_simp; rfl)); intro gb352 hg w8 hbox hb; have BK352 := Aside0.mk (hbox); have GW352 := kS HB hg; have GE352 := kS HB hg; have NB350_352 := kN BK350 hg; have NB352_350 := kM BK350 hg; have NB351_352 := kN BK351 hg; have NB352_351 := kM BK351 hg; replace BK350 := kb BK350 hb; replace BK351 := kb BK351 hb; replace HB := kB HB hb; clear hb hbox hg; have hnb9 := NB350_351.out; have hnc9 := NB351_350.out; have hnb10 := NB350_352.out; have hnc10 := NB352_350.out; have hcz11_0 : w8.cell? ⟨gb350, 0, none⟩ = some (.bool a0_0) := kc BK350 0; have hcz11_1 : w8.cell? ⟨gb350, 1, none⟩ = some (.slice A0_1 l0_1.length c0_1) := kc BK350 1; have hfz11_0 := blk_frozen BK350.out 0; have hfz11_1 := blk_frozen BK350.out 1; have hnb12 := NB351_352.out; have hnc12 := NB352_351.out; have hcz13_0 : w8.cell? ⟨gb351, 0, none⟩ = some (.bool a1_0) := kc BK351 0; have hcz13_1 : w8.cell? ⟨gb351, 1, none⟩ = some (.slice A1_1 l1_1.length c1_1) := kc BK351 1; have hfz13_0 := blk_frozen BK351.out 0; have hfz13_1 := blk_frozen BK351.out 1))
  replace BK350 := Aside0.mk (blk_drew BK350.out); replace BK351 := Aside0.mk (blk_drew BK351.out); replace BK352 := Aside0.mk (blk_drew BK352.out); replace HB := Aside0.mk (below_drew1 HB.out); refine start_ (n := 10) (S := fun w' => w'.cell? ⟨gb350, 0, none⟩ = some (.bool a0_0) ∧ w'.cell? ⟨gb350, 1, none⟩ = some (.slice A0_1 l0_1.length c0_1) ∧ w'.cell? ⟨gb351, 0, none⟩ = some (.bool a1_0) ∧ w'.cell? ⟨gb351, 1, none⟩ = some (.slice A1_1 l1_1.length c1_1)) (ds := []) #[O, O, O, O, O, O, O, O, O, O] (by kernel_rfl) rfl rfl ⟨kc BK350 0, kc BK350 1, kc BK351 0, kc BK351 1⟩ (fun hHeld => ?_); refine with_tabW cobwebref01_Add.tab2 cobwebref01_Add.bits2 (fun HT_ HW_ => ?_)
  generalize w8.drew = w14 at BK350 BK351 BK352 HB hHeld ⊢
  refine pure_ (i := 0) (N := some 10) (v := ?_) (a' := ?_) #[T, O, O, O, O, O, O, O, O, O] rfl rfl (any_of HT_.out (by kernel_rfl)) (fun _ _ _ h => h) (Or.inl ⟨by rfl, ?_⟩) ?_ ?_; rotate_left; focus (intro w'; go_simp; with_reducible rfl)
  rotate_left; focus (simp only [Act.put, s1, s2, s3, i64_w, i32_w]; rfl)
  refine pure_ (i := 2) (N := some 12) (v := ?_) (a' := ?_) #[T, O, T, O, O, O, O, O, O, O] rfl rfl (any_of HT_.out (by kernel_rfl)) (fun _ _ _ h => h) (Or.inl ⟨by rfl, ?_⟩) ?_ ?_; rotate_left; focus (intro w'; go_simp; with_reducible rfl)
  rotate_left; focus (simp only [Act.put, s1, s2, s3, i64_w, i32_w]; rfl)
  refine pure_ (i := 4) (N := some 14) (v := ?_) (a' := ?_) #[T, O, T, O, T, O, O, O, O, O] rfl rfl (any_of HT_.out (by kernel_rfl)) (fun _ _ _ h => h) (Or.inl ⟨by rfl, ?_⟩) ?_ ?_; rotate_left; focus (intro w'; go_simp; with_reducible rfl)
  rotate_left; focus (simp only [Act.put, s1, s2, s3, i64_w, i32_w]; rfl)
  refine take_ (i := 1) (N := some 11) (v := ?_) (a' := ?_) #[T, T, T, O, T, O, O, O, O, O] rfl rfl (take_ofW HT_.out HW_.out (by kernel_rfl)) (fun _ _ _ h => h) (Or.inl ⟨by rfl, ?_⟩) hHeld ?_ ?_; rotate_left; focus (rintro w' ⟨s0, s1, s2, s3⟩; go_simp; with_reducible rfl)
  rotate_left; focus (simp only [Act.put, s1, s2, s3, i64_w, i32_w]; rfl)
  refine take_ (i := 3) (N := some 13) (v := ?_) (a' := ?_) #[T, T, T, T, T, O, O, O, O, O] rfl rfl (take_ofW HT_.out HW_.out (by kernel_rfl)) (fun _ _ _ h => h) (Or.inl ⟨by rfl, ?_⟩) hHeld ?_ ?_; rotate_left; focus (rintro w' ⟨s0, s1, s2, s3⟩; go_simp; with_reducible rfl)
  rotate_left; focus (simp only [Act.put, s1, s2, s3, i64_w, i32_w]; rfl)
  refine take_ (i := 5) (N := some 15) (v := ?_) (a' := ?_) #[T, T, T, T, T, T, O, O, O, O] rfl rfl (take_ofW HT_.out HW_.out (by kernel_rfl)) (fun _ _ _ h => h) (Or.inl ⟨by rfl, ?_⟩) hHeld ?_ ?_; rotate_left; focus (rintro w' ⟨s0, s1, s2, s3⟩; go_simp; with_reducible rfl)
  rotate_left; focus (simp only [Act.put, s1, s2, s3, i64_w, i32_w]; rfl)
  refine one_ (i := 6) (N := some 16) #[T, T, T, T, T, T, T, O, O, O] rfl rfl (one_of HT_.out (by kernel_rfl)) (by decide) (fun K hK => ?_); refine goes_ Try.func77 (by kernel_rfl) rfl #[.slice A0_1 l0_1.length c0_1, .slice A1_1 l1_1.length c1_1] (by rfl) rfl rfl (by (try simp only [zm, zc, zn]); first | done | rfl | (simp only [zd, zt]; rfl)) ?_
  with_reducible refine (cobwebref01_plus.calls k _ _ l0_1 _ _ l1_1 t353 _ ?side1 ?side2 ?side3 ?side4 A4.out).mono ?_
  (case side1 => repeat (first | exact (Kd.C_below HR0_1.out HB.out) | (with_reducible refine Kd.C_alloc ?_ _) | (with_reducible refine Kd.C_drewN ?_ _) | (with_reducible refine Kd.C_drew ?_)))
  (case side2 => exact HC0_1.out)
  (case side3 => repeat (first | exact (Kd.C_below HR1_1.out HB.out) | (with_reducible refine Kd.C_alloc ?_ _) | (with_reducible refine Kd.C_drewN ?_ _) | (with_reducible refine Kd.C_drew ?_)))
  (case side4 => exact HC1_1.out)
  rintro e w15 ⟨v354, rfl, ho0, hb⟩; refine ⟨_, rfl, ?_⟩; have HO355 := Aside0.mk (Kd.R_lower (Kd.R_newM (M := fun k_ => (w.heap.size ≤ k_)) ho0 (ko HB) (fun k_ h_ => h_)) (ko HB)); replace BK350 := kb BK350 hb; replace BK351 := kb BK351 hb; replace BK352 := kb BK352 hb; replace HB := kB HB hb
  (try clear hb); (try clear hb2); (try clear hk); (try clear hi); (try clear ho0)
  obtain ⟨Ao16, co16, eo16⟩ := Kd.R_slice HO355.out
  (first | subst eo16 | (injection eo16 with f1_ f2_ f3_; have f4_ := f1_.symm; have f5_ := f3_.symm; clear f1_ f2_ f3_; subst f4_; subst f5_))
  refine hK.out _ _ ⟨kc BK350 0, kc BK350 1, kc BK351 0, kc BK351 1⟩ (fun hHeld => ?_); clear hK K
  refine norm_ (a' := ?_) ?_ ?_; rotate_left; focus (show Act.put _ (some 16) _ = _; simp only [Act.put, s1, s2, s3, i64_w, i32_w]; rfl)
  refine pure_ (i := 7) (N := some 17) (v := ?_) (a' := ?_) #[T, T, T, T, T, T, T, T, O, O] rfl rfl (any_of HT_.out (by kernel_rfl)) (fun _ _ _ h => h) (Or.inl ⟨by rfl, ?_⟩) ?_ ?_; rotate_left; focus (intro w'; go_simp; with_reducible rfl)
  rotate_left; focus (simp only [Act.put, s1, s2, s3, i64_w, i32_w]; rfl)
  refine one_ (i := 8) (N := some 18) #[T, T, T, T, T, T, T, T, T, O] rfl rfl (one_of HT_.out (by kernel_rfl)) (by decide) (fun K hK => ?_); refine goes_ Try.func57 (by kernel_rfl) rfl #[.agg #[.bool a0_0, .slice Ao16 t353.length co16]] (by rfl) rfl rfl (by (try simp only [zm, zc, zn]); first | done | rfl | (simp only [zd, zt]; rfl)) ?_
  with_reducible refine (cobwebref01_trim.calls k a0_0 (fun k_ => some k_ = (.slice Ao16 t353.length co16 : Value).ownBlock) _ _ t353 t356 t357 _ ?side1 A5.out).mono ?_
  (case side1 => exact Kd.R_V (Kd.R_tight rfl (Kd.R_types (Kd.R_types (Kd.R_types (HO355.out) BK350.out (by decide)) BK351.out (by decide)) BK352.out (by decide))))
  rintro e w17 ⟨v358, rfl, ho0, hb⟩; refine ⟨_, rfl, ?_⟩; have HO359 := Aside0.mk (Kd.V_lower (Kd.V_mono (ok' := fun k_ => (w.heap.size ≤ k_) ∧ k_ ≠ gb350 ∧ k_ ≠ gb351 ∧ k_ ≠ gb352) ho0 (fun k_ hk_ => ⟨Or.elim hk_ (fun hs_ => ((Kd.R_types (Kd.R_types (Kd.R_types (HO355.out) BK350.out (by decide)) BK351.out (by decide)) BK352.out (by decide)).1 k_ hs_.symm).1.1.1.1) (fun hn_ => (Nat.le_trans (ko HB) hn_)), Or.elim hk_ (fun hs_ => ((Kd.R_types (Kd.R_types (Kd.R_types (HO355.out) BK350.out (by decide)) BK351.out (by decide)) BK352.out (by decide)).1 k_ hs_.symm).1.1.2) (fun hn_ => (Kd.freshB (g := gb350) (o := .cells #[.bool a0_0, .slice A0_1 l0_1.length c0_1] 32 (0, 0)) (kx BK350) k_ hn_)), Or.elim hk_ (fun hs_ => ((Kd.R_types (Kd.R_types (Kd.R_types (HO355.out) BK350.out (by decide)) BK351.out (by decide)) BK352.out (by decide)).1 k_ hs_.symm).1.2) (fun hn_ => (Kd.freshB (g := gb351) (o := .cells #[.bool a1_0, .slice A1_1 l1_1.length c1_1] 32 (0, 0)) (kx BK351) k_ hn_)), Or.elim hk_ (fun hs_ => ((Kd.R_types (Kd.R_types (Kd.R_types (HO355.out) BK350.out (by decide)) BK351.out (by decide)) BK352.out (by decide)).1 k_ hs_.symm).2) (fun hn_ => (Kd.freshB (g := gb352) (o := .cells #[.bool false, .slice none 0 0] 32 (0, 0)) (kx BK352) k_ hn_))⟩)) (ko HB)); replace HO355 := kR HO355 hb; replace BK350 := kb BK350 hb; replace BK351 := kb BK351 hb; replace BK352 := kb BK352 hb; replace HB := kB HB hb
  (try clear hb); (try clear hb2); (try clear hk); (try clear hi); (try clear ho0)
  obtain ⟨Ao19, co19, eo19⟩ := Kd.V_slice HO359.out
  (first | subst eo19 | (injection eo19 with f1_ f2_ f3_; have f4_ := f1_.symm; have f5_ := f3_.symm; clear f1_ f2_ f3_; subst f4_; subst f5_))
  refine hK.out _ _ ⟨kc BK350 0, kc BK350 1, kc BK351 0, kc BK351 1⟩ (fun hHeld => ?_); clear hK K
  refine norm_ (a' := ?_) ?_ ?_; rotate_left; focus (show Act.put _ (some 18) _ = _; simp only [Act.put, s1, s2, s3, i64_w, i32_w]; rfl)
  refine one_ (i := 9) (N := none) #[T, T, T, T, T, T, T, T, T, T] rfl rfl (one_of HT_.out (by kernel_rfl)) (by decide) (fun K hK => ?_); have hs18 : w17.cell? ⟨gb352, 0, none⟩ = some (.bool false) := kc BK352 0; have hfs18 := blk_frozen BK352.out 0; have hns18_0 := NB350_352.out; have hns18_1 := NB351_352.out; have hms18_0 := NB352_350.out; have hms18_1 := NB352_351.out; have hs20 : w17.cell? ⟨gb352, 1, none⟩ = some (.slice none 0 0) := kc BK352 1; have hfs20 := blk_frozen BK352.out 1; have hns20_0 := NB350_352.out; have hns20_1 := NB351_352.out; have hms20_0 := NB352_350.out; have hms20_1 := NB352_351.out; refine skip_ (w1 := ?_) (by rfl) rfl ?_ ?_; rotate_left
  ·go_simp
   rfl
  refine hK.out _ _ ⟨((cell_far (p := ⟨gb352, _, none⟩) NB350_352.out _).trans (((cell_far (p := ⟨gb352, _, none⟩) NB350_352.out _).trans (hHeld.1)))), ((cell_far (p := ⟨gb352, _, none⟩) NB350_352.out _).trans (((cell_far (p := ⟨gb352, _, none⟩) NB350_352.out _).trans (hHeld.2.1)))), ((cell_far (p := ⟨gb352, _, none⟩) NB351_352.out _).trans (((cell_far (p := ⟨gb352, _, none⟩) NB351_352.out _).trans (hHeld.2.2.1)))), ((cell_far (p := ⟨gb352, _, none⟩) NB351_352.out _).trans (((cell_far (p := ⟨gb352, _, none⟩) NB351_352.out _).trans (hHeld.2.2.2))))⟩ (fun hHeld => ?_); clear hK K; refine done_ (done_of HT_.out (by kernel_rfl)) ?_
  try go_wp2
  refine bodyPost_ret (results_cell_row rfl _ _ gb352 32 #[.bool t356, .slice Ao19 t357.length co19] (0, 0) _ rfl (by (with_reducible repeat (first | refine zr ?_ _ | refine zw ?_ | refine za ?_ _)); refine blk_put (cs := #[.bool t356, .slice none 0 0]) ?_ 1 _ rfl; (with_reducible repeat (first | refine zr ?_ _ | refine zw ?_ | refine za ?_ _)); refine blk_put (cs := #[.bool false, .slice none 0 0]) ?_ 0 _ rfl; (with_reducible repeat (first | refine zr ?_ _ | refine zw ?_ | refine za ?_ _)); exact BK352.out) Try.underlying32 rfl (by kernel_rfl)) rfl ?_; exact ⟨_, by first | rfl | (simp [errW_none, errW_some] <;> rfl) | (simp [*, errW_none, errW_some] <;> rfl), by (with_reducible repeat (first | apply Kd.V_alloc | apply Kd.V_drewN | apply Kd.V_drew)); exact Kd.V_mono (Kd.V_far (p := ⟨gb352, 1, none⟩) (Kd.V_far (p := ⟨gb352, 0, none⟩) (Kd.V_mono HO359.out (fun k_ hk => (⟨hk, hk.2.2.2⟩ : _ ∧ k_ ≠ gb352))) (fun _ hk => hk.2) (.bool t356)) (fun _ hk => hk.2) (.slice Ao19 t357.length co19)) (fun _ hk => hk.1.1), ky HB⟩
 rw [if_neg c3] at H
 have c3b0 : (a0_0 == a1_0) = false := by simpa using c3
 (try (have c3b1 : decide (a0_0 = a1_0) = false := by simpa using c3))
 (try (have c3b2 : (a0_0 == a1_0) = false := by simpa using c3))
 (try (have c3b3 : ¬ (a0_0 = a1_0) := by simpa using c3))
 clear c3; replace H := Option.bind_eq_some_iff.mp H; obtain ⟨t360, A210, H⟩ := H; replace H : (if t360 ≥ 0 then ((cobwebref01_minus.f k l0_1 l1_1).bind fun t361 => ((cobwebref01_trim.f k a0_0 t361).bind fun bt364 => (some (bt364.1, bt364.2)))) else ((cobwebref01_minus.f k l1_1 l0_1).bind fun t368 => ((cobwebref01_trim.f k a1_0 t368).bind fun bt371 => (some (bt371.1, bt371.2))))) = some (r1, r2) := H; have A21 := Aside0.mk A210; clear A210
 by_cases c22 : t360 ≥ 0
 ·rw [if_pos c22] at H
  have c22b0 : decide (0 ≤ t360) = true := decide_eq_true c22; clear c22; replace H := Option.bind_eq_some_iff.mp H; obtain ⟨t361, A230, H⟩ := H; replace H : ((cobwebref01_trim.f k a0_0 t361).bind fun bt364 => (some (bt364.1, bt364.2))) = some (r1, r2) := H; have A23 := Aside0.mk A230; clear A230; replace H := Option.bind_eq_some_iff.mp H; obtain ⟨⟨t364, t365⟩, A240, H⟩ := H; replace H : (some (t364, t365)) = some (r1, r2) := H; have A24 := Aside0.mk A240; clear A240
  simp only [Option.some.injEq, Prod.mk.injEq] at H
  obtain ⟨rfl, rfl⟩ := H
  go_enter Try.func45, Try.ntmps45
  try go_wp2_with (first | ((with_reducible refine gate_dst (N := 2) rfl ?_); refine box_event ?hg (N := 2) ?hd (cs := #[.bool a0_0, .slice A0_1 l0_1.length c0_1]) (t := 32) ?hr ?_; (case hd => rfl); (case hg => rfl); (case hr => first | (go_simp; done) | (go_simp; rfl)); intro gb350 hg w25 hbox hb; have BK350 := Aside0.mk (hbox); have GW350 := kS HB hg; have GE350 := kS HB hg; replace HB := kB HB hb; clear hb hbox hg) | ((with_reducible refine gate_dst (N := 3) rfl ?_); refine box_event ?hg (N := 3) ?hd (cs := #[.bool a1_0, .slice A1_1 l1_1.length c1_1]) (t := 32) ?hr ?_; (case hd => rfl); (case hg => rfl); (case hr => first | (go_simp; done) | (go_simp; rfl)); intro gb351 hg w26 hbox hb; have BK351 := Aside0.mk (hbox); have GW351 := kS HB hg; have GE351 := kS HB hg; have NB350_351 := kN BK350 hg; have NB351_350 := kM BK350 hg; replace BK350 := kb BK350 hb; replace HB := kB HB hb; clear hb hbox hg) | ((with_reducible refine gate_dst (N := 4) rfl ?_); refine box_event ?hg (N := 4) ?hd (cs := #[.bool false, .slice none 0 0]) (t := 32) ?hr ?_; (case hd => rfl); (case hg => rfl); (case hr => first | (go_simp; done) | (go_simp; rfl)); intro gb352 hg w27 hbox hb; have BK352 := Aside0.mk (hbox); have GW352 := kS HB hg; have GE352 := kS HB hg; have NB350_352 := kN BK350 hg; have NB352_350 := kM BK350 hg; have NB351_352 := kN BK351 hg; have NB352_351 := kM BK351 hg; replace BK350 := kb BK350 hb; replace BK351 := kb BK351 hb; replace HB := kB HB hb; clear hb hbox hg; have hnb28 := NB350_351.out; have hnc28 := NB351_350.out; have hnb29 := NB350_352.out; have hnc29 := NB352_350.out; have hcz30_0 : w27.cell? ⟨gb350, 0, none⟩ = some (.bool a0_0) := kc BK350 0; have hcz30_1 : w27.cell? ⟨gb350, 1, none⟩ = some (.slice A0_1 l0_1.length c0_1) := kc BK350 1; have hfz30_0 := blk_frozen BK350.out 0; have hfz30_1 := blk_frozen BK350.out 1; have hnb31 := NB351_352.out; have hnc31 := NB352_351.out; have hcz32_0 : w27.cell? ⟨gb351, 0, none⟩ = some (.bool a1_0) := kc BK351 0; have hcz32_1 : w27.cell? ⟨gb351, 1, none⟩ = some (.slice A1_1 l1_1.length c1_1) := kc BK351 1; have hfz32_0 := blk_frozen BK351.out 0; have hfz32_1 := blk_frozen BK351.out 1) | ((with_reducible refine gate_callee (f := 63) rfl ?_); refine goesL_ (some 23) rfl rfl Try.func63 (by kernel_rfl) rfl #[.slice A0_1 l0_1.length c0_1, .slice A1_1 l1_1.length c1_1] rfl (by (try simp only [zm, zc, zn]); first | done | rfl | (simp only [zd, zt]; rfl)) ?_; (with_reducible refine (cobwebref01_size.calls k _ _ l0_1 _ _ l1_1 t360 _ ?side1 ?side2 ?side3 ?side4 A21.out).mono ?_); (case side1 => repeat (first | exact (Kd.C_below HR0_1.out HB.out) | (with_reducible refine Kd.C_alloc ?_ _) | (with_reducible refine Kd.C_drewN ?_ _) | (with_reducible refine Kd.C_drew ?_))); (case side2 => exact HC0_1.out); (case side3 => repeat (first | exact (Kd.C_below HR1_1.out HB.out) | (with_reducible refine Kd.C_alloc ?_ _) | (with_reducible refine Kd.C_drewN ?_ _) | (with_reducible refine Kd.C_drew ?_))); (case side4 => exact HC1_1.out); rintro e w33 ⟨rfl, hb⟩; refine ⟨_, rfl, ?_⟩; replace BK350 := kb BK350 hb; replace BK351 := kb BK351 hb; replace BK352 := kb BK352 hb; replace HB := kB HB hb; (try clear hb); (try clear hb2); (try clear hk); (try clear hi)))
  replace BK350 := Aside0.mk (blk_drew BK350.out); replace BK351 := Aside0.mk (blk_drew BK351.out); replace BK352 := Aside0.mk (blk_drew BK352.out); replace HB := Aside0.mk (below_drew1 HB.out); refine start_ (n := 10) (S := fun w' => w'.cell? ⟨gb350, 0, none⟩ = some (.bool a0_0) ∧ w'.cell? ⟨gb350, 1, none⟩ = some (.slice A0_1 l0_1.length c0_1) ∧ w'.cell? ⟨gb351, 0, none⟩ = some (.bool a1_0) ∧ w'.cell? ⟨gb351, 1, none⟩ = some (.slice A1_1 l1_1.length c1_1)) (ds := []) #[O, O, O, O, O, O, O, O, O, O] (by kernel_rfl) rfl rfl ⟨kc BK350 0, kc BK350 1, kc BK351 0, kc BK351 1⟩ (fun hHeld => ?_); refine with_tabW cobwebref01_Add.tab4 cobwebref01_Add.bits4 (fun HT_ HW_ => ?_)
  generalize w33.drew = w34 at BK350 BK351 BK352 HB hHeld ⊢
  refine pure_ (i := 0) (N := some 25) (v := ?_) (a' := ?_) #[T, O, O, O, O, O, O, O, O, O] rfl rfl (any_of HT_.out (by kernel_rfl)) (fun _ _ _ h => h) (Or.inl ⟨by rfl, ?_⟩) ?_ ?_; rotate_left; focus (intro w'; go_simp; with_reducible rfl)
  rotate_left; focus (simp only [Act.put, s1, s2, s3, i64_w, i32_w]; rfl)
  refine pure_ (i := 2) (N := some 27) (v := ?_) (a' := ?_) #[T, O, T, O, O, O, O, O, O, O] rfl rfl (any_of HT_.out (by kernel_rfl)) (fun _ _ _ h => h) (Or.inl ⟨by rfl, ?_⟩) ?_ ?_; rotate_left; focus (intro w'; go_simp; with_reducible rfl)
  rotate_left; focus (simp only [Act.put, s1, s2, s3, i64_w, i32_w]; rfl)
  refine pure_ (i := 4) (N := some 29) (v := ?_) (a' := ?_) #[T, O, T, O, T, O, O, O, O, O] rfl rfl (any_of HT_.out (by kernel_rfl)) (fun _ _ _ h => h) (Or.inl ⟨by rfl, ?_⟩) ?_ ?_; rotate_left; focus (intro w'; go_simp; with_reducible rfl)
  rotate_left; focus (simp only [Act.put, s1, s2, s3, i64_w, i32_w]; rfl)
  refine take_ (i := 1) (N := some 26) (v := ?_) (a' := ?_) #[T, T, T, O, T, O, O, O, O, O] rfl rfl (take_ofW HT_.out HW_.out (by kernel_rfl)) (fun _ _ _ h => h) (Or.inl ⟨by rfl, ?_⟩) hHeld ?_ ?_; rotate_left; focus (rintro w' ⟨s0, s1, s2, s3⟩; go_simp; with_reducible rfl)
  rotate_left; focus (simp only [Act.put, s1, s2, s3, i64_w, i32_w]; rfl)
  refine take_ (i := 3) (N := some 28) (v := ?_) (a' := ?_) #[T, T, T, T, T, O, O, O, O, O] rfl rfl (take_ofW HT_.out HW_.out (by kernel_rfl)) (fun _ _ _ h => h) (Or.inl ⟨by rfl, ?_⟩) hHeld ?_ ?_; rotate_left; focus (rintro w' ⟨s0, s1, s2, s3⟩; go_simp; with_reducible rfl)
  rotate_left; focus (simp only [Act.put, s1, s2, s3, i64_w, i32_w]; rfl)
  refine take_ (i := 5) (N := some 30) (v := ?_) (a' := ?_) #[T, T, T, T, T, T, O, O, O, O] rfl rfl (take_ofW HT_.out HW_.out (by kernel_rfl)) (fun _ _ _ h => h) (Or.inl ⟨by rfl, ?_⟩) hHeld ?_ ?_; rotate_left; focus (rintro w' ⟨s0, s1, s2, s3⟩; go_simp; with_reducible rfl)
  rotate_left; focus (simp only [Act.put, s1, s2, s3, i64_w, i32_w]; rfl)
  refine one_ (i := 6) (N := some 31) #[T, T, T, T, T, T, T, O, O, O] rfl rfl (one_of HT_.out (by kernel_rfl)) (by decide) (fun K hK => ?_); refine goes_ Try.func78 (by kernel_rfl) rfl #[.slice A0_1 l0_1.length c0_1, .slice A1_1 l1_1.length c1_1] (by rfl) rfl rfl (by (try simp only [zm, zc, zn]); first | done | rfl | (simp only [zd, zt]; rfl)) ?_
  with_reducible refine (cobwebref01_minus.calls k _ _ l0_1 _ _ l1_1 t361 _ ?side1 ?side2 ?side3 ?side4 A23.out).mono ?_
  (case side1 => repeat (first | exact (Kd.C_below HR0_1.out HB.out) | (with_reducible refine Kd.C_alloc ?_ _) | (with_reducible refine Kd.C_drewN ?_ _) | (with_reducible refine Kd.C_drew ?_)))
  (case side2 => exact HC0_1.out)
  (case side3 => repeat (first | exact (Kd.C_below HR1_1.out HB.out) | (with_reducible refine Kd.C_alloc ?_ _) | (with_reducible refine Kd.C_drewN ?_ _) | (with_reducible refine Kd.C_drew ?_)))
  (case side4 => exact HC1_1.out)
  rintro e w35 ⟨v362, rfl, ho0, hb⟩; refine ⟨_, rfl, ?_⟩; have HO363 := Aside0.mk (Kd.R_lower (Kd.R_newM (M := fun k_ => (w.heap.size ≤ k_)) ho0 (ko HB) (fun k_ h_ => h_)) (ko HB)); replace BK350 := kb BK350 hb; replace BK351 := kb BK351 hb; replace BK352 := kb BK352 hb; replace HB := kB HB hb
  (try clear hb); (try clear hb2); (try clear hk); (try clear hi); (try clear ho0)
  obtain ⟨Ao36, co36, eo36⟩ := Kd.R_slice HO363.out
  (first | subst eo36 | (injection eo36 with f1_ f2_ f3_; have f4_ := f1_.symm; have f5_ := f3_.symm; clear f1_ f2_ f3_; subst f4_; subst f5_))
  refine hK.out _ _ ⟨kc BK350 0, kc BK350 1, kc BK351 0, kc BK351 1⟩ (fun hHeld => ?_); clear hK K
  refine norm_ (a' := ?_) ?_ ?_; rotate_left; focus (show Act.put _ (some 31) _ = _; simp only [Act.put, s1, s2, s3, i64_w, i32_w]; rfl)
  refine pure_ (i := 7) (N := some 32) (v := ?_) (a' := ?_) #[T, T, T, T, T, T, T, T, O, O] rfl rfl (any_of HT_.out (by kernel_rfl)) (fun _ _ _ h => h) (Or.inl ⟨by rfl, ?_⟩) ?_ ?_; rotate_left; focus (intro w'; go_simp; with_reducible rfl)
  rotate_left; focus (simp only [Act.put, s1, s2, s3, i64_w, i32_w]; rfl)
  refine one_ (i := 8) (N := some 33) #[T, T, T, T, T, T, T, T, T, O] rfl rfl (one_of HT_.out (by kernel_rfl)) (by decide) (fun K hK => ?_); refine goes_ Try.func57 (by kernel_rfl) rfl #[.agg #[.bool a0_0, .slice Ao36 t361.length co36]] (by rfl) rfl rfl (by (try simp only [zm, zc, zn]); first | done | rfl | (simp only [zd, zt]; rfl)) ?_
  with_reducible refine (cobwebref01_trim.calls k a0_0 (fun k_ => some k_ = (.slice Ao36 t361.length co36 : Value).ownBlock) _ _ t361 t364 t365 _ ?side1 A24.out).mono ?_
  (case side1 => exact Kd.R_V (Kd.R_tight rfl (Kd.R_types (Kd.R_types (Kd.R_types (HO363.out) BK350.out (by decide)) BK351.out (by decide)) BK352.out (by decide))))
  rintro e w37 ⟨v366, rfl, ho0, hb⟩; refine ⟨_, rfl, ?_⟩; have HO367 := Aside0.mk (Kd.V_lower (Kd.V_mono (ok' := fun k_ => (w.heap.size ≤ k_) ∧ k_ ≠ gb350 ∧ k_ ≠ gb351 ∧ k_ ≠ gb352) ho0 (fun k_ hk_ => ⟨Or.elim hk_ (fun hs_ => ((Kd.R_types (Kd.R_types (Kd.R_types (HO363.out) BK350.out (by decide)) BK351.out (by decide)) BK352.out (by decide)).1 k_ hs_.symm).1.1.1.1) (fun hn_ => (Nat.le_trans (ko HB) hn_)), Or.elim hk_ (fun hs_ => ((Kd.R_types (Kd.R_types (Kd.R_types (HO363.out) BK350.out (by decide)) BK351.out (by decide)) BK352.out (by decide)).1 k_ hs_.symm).1.1.2) (fun hn_ => (Kd.freshB (g := gb350) (o := .cells #[.bool a0_0, .slice A0_1 l0_1.length c0_1] 32 (0, 0)) (kx BK350) k_ hn_)), Or.elim hk_ (fun hs_ => ((Kd.R_types (Kd.R_types (Kd.R_types (HO363.out) BK350.out (by decide)) BK351.out (by decide)) BK352.out (by decide)).1 k_ hs_.symm).1.2) (fun hn_ => (Kd.freshB (g := gb351) (o := .cells #[.bool a1_0, .slice A1_1 l1_1.length c1_1] 32 (0, 0)) (kx BK351) k_ hn_)), Or.elim hk_ (fun hs_ => ((Kd.R_types (Kd.R_types (Kd.R_types (HO363.out) BK350.out (by decide)) BK351.out (by decide)) BK352.out (by decide)).1 k_ hs_.symm).2) (fun hn_ => (Kd.freshB (g := gb352) (o := .cells #[.bool false, .slice none 0 0] 32 (0, 0)) (kx BK352) k_ hn_))⟩)) (ko HB)); replace HO363 := kR HO363 hb; replace BK350 := kb BK350 hb; replace BK351 := kb BK351 hb; replace BK352 := kb BK352 hb; replace HB := kB HB hb
  (try clear hb); (try clear hb2); (try clear hk); (try clear hi); (try clear ho0)
  obtain ⟨Ao39, co39, eo39⟩ := Kd.V_slice HO367.out
  (first | subst eo39 | (injection eo39 with f1_ f2_ f3_; have f4_ := f1_.symm; have f5_ := f3_.symm; clear f1_ f2_ f3_; subst f4_; subst f5_))
  refine hK.out _ _ ⟨kc BK350 0, kc BK350 1, kc BK351 0, kc BK351 1⟩ (fun hHeld => ?_); clear hK K
  refine norm_ (a' := ?_) ?_ ?_; rotate_left; focus (show Act.put _ (some 33) _ = _; simp only [Act.put, s1, s2, s3, i64_w, i32_w]; rfl)
  refine one_ (i := 9) (N := none) #[T, T, T, T, T, T, T, T, T, T] rfl rfl (one_of HT_.out (by kernel_rfl)) (by decide) (fun K hK => ?_); have hs38 : w37.cell? ⟨gb352, 0, none⟩ = some (.bool false) := kc BK352 0; have hfs38 := blk_frozen BK352.out 0; have hns38_0 := NB350_352.out; have hns38_1 := NB351_352.out; have hms38_0 := NB352_350.out; have hms38_1 := NB352_351.out; have hs40 : w37.cell? ⟨gb352, 1, none⟩ = some (.slice none 0 0) := kc BK352 1; have hfs40 := blk_frozen BK352.out 1; have hns40_0 := NB350_352.out; have hns40_1 := NB351_352.out; have hms40_0 := NB352_350.out; have hms40_1 := NB352_351.out; refine skip_ (w1 := ?_) (by rfl) rfl ?_ ?_; rotate_left
  ·go_simp
   rfl
  refine hK.out _ _ ⟨((cell_far (p := ⟨gb352, _, none⟩) NB350_352.out _).trans (((cell_far (p := ⟨gb352, _, none⟩) NB350_352.out _).trans (hHeld.1)))), ((cell_far (p := ⟨gb352, _, none⟩) NB350_352.out _).trans (((cell_far (p := ⟨gb352, _, none⟩) NB350_352.out _).trans (hHeld.2.1)))), ((cell_far (p := ⟨gb352, _, none⟩) NB351_352.out _).trans (((cell_far (p := ⟨gb352, _, none⟩) NB351_352.out _).trans (hHeld.2.2.1)))), ((cell_far (p := ⟨gb352, _, none⟩) NB351_352.out _).trans (((cell_far (p := ⟨gb352, _, none⟩) NB351_352.out _).trans (hHeld.2.2.2))))⟩ (fun hHeld => ?_); clear hK K; refine done_ (done_of HT_.out (by kernel_rfl)) ?_
  try go_wp2
  refine bodyPost_ret (results_cell_row rfl _ _ gb352 32 #[.bool t364, .slice Ao39 t365.length co39] (0, 0) _ rfl (by (with_reducible repeat (first | refine zr ?_ _ | refine zw ?_ | refine za ?_ _)); refine blk_put (cs := #[.bool t364, .slice none 0 0]) ?_ 1 _ rfl; (with_reducible repeat (first | refine zr ?_ _ | refine zw ?_ | refine za ?_ _)); refine blk_put (cs := #[.bool false, .slice none 0 0]) ?_ 0 _ rfl; (with_reducible repeat (first | refine zr ?_ _ | refine zw ?_ | refine za ?_ _)); exact BK352.out) Try.underlying32 rfl (by kernel_rfl)) rfl ?_; exact ⟨_, by first | rfl | (simp [errW_none, errW_some] <;> rfl) | (simp [*, errW_none, errW_some] <;> rfl), by (with_reducible repeat (first | apply Kd.V_alloc | apply Kd.V_drewN | apply Kd.V_drew)); exact Kd.V_mono (Kd.V_far (p := ⟨gb352, 1, none⟩) (Kd.V_far (p := ⟨gb352, 0, none⟩) (Kd.V_mono HO367.out (fun k_ hk => (⟨hk, hk.2.2.2⟩ : _ ∧ k_ ≠ gb352))) (fun _ hk => hk.2) (.bool t364)) (fun _ hk => hk.2) (.slice Ao39 t365.length co39)) (fun _ hk => hk.1.1), ky HB⟩
 rw [if_neg c22] at H
 have c22b0 : decide (0 ≤ t360) = false := decide_eq_false c22; clear c22; replace H := Option.bind_eq_some_iff.mp H; obtain ⟨t368, A410, H⟩ := H; replace H : ((cobwebref01_trim.f k a1_0 t368).bind fun bt371 => (some (bt371.1, bt371.2))) = some (r1, r2) := H; have A41 := Aside0.mk A410; clear A410; replace H := Option.bind_eq_some_iff.mp H; obtain ⟨⟨t371, t372⟩, A420, H⟩ := H; replace H : (some (t371, t372)) = some (r1, r2) := H; have A42 := Aside0.mk A420; clear A420
 simp only [Option.some.injEq, Prod.mk.injEq] at H
 obtain ⟨rfl, rfl⟩ := H
 go_enter Try.func45, Try.ntmps45
 try go_wp2_with (first | ((with_reducible refine gate_dst (N := 2) rfl ?_); refine box_event ?hg (N := 2) ?hd (cs := #[.bool a0_0, .slice A0_1 l0_1.length c0_1]) (t := 32) ?hr ?_; (case hd => rfl); (case hg => rfl); (case hr => first | (go_simp; done) | (go_simp; rfl)); intro gb350 hg w43 hbox hb; have BK350 := Aside0.mk (hbox); have GW350 := kS HB hg; have GE350 := kS HB hg; replace HB := kB HB hb; clear hb hbox hg) | ((with_reducible refine gate_dst (N := 3) rfl ?_); refine box_event ?hg (N := 3) ?hd (cs := #[.bool a1_0, .slice A1_1 l1_1.length c1_1]) (t := 32) ?hr ?_; (case hd => rfl); (case hg => rfl); (case hr => first | (go_simp; done) | (go_simp; rfl)); intro gb351 hg w44 hbox hb; have BK351 := Aside0.mk (hbox); have GW351 := kS HB hg; have GE351 := kS HB hg; have NB350_351 := kN BK350 hg; have NB351_350 := kM BK350 hg; replace BK350 := kb BK350 hb; replace HB := kB HB hb; clear hb hbox hg) | ((with_reducible refine gate_dst (N := 4) rfl ?_); refine box_event ?hg (N := 4) ?hd (cs := #[.bool false, .slice none 0 0]) (t := 32) ?hr ?_; (case hd => rfl); (case hg => rfl); (case hr => first | (go_simp; done) | (go_simp; rfl)); intro gb352 hg w45 hbox hb; have BK352 := Aside0.mk (hbox); have GW352 := kS HB hg; have GE352 := kS HB hg; have NB350_352 := kN BK350 hg; have NB352_350 := kM BK350 hg; have NB351_352 := kN BK351 hg; have NB352_351 := kM BK351 hg; replace BK350 := kb BK350 hb; replace BK351 := kb BK351 hb; replace HB := kB HB hb; clear hb hbox hg; have hnb46 := NB350_351.out; have hnc46 := NB351_350.out; have hnb47 := NB350_352.out; have hnc47 := NB352_350.out; have hcz48_0 : w45.cell? ⟨gb350, 0, none⟩ = some (.bool a0_0) := kc BK350 0; have hcz48_1 : w45.cell? ⟨gb350, 1, none⟩ = some (.slice A0_1 l0_1.length c0_1) := kc BK350 1; have hfz48_0 := blk_frozen BK350.out 0; have hfz48_1 := blk_frozen BK350.out 1; have hnb49 := NB351_352.out; have hnc49 := NB352_351.out; have hcz50_0 : w45.cell? ⟨gb351, 0, none⟩ = some (.bool a1_0) := kc BK351 0; have hcz50_1 : w45.cell? ⟨gb351, 1, none⟩ = some (.slice A1_1 l1_1.length c1_1) := kc BK351 1; have hfz50_0 := blk_frozen BK351.out 0; have hfz50_1 := blk_frozen BK351.out 1) | ((with_reducible refine gate_callee (f := 63) rfl ?_); refine goesL_ (some 23) rfl rfl Try.func63 (by kernel_rfl) rfl #[.slice A0_1 l0_1.length c0_1, .slice A1_1 l1_1.length c1_1] rfl (by (try simp only [zm, zc, zn]); first | done | rfl | (simp only [zd, zt]; rfl)) ?_; (with_reducible refine (cobwebref01_size.calls k _ _ l0_1 _ _ l1_1 t360 _ ?side1 ?side2 ?side3 ?side4 A21.out).mono ?_); (case side1 => repeat (first | exact (Kd.C_below HR0_1.out HB.out) | (with_reducible refine Kd.C_alloc ?_ _) | (with_reducible refine Kd.C_drewN ?_ _) | (with_reducible refine Kd.C_drew ?_))); (case side2 => exact HC0_1.out); (case side3 => repeat (first | exact (Kd.C_below HR1_1.out HB.out) | (with_reducible refine Kd.C_alloc ?_ _) | (with_reducible refine Kd.C_drewN ?_ _) | (with_reducible refine Kd.C_drew ?_))); (case side4 => exact HC1_1.out); rintro e w51 ⟨rfl, hb⟩; refine ⟨_, rfl, ?_⟩; replace BK350 := kb BK350 hb; replace BK351 := kb BK351 hb; replace BK352 := kb BK352 hb; replace HB := kB HB hb; (try clear hb); (try clear hb2); (try clear hk); (try clear hi)))
 replace BK350 := Aside0.mk (blk_drew BK350.out); replace BK351 := Aside0.mk (blk_drew BK351.out); replace BK352 := Aside0.mk (blk_drew BK352.out); replace HB := Aside0.mk (below_drew1 HB.out); refine start_ (n := 10) (S := fun w' => w'.cell? ⟨gb351, 0, none⟩ = some (.bool a1_0) ∧ w'.cell? ⟨gb351, 1, none⟩ = some (.slice A1_1 l1_1.length c1_1) ∧ w'.cell? ⟨gb350, 0, none⟩ = some (.bool a0_0) ∧ w'.cell? ⟨gb350, 1, none⟩ = some (.slice A0_1 l0_1.length c0_1)) (ds := []) #[O, O, O, O, O, O, O, O, O, O] (by kernel_rfl) rfl rfl ⟨kc BK351 0, kc BK351 1, kc BK350 0, kc BK350 1⟩ (fun hHeld => ?_); refine with_tabW cobwebref01_Add.tab5 cobwebref01_Add.bits5 (fun HT_ HW_ => ?_)
 generalize w51.drew = w52 at BK350 BK351 BK352 HB hHeld ⊢
 refine pure_ (i := 0) (N := some 34) (v := ?_) (a' := ?_) #[T, O, O, O, O, O, O, O, O, O] rfl rfl (any_of HT_.out (by kernel_rfl)) (fun _ _ _ h => h) (Or.inl ⟨by rfl, ?_⟩) ?_ ?_; rotate_left; focus (intro w'; go_simp; with_reducible rfl)
 rotate_left; focus (simp only [Act.put, s1, s2, s3, i64_w, i32_w]; rfl)
 refine pure_ (i := 2) (N := some 36) (v := ?_) (a' := ?_) #[T, O, T, O, O, O, O, O, O, O] rfl rfl (any_of HT_.out (by kernel_rfl)) (fun _ _ _ h => h) (Or.inl ⟨by rfl, ?_⟩) ?_ ?_; rotate_left; focus (intro w'; go_simp; with_reducible rfl)
 rotate_left; focus (simp only [Act.put, s1, s2, s3, i64_w, i32_w]; rfl)
 refine pure_ (i := 4) (N := some 38) (v := ?_) (a' := ?_) #[T, O, T, O, T, O, O, O, O, O] rfl rfl (any_of HT_.out (by kernel_rfl)) (fun _ _ _ h => h) (Or.inl ⟨by rfl, ?_⟩) ?_ ?_; rotate_left; focus (intro w'; go_simp; with_reducible rfl)
 rotate_left; focus (simp only [Act.put, s1, s2, s3, i64_w, i32_w]; rfl)
 refine take_ (i := 1) (N := some 35) (v := ?_) (a' := ?_) #[T, T, T, O, T, O, O, O, O, O] rfl rfl (take_ofW HT_.out HW_.out (by kernel_rfl)) (fun _ _ _ h => h) (Or.inl ⟨by rfl, ?_⟩) hHeld ?_ ?_; rotate_left; focus (rintro w' ⟨s0, s1, s2, s3⟩; go_simp; with_reducible rfl)
 rotate_left; focus (simp only [Act.put, s1, s2, s3, i64_w, i32_w]; rfl)
 refine take_ (i := 3) (N := some 37) (v := ?_) (a' := ?_) #[T, T, T, T, T, O, O, O, O, O] rfl rfl (take_ofW HT_.out HW_.out (by kernel_rfl)) (fun _ _ _ h => h) (Or.inl ⟨by rfl, ?_⟩) hHeld ?_ ?_; rotate_left; focus (rintro w' ⟨s0, s1, s2, s3⟩; go_simp; with_reducible rfl)
 rotate_left; focus (simp only [Act.put, s1, s2, s3, i64_w, i32_w]; rfl)
 refine take_ (i := 5) (N := some 39) (v := ?_) (a' := ?_) #[T, T, T, T, T, T, O, O, O, O] rfl rfl (take_ofW HT_.out HW_.out (by kernel_rfl)) (fun _ _ _ h => h) (Or.inl ⟨by rfl, ?_⟩) hHeld ?_ ?_; rotate_left; focus (rintro w' ⟨s0, s1, s2, s3⟩; go_simp; with_reducible rfl)
 rotate_left; focus (simp only [Act.put, s1, s2, s3, i64_w, i32_w]; rfl)
 refine one_ (i := 6) (N := some 40) #[T, T, T, T, T, T, T, O, O, O] rfl rfl (one_of HT_.out (by kernel_rfl)) (by decide) (fun K hK => ?_); refine goes_ Try.func78 (by kernel_rfl) rfl #[.slice A1_1 l1_1.length c1_1, .slice A0_1 l0_1.length c0_1] (by rfl) rfl rfl (by (try simp only [zm, zc, zn]); first | done | rfl | (simp only [zd, zt]; rfl)) ?_
 with_reducible refine (cobwebref01_minus.calls k _ _ l1_1 _ _ l0_1 t368 _ ?side1 ?side2 ?side3 ?side4 A41.out).mono ?_
 (case side1 => repeat (first | exact (Kd.C_below HR1_1.out HB.out) | (with_reducible refine Kd.C_alloc ?_ _) | (with_reducible refine Kd.C_drewN ?_ _) | (with_reducible refine Kd.C_drew ?_)))
 (case side2 => exact HC1_1.out)
 (case side3 => repeat (first | exact (Kd.C_below HR0_1.out HB.out) | (with_reducible refine Kd.C_alloc ?_ _) | (with_reducible refine Kd.C_drewN ?_ _) | (with_reducible refine Kd.C_drew ?_)))
 (case side4 => exact HC0_1.out)
 rintro e w53 ⟨v369, rfl, ho0, hb⟩; refine ⟨_, rfl, ?_⟩; have HO370 := Aside0.mk (Kd.R_lower (Kd.R_newM (M := fun k_ => (w.heap.size ≤ k_)) ho0 (ko HB) (fun k_ h_ => h_)) (ko HB)); replace BK350 := kb BK350 hb; replace BK351 := kb BK351 hb; replace BK352 := kb BK352 hb; replace HB := kB HB hb
 (try clear hb); (try clear hb2); (try clear hk); (try clear hi); (try clear ho0)
 obtain ⟨Ao54, co54, eo54⟩ := Kd.R_slice HO370.out
 (first | subst eo54 | (injection eo54 with f1_ f2_ f3_; have f4_ := f1_.symm; have f5_ := f3_.symm; clear f1_ f2_ f3_; subst f4_; subst f5_))
 refine hK.out _ _ ⟨kc BK351 0, kc BK351 1, kc BK350 0, kc BK350 1⟩ (fun hHeld => ?_); clear hK K
 refine norm_ (a' := ?_) ?_ ?_; rotate_left; focus (show Act.put _ (some 40) _ = _; simp only [Act.put, s1, s2, s3, i64_w, i32_w]; rfl)
 refine pure_ (i := 7) (N := some 41) (v := ?_) (a' := ?_) #[T, T, T, T, T, T, T, T, O, O] rfl rfl (any_of HT_.out (by kernel_rfl)) (fun _ _ _ h => h) (Or.inl ⟨by rfl, ?_⟩) ?_ ?_; rotate_left; focus (intro w'; go_simp; with_reducible rfl)
 rotate_left; focus (simp only [Act.put, s1, s2, s3, i64_w, i32_w]; rfl)
 refine one_ (i := 8) (N := some 42) #[T, T, T, T, T, T, T, T, T, O] rfl rfl (one_of HT_.out (by kernel_rfl)) (by decide) (fun K hK => ?_); refine goes_ Try.func57 (by kernel_rfl) rfl #[.agg #[.bool a1_0, .slice Ao54 t368.length co54]] (by rfl) rfl rfl (by (try simp only [zm, zc, zn]); first | done | rfl | (simp only [zd, zt]; rfl)) ?_
 with_reducible refine (cobwebref01_trim.calls k a1_0 (fun k_ => some k_ = (.slice Ao54 t368.length co54 : Value).ownBlock) _ _ t368 t371 t372 _ ?side1 A42.out).mono ?_
 (case side1 => exact Kd.R_V (Kd.R_tight rfl (Kd.R_types (Kd.R_types (Kd.R_types (HO370.out) BK350.out (by decide)) BK351.out (by decide)) BK352.out (by decide))))
 rintro e w55 ⟨v373, rfl, ho0, hb⟩; refine ⟨_, rfl, ?_⟩; have HO374 := Aside0.mk (Kd.V_lower (Kd.V_mono (ok' := fun k_ => (w.heap.size ≤ k_) ∧ k_ ≠ gb350 ∧ k_ ≠ gb351 ∧ k_ ≠ gb352) ho0 (fun k_ hk_ => ⟨Or.elim hk_ (fun hs_ => ((Kd.R_types (Kd.R_types (Kd.R_types (HO370.out) BK350.out (by decide)) BK351.out (by decide)) BK352.out (by decide)).1 k_ hs_.symm).1.1.1.1) (fun hn_ => (Nat.le_trans (ko HB) hn_)), Or.elim hk_ (fun hs_ => ((Kd.R_types (Kd.R_types (Kd.R_types (HO370.out) BK350.out (by decide)) BK351.out (by decide)) BK352.out (by decide)).1 k_ hs_.symm).1.1.2) (fun hn_ => (Kd.freshB (g := gb350) (o := .cells #[.bool a0_0, .slice A0_1 l0_1.length c0_1] 32 (0, 0)) (kx BK350) k_ hn_)), Or.elim hk_ (fun hs_ => ((Kd.R_types (Kd.R_types (Kd.R_types (HO370.out) BK350.out (by decide)) BK351.out (by decide)) BK352.out (by decide)).1 k_ hs_.symm).1.2) (fun hn_ => (Kd.freshB (g := gb351) (o := .cells #[.bool a1_0, .slice A1_1 l1_1.length c1_1] 32 (0, 0)) (kx BK351) k_ hn_)), Or.elim hk_ (fun hs_ => ((Kd.R_types (Kd.R_types (Kd.R_types (HO370.out) BK350.out (by decide)) BK351.out (by decide)) BK352.out (by decide)).1 k_ hs_.symm).2) (fun hn_ => (Kd.freshB (g := gb352) (o := .cells #[.bool false, .slice none 0 0] 32 (0, 0)) (kx BK352) k_ hn_))⟩)) (ko HB)); replace HO370 := kR HO370 hb; replace BK350 := kb BK350 hb; replace BK351 := kb BK351 hb; replace BK352 := kb BK352 hb; replace HB := kB HB hb
 (try clear hb); (try clear hb2); (try clear hk); (try clear hi); (try clear ho0)
 obtain ⟨Ao57, co57, eo57⟩ := Kd.V_slice HO374.out
 (first | subst eo57 | (injection eo57 with f1_ f2_ f3_; have f4_ := f1_.symm; have f5_ := f3_.symm; clear f1_ f2_ f3_; subst f4_; subst f5_))
 refine hK.out _ _ ⟨kc BK351 0, kc BK351 1, kc BK350 0, kc BK350 1⟩ (fun hHeld => ?_); clear hK K
 refine norm_ (a' := ?_) ?_ ?_; rotate_left; focus (show Act.put _ (some 42) _ = _; simp only [Act.put, s1, s2, s3, i64_w, i32_w]; rfl)
 refine one_ (i := 9) (N := none) #[T, T, T, T, T, T, T, T, T, T] rfl rfl (one_of HT_.out (by kernel_rfl)) (by decide) (fun K hK => ?_); have hs56 : w55.cell? ⟨gb352, 0, none⟩ = some (.bool false) := kc BK352 0; have hfs56 := blk_frozen BK352.out 0; have hns56_0 := NB350_352.out; have hns56_1 := NB351_352.out; have hms56_0 := NB352_350.out; have hms56_1 := NB352_351.out; have hs58 : w55.cell? ⟨gb352, 1, none⟩ = some (.slice none 0 0) := kc BK352 1; have hfs58 := blk_frozen BK352.out 1; have hns58_0 := NB350_352.out; have hns58_1 := NB351_352.out; have hms58_0 := NB352_350.out; have hms58_1 := NB352_351.out; refine skip_ (w1 := ?_) (by rfl) rfl ?_ ?_; rotate_left
 ·go_simp
  rfl
 refine hK.out _ _ ⟨((cell_far (p := ⟨gb352, _, none⟩) NB351_352.out _).trans (((cell_far (p := ⟨gb352, _, none⟩) NB351_352.out _).trans (hHeld.1)))), ((cell_far (p := ⟨gb352, _, none⟩) NB351_352.out _).trans (((cell_far (p := ⟨gb352, _, none⟩) NB351_352.out _).trans (hHeld.2.1)))), ((cell_far (p := ⟨gb352, _, none⟩) NB350_352.out _).trans (((cell_far (p := ⟨gb352, _, none⟩) NB350_352.out _).trans (hHeld.2.2.1)))), ((cell_far (p := ⟨gb352, _, none⟩) NB350_352.out _).trans (((cell_far (p := ⟨gb352, _, none⟩) NB350_352.out _).trans (hHeld.2.2.2))))⟩ (fun hHeld => ?_); clear hK K; refine done_ (done_of HT_.out (by kernel_rfl)) ?_
 try go_wp2
 refine bodyPost_ret (results_cell_row rfl _ _ gb352 32 #[.bool t371, .slice Ao57 t372.length co57] (0, 0) _ rfl (by (with_reducible repeat (first | refine zr ?_ _ | refine zw ?_ | refine za ?_ _)); refine blk_put (cs := #[.bool t371, .slice none 0 0]) ?_ 1 _ rfl; (with_reducible repeat (first | refine zr ?_ _ | refine zw ?_ | refine za ?_ _)); refine blk_put (cs := #[.bool false, .slice none 0 0]) ?_ 0 _ rfl; (with_reducible repeat (first | refine zr ?_ _ | refine zw ?_ | refine za ?_ _)); exact BK352.out) Try.underlying32 rfl (by kernel_rfl)) rfl ?_; exact ⟨_, by first | rfl | (simp [errW_none, errW_some] <;> rfl) | (simp [*, errW_none, errW_some] <;> rfl), by (with_reducible repeat (first | apply Kd.V_alloc | apply Kd.V_drewN | apply Kd.V_drew)); exact Kd.V_mono (Kd.V_far (p := ⟨gb352, 1, none⟩) (Kd.V_far (p := ⟨gb352, 0, none⟩) (Kd.V_mono HO374.out (fun k_ hk => (⟨hk, hk.2.2.2⟩ : _ ∧ k_ ≠ gb352))) (fun _ hk => hk.2) (.bool t371)) (fun _ hk => hk.2) (.slice Ao57 t372.length co57)) (fun _ hk => hk.1.1), ky HB⟩

/-! ### cobwebref01_Power: function 23 -/
def cobwebref01_Power.l0 : Nat → Int → Int → Bool → List Int → Option (Bool × List Int)
 | 0, _, _, _, _ => none
 | k + 1, x0, x4, x381000, x381001 => if x4 < x0 then ((cobwebref01_Add.f k x381000 x381001 x381000 x381001).bind fun bt381 => (cobwebref01_Power.l0 k x0 (wrap64 (x4 + 1)) bt381.1 bt381.2)) else (some (x381000, x381001))
def cobwebref01_Power.f (k : Nat) (a0 : Int) : Option (Bool × List Int) := (cobwebref01_Of.f k 1).bind fun bt376 => (cobwebref01_Power.l0 k a0 0 bt376.1 bt376.2)
theorem cobwebref01_Power.mono_l : ∀ k, (∀ y0 y1 y2 y3, LeO (cobwebref01_Power.l0 k y0 y1 y2 y3) (cobwebref01_Power.l0 (k + 1) y0 y1 y2 y3))
 | 0 => fun _ _ _ _ r h => by simp [cobwebref01_Power.l0] at h
 | k + 1 => by
  have ih0 := cobwebref01_Power.mono_l k
  ·intro y0 y1 y2 y3
   unfold cobwebref01_Power.l0
   repeat' first
   | (with_reducible exact ih0 _ _ _ _)
   | (with_reducible exact cobwebref01_Add.mono _ _ _ _ _)
   | (with_reducible exact cobwebref01_Of.mono _ _)
   | (with_reducible exact LeO.refl _)
   | (with_reducible exact LeO.none _)
   | (with_reducible refine LeO.ite ?_ ?_)
   | (with_reducible refine LeO.bind ?_ (fun _ => ?_))
   | exact ih0 _ _ _ _
   | exact cobwebref01_Add.mono _ _ _ _ _
   | exact cobwebref01_Of.mono _ _
   | exact LeO.none _
   | refine LeO.ite ?_ ?_
   | refine LeO.bind ?_ (fun _ => ?_)
theorem cobwebref01_Power.mono : ∀ a0 k, LeO (cobwebref01_Power.f k a0) (cobwebref01_Power.f (k + 1) a0) := by
 intro a0 k; have ih0 := cobwebref01_Power.mono_l k
 unfold cobwebref01_Power.f
 repeat' first
   | (with_reducible exact ih0 _ _ _ _)
   | (with_reducible exact cobwebref01_Add.mono _ _ _ _ _)
   | (with_reducible exact cobwebref01_Of.mono _ _)
   | (with_reducible exact LeO.refl _)
   | (with_reducible exact LeO.none _)
   | (with_reducible refine LeO.ite ?_ ?_)
   | (with_reducible refine LeO.bind ?_ (fun _ => ?_))
   | exact ih0 _ _ _ _
   | exact cobwebref01_Add.mono _ _ _ _ _
   | exact cobwebref01_Of.mono _ _
   | exact LeO.none _
   | refine LeO.ite ?_ ?_
   | refine LeO.bind ?_ (fun _ => ?_)
set_option maxHeartbeats 8000000 in
set_option maxRecDepth 100000 in
theorem cobwebref01_Power.calls (k : Nat) (a0 : Int) (r1 : Bool) (r2 : List Int) (w : World) (h : cobwebref01_Power.f k a0 = some (r1, r2)) :
  Calls Try.prog 23 #[.int .i64 a0] w fun e w' => ∃ v1_ : Value, e = .returned (.agg #[.bool r1, v1_]) ∧ Kd.V (Kd.int .i64) 3 w' w.heap.size (fun k_ => (w.heap.size ≤ k_)) v1_ r2 ∧ Below w.heap.size w w' := by
 have hu32 := Try.underlying32; have HB := Aside0.mk (Below.refl w.heap.size w); have H : ((cobwebref01_Of.f k 1).bind fun bt376 => (cobwebref01_Power.l0 k a0 0 bt376.1 bt376.2)) = some (r1, r2) := h; clear h; replace H := Option.bind_eq_some_iff.mp H; obtain ⟨⟨t376, t377⟩, A20, H⟩ := H; replace H : (cobwebref01_Power.l0 k a0 0 t376 t377) = some (r1, r2) := H; have A2 := Aside0.mk A20; clear A20; have H' := Aside0.mk H; clear H
 go_enter Try.func23, Try.ntmps23
 go_wp2_with (first | ((with_reducible refine gate_dst (N := 2) rfl ?_); refine box_event ?hg (N := 2) ?hd (cs := #[.bool false, .slice none 0 0]) (t := 32) ?hr ?_; (case hd => rfl); (case hg => rfl); (case hr => first | (go_simp; done) | (go_simp; rfl)); intro gb375 hg w3 hbox hb; have BK375 := Aside0.mk (hbox); have GW375 := kS HB hg; have GE375 := kS HB hg; replace HB := kB HB hb; clear hb hbox hg) | ((with_reducible refine gate_callee (f := 21) rfl ?_); refine goesL_ (some 5) rfl rfl Try.func21 (by kernel_rfl) rfl #[.int .i64 1] rfl (by (try simp only [zm, zc, zn]); first | done | rfl | (simp only [zd, zt]; rfl)) ?_; (with_reducible refine (cobwebref01_Of.calls k 1 t376 t377 _ A2.out).mono ?_); rintro e w4 ⟨v378, rfl, ho0, hb⟩; refine ⟨_, rfl, ?_⟩; have HO379 := Aside0.mk (Kd.R_lower (Kd.R_newM (M := fun k_ => (w.heap.size ≤ k_)) ho0 (ko HB) (fun k_ h_ => h_)) (ko HB)); replace BK375 := kb BK375 hb; replace HB := kB HB hb; (try clear hb); (try clear hb2); (try clear hk); (try clear hi); (try clear ho0)) | ((with_reducible refine gate_dst (N := 3) rfl ?_); refine box_event ?hg (N := 3) ?hd (cs := #[.bool false, .slice none 0 0]) (t := 32) ?hr ?_; (case hd => rfl); (case hg => rfl); (case hr => first | (go_simp; done) | (go_simp; rfl)); intro gb380 hg w5 hbox hb; have BK380 := Aside0.mk (hbox); have GW380 := kS HB hg; have GE380 := kS HB hg; have NB375_380 := kN BK375 hg; have NB380_375 := kM BK375 hg; replace HO379 := kR HO379 hb; replace BK375 := kb BK375 hb; replace HB := kB HB hb; clear hb hbox hg; have hnb6 := NB380_375.out; have hnc6 := NB375_380.out; have hcz7_0 : w5.cell? ⟨gb380, 0, none⟩ = some (.bool false) := kc BK380 0; have hcz7_1 : w5.cell? ⟨gb380, 1, none⟩ = some (.slice none 0 0) := kc BK380 1; have hfz7_0 := blk_frozen BK380.out 0; have hfz7_1 := blk_frozen BK380.out 1; obtain ⟨Ao8, co8, eo8⟩ := Kd.R_slice HO379.out; subst eo8))
 go_loopg [4] k (fun kq v4 w' => ∃ (x4_1 : Int) (x381000_1 : Bool) (x381001_1 : List Int) (u381001 : Value), v4 = .int .i64 x4_1 ∧ Aside0 (cobwebref01_Power.l0 kq a0 x4_1 x381000_1 x381001_1 = some (r1, r2)) ∧ Aside0 (kq ≤ k) ∧ Aside0 (Kd.V (Kd.int .i64) 3 w' w.heap.size (fun k_ => (w.heap.size ≤ k_) ∧ k_ ≠ gb375 ∧ k_ ≠ gb380) u381001 x381001_1) ∧ Aside0 (w'.heap[gb375]? = some (.cells #[.bool false, (.slice none 0 0)] 32 (0, 0))) ∧ Aside0 (w'.heap[gb380]? = some (.cells #[.bool x381000_1, u381001] 32 (0, 0))) ∧ Aside0 (Below w.heap.size w w'))
 case atStart => exact ⟨(0), (t376), (t377), (.slice Ao8 t377.length co8), (by first | rfl | (simp; done) | (simp [*]; done)), H', ⟨Nat.le_refl _⟩, ⟨Kd.R_V (by (with_reducible repeat (first | apply Kd.R_alloc | apply Kd.R_drewN | apply Kd.R_drew)); exact Kd.R_mono (Kd.R_far (p := ⟨gb380, 1, none⟩) (Kd.R_far (p := ⟨gb380, 0, none⟩) (Kd.R_types (Kd.R_types (Kd.R_types HO379.out BK375.out (by decide)) BK380.out (by decide)) BK380.out (by decide)) (fun _ hk => hk.2) (.bool t376)) (fun _ hk => hk.2) (.slice Ao8 t377.length co8)) (fun _ hk => ⟨hk.1.1.1.1, ⟨hk.1.1.2, hk.1.2⟩⟩))⟩, ⟨kx BK375⟩, ⟨by (with_reducible repeat (first | refine zr ?_ _ | refine zw ?_ | refine za ?_ _)); refine blk_put (cs := #[.bool t376, .slice none 0 0]) ?_ 1 _ rfl; (with_reducible repeat (first | refine zr ?_ _ | refine zw ?_ | refine za ?_ _)); refine blk_put (cs := #[.bool false, .slice none 0 0]) ?_ 0 _ rfl; (with_reducible repeat (first | refine zr ?_ _ | refine zw ?_ | refine za ?_ _)); exact BK380.out⟩, ⟨ky HB⟩⟩
 case round =>
  clear H'
  try clear c2; try clear p2; try clear c6; try clear hcz7_0; try clear hcz7_1; try clear hfz7_0; try clear hfz7_1
  obtain ⟨x4_1, x381000_1, x381001_1, u381001, rfl, HA, HK1, HO_381001, BK375, BK380, HB⟩ := hrel
  cases gk with
  | zero => exact absurd HA.out (by simp [cobwebref01_Power.l0])
  | succ k1 =>
   have H := HA.out; clear HA
   simp only [cobwebref01_Power.l0] at H
   by_cases c9 : x4_1 < a0
   rotate_left
   ·rw [if_neg c9] at H
    have c9b0 : decide (x4_1 < a0) = false := decide_eq_false c9; clear c9
    simp only [Option.some.injEq, Prod.mk.injEq] at H
    obtain ⟨rfl, rfl⟩ := H; have hnb17 := NB380_375.out; have hnc17 := NB375_380.out; obtain ⟨hcz18_0, hcz18_1⟩ := kc2 BK380; obtain ⟨hfz18_0, hfz18_1⟩ := kf2 BK380; obtain ⟨hcz19_0, hcz19_1⟩ := kc2 BK375; obtain ⟨hfz19_0, hfz19_1⟩ := kf2 BK375; obtain ⟨Ao20, co20, eo20⟩ := Kd.V_slice HO_381001.out; subst eo20
    go_wp2
    refine bodyPost_ret (results_cell_row rfl _ _ gb375 32 #[.bool x381000_1, .slice Ao20 x381001_1.length co20] (0, 0) _ rfl (by (with_reducible repeat (first | refine zr ?_ _ | refine zw ?_ | refine za ?_ _)); refine blk_put (cs := #[.bool x381000_1, .slice none 0 0]) ?_ 1 _ rfl; (with_reducible repeat (first | refine zr ?_ _ | refine zw ?_ | refine za ?_ _)); refine blk_put (cs := #[.bool false, .slice none 0 0]) ?_ 0 _ rfl; (with_reducible repeat (first | refine zr ?_ _ | refine zw ?_ | refine za ?_ _)); exact BK375.out) Try.underlying32 rfl (by kernel_rfl)) rfl ?_; exact ⟨_, by first | rfl | (simp [errW_none, errW_some] <;> rfl) | (simp [*, errW_none, errW_some] <;> rfl), by (with_reducible repeat (first | apply Kd.V_alloc | apply Kd.V_drewN | apply Kd.V_drew)); exact Kd.V_mono (Kd.V_far (p := ⟨gb375, 1, none⟩) (Kd.V_far (p := ⟨gb375, 0, none⟩) (Kd.V_mono HO_381001.out (fun k_ hk => (⟨hk, hk.2.1⟩ : _ ∧ k_ ≠ gb375))) (fun _ hk => hk.2) (.bool x381000_1)) (fun _ hk => hk.2) (.slice Ao20 x381001_1.length co20)) (fun _ hk => hk.1.1), ky HB⟩

   rw [if_pos c9] at H
   have c9b0 : decide (x4_1 < a0) = true := decide_eq_true c9; clear c9; replace H := Option.bind_eq_some_iff.mp H; obtain ⟨⟨t381, t382⟩, A100, H⟩ := H; replace H : (cobwebref01_Power.l0 k1 a0 (wrap64 (x4_1 + 1)) t381 t382) = some (r1, r2) := H; have A10 := Aside0.mk A100; clear A100; have H' := Aside0.mk H; clear H; have hnb11 := NB380_375.out; have hnc11 := NB375_380.out; obtain ⟨hcz12_0, hcz12_1⟩ := kc2 BK380; obtain ⟨hfz12_0, hfz12_1⟩ := kf2 BK380; obtain ⟨Ao13, co13, eo13⟩ := Kd.V_slice HO_381001.out; subst eo13
   go_wp2_with (first | ((with_reducible refine gate_callee (f := 45) rfl ?_); refine goesL_ (some 13) rfl rfl Try.func45 (by kernel_rfl) rfl #[.agg #[.bool x381000_1, .slice Ao13 x381001_1.length co13], .agg #[.bool x381000_1, .slice Ao13 x381001_1.length co13]] rfl (by (try simp only [zm, zc, zn]); first | done | rfl | (simp only [zd, zt]; rfl)) ?_; (with_reducible refine (cobwebref01_Add.calls k1 x381000_1 _ _ x381001_1 x381000_1 _ _ x381001_1 t381 t382 _ ?side1 ?side2 ?side3 ?side4 A10.out).mono ?_); (case side1 => repeat (first | exact (Kd.V_reads' HO_381001.out).2.2 | (with_reducible refine Kd.C_alloc ?_ _) | (with_reducible refine Kd.C_drewN ?_ _) | (with_reducible refine Kd.C_drew ?_))); (case side2 => exact (Kd.V_reads' HO_381001.out).2.1); (case side3 => repeat (first | exact (Kd.V_reads' HO_381001.out).2.2 | (with_reducible refine Kd.C_alloc ?_ _) | (with_reducible refine Kd.C_drewN ?_ _) | (with_reducible refine Kd.C_drew ?_))); (case side4 => exact (Kd.V_reads' HO_381001.out).2.1); rintro e w14 ⟨v383, rfl, ho0, hb⟩; refine ⟨_, rfl, ?_⟩; have HO384 := Aside0.mk (Kd.V_lower (Kd.V_mono (ok' := fun k_ => (w.heap.size ≤ k_) ∧ k_ ≠ gb375 ∧ k_ ≠ gb380) ho0 (fun k_ hk_ => ⟨(Nat.le_trans (ko HB) hk_), (kF BK375 k_ hk_), (kF BK380 k_ hk_)⟩)) (ko HB)); replace HO_381001 := kV HO_381001 hb; replace BK375 := kb BK375 hb; replace BK380 := kb BK380 hb; replace HB := kB HB hb; (try clear hb); (try clear hb2); (try clear hk); (try clear hi); (try clear ho0); have hcz15_0 : w14.cell? ⟨gb380, 0, none⟩ = some (.bool x381000_1) := kc BK380 0; have hcz15_1 : w14.cell? ⟨gb380, 1, none⟩ = some (.slice Ao13 x381001_1.length co13) := kc BK380 1; have hfz15_0 := blk_frozen BK380.out 0; have hfz15_1 := blk_frozen BK380.out 1; obtain ⟨Ao16, co16, eo16⟩ := Kd.V_slice HO384.out; subst eo16))
   go_roundg k1
   case measure => have := HK1.out; omega
   case rel => exact ⟨(wrap64 (x4_1 + 1)), (t381), (t382), (.slice Ao16 t382.length co16), (by first | rfl | (simp; done) | (simp [*]; done)), H', ⟨by have := HK1.out; omega⟩, ⟨by (with_reducible repeat (first | apply Kd.V_alloc | apply Kd.V_drewN | apply Kd.V_drew)); exact Kd.V_mono (Kd.V_far (p := ⟨gb380, 1, none⟩) (Kd.V_far (p := ⟨gb380, 0, none⟩) (Kd.V_mono HO384.out (fun k_ hk => (⟨hk, hk.2.2⟩ : _ ∧ k_ ≠ gb380))) (fun _ hk => hk.2) (.bool t381)) (fun _ hk => hk.2) (.slice Ao16 t382.length co16)) (fun _ hk => ⟨hk.1.1, ⟨hk.1.2.1, hk.1.2.2⟩⟩)⟩, ⟨kx BK375⟩, ⟨by (with_reducible repeat (first | refine zr ?_ _ | refine zw ?_ | refine za ?_ _)); refine blk_put (cs := #[.bool t381, .slice Ao13 x381001_1.length co13]) ?_ 1 _ rfl; (with_reducible repeat (first | refine zr ?_ _ | refine zw ?_ | refine za ?_ _)); refine blk_put (cs := #[.bool x381000_1, .slice Ao13 x381001_1.length co13]) ?_ 0 _ rfl; (with_reducible repeat (first | refine zr ?_ _ | refine zw ?_ | refine za ?_ _)); exact BK380.out⟩, ⟨ky HB⟩⟩
/-! ### cobwebref01_Unsigned: function 79 -/
def cobwebref01_Unsigned.l0 : Nat → Int → Bool → List Int → Option (Bool × List Int)
 | 0, _, _, _ => none
 | k + 1, x0, x387000, x387001 => if x0 = 0 then (some (x387000, x387001)) else (if x387001.length < 17592186044416 then (cobwebref01_Unsigned.l0 k (IntKind.u64.wrap (Int.tdiv x0 10000)) x387000 (x387001 ++ [wrap64 (Int.tmod x0 10000)])) else (none))
def cobwebref01_Unsigned.f (k : Nat) (a0 : Int) : Option (Bool × List Int) := cobwebref01_Unsigned.l0 k a0 false ([] : List Int)
theorem cobwebref01_Unsigned.mono_l : ∀ k, (∀ y0 y1 y2, LeO (cobwebref01_Unsigned.l0 k y0 y1 y2) (cobwebref01_Unsigned.l0 (k + 1) y0 y1 y2))
 | 0 => fun _ _ _ r h => by simp [cobwebref01_Unsigned.l0] at h
 | k + 1 => by
  have ih0 := cobwebref01_Unsigned.mono_l k
  ·intro y0 y1 y2
   unfold cobwebref01_Unsigned.l0
   repeat' first
   | (with_reducible exact ih0 _ _ _)
   | (with_reducible exact LeO.refl _)
   | (with_reducible exact LeO.none _)
   | (with_reducible refine LeO.ite ?_ ?_)
   | (with_reducible refine LeO.bind ?_ (fun _ => ?_))
   | exact ih0 _ _ _
   | exact LeO.none _
   | refine LeO.ite ?_ ?_
   | refine LeO.bind ?_ (fun _ => ?_)
theorem cobwebref01_Unsigned.mono : ∀ a0 k, LeO (cobwebref01_Unsigned.f k a0) (cobwebref01_Unsigned.f (k + 1) a0) := by
 intro a0 k; have ih0 := cobwebref01_Unsigned.mono_l k
 unfold cobwebref01_Unsigned.f
 repeat' first
   | (with_reducible exact ih0 _ _ _)
   | (with_reducible exact LeO.refl _)
   | (with_reducible exact LeO.none _)
   | (with_reducible refine LeO.ite ?_ ?_)
   | (with_reducible refine LeO.bind ?_ (fun _ => ?_))
   | exact ih0 _ _ _
   | exact LeO.none _
   | refine LeO.ite ?_ ?_
   | refine LeO.bind ?_ (fun _ => ?_)
set_option maxHeartbeats 8000000 in
set_option maxRecDepth 100000 in
theorem cobwebref01_Unsigned.calls (k : Nat) (a0 : Int) (r1 : Bool) (r2 : List Int) (w : World) (h : cobwebref01_Unsigned.f k a0 = some (r1, r2)) :
  Calls Try.prog 79 #[.int .u64 a0] w fun e w' => ∃ v1_ : Value, e = .returned (.agg #[.bool r1, v1_]) ∧ Kd.R (Kd.int .i64) 3 w' w.heap.size (fun _ => True) v1_ r2 ∧ Below w.heap.size w w' := by
 have hu32 := Try.underlying32; have HB := Aside0.mk (Below.refl w.heap.size w); have H : (cobwebref01_Unsigned.l0 k a0 false ([] : List Int)) = some (r1, r2) := h; clear h; have H' := Aside0.mk H; clear H
 go_enter Try.func79, Try.ntmps79
 go_wp2_with (first | ((with_reducible refine gate_dst (N := 2) rfl ?_); refine box_event ?hg (N := 2) ?hd (cs := #[.bool false, .slice none 0 0]) (t := 32) ?hr ?_; (case hd => rfl); (case hg => rfl); (case hr => first | (go_simp; done) | (go_simp; rfl)); intro gb385 hg w2 hbox hb; have BK385 := Aside0.mk (hbox); have GW385 := kS HB hg; have GE385 := kS HB hg; replace HB := kB HB hb; clear hb hbox hg) | ((with_reducible refine gate_dst (N := 3) rfl ?_); refine box_event ?hg (N := 3) ?hd (cs := #[.bool false, .slice none 0 0]) (t := 32) ?hr ?_; (case hd => rfl); (case hg => rfl); (case hr => first | (go_simp; done) | (go_simp; rfl)); intro gb386 hg w3 hbox hb; have BK386 := Aside0.mk (hbox); have GW386 := kS HB hg; have GE386 := kS HB hg; have NB385_386 := kN BK385 hg; have NB386_385 := kM BK385 hg; replace BK385 := kb BK385 hb; replace HB := kB HB hb; clear hb hbox hg))
 (try simp only [Act.put, s1, s2, s3])
 go_loopg [0] k (fun kq v0 w' => ∃ (x0_1 : Int) (x387001_1 : List Int) (u387001 : Value), v0 = .int .u64 x0_1 ∧ Aside0 (cobwebref01_Unsigned.l0 kq x0_1 false x387001_1 = some (r1, r2)) ∧ Aside0 (kq ≤ k) ∧ Aside0 (Kd.R (Kd.int .i64) 3 w' w.heap.size (fun _ => True) u387001 x387001_1) ∧ Aside0 (w'.heap[gb385]? = some (.cells #[.bool false, (.slice none 0 0)] 32 (0, 0))) ∧ Aside0 (w'.heap[gb386]? = some (.cells #[.bool false, u387001] 32 (0, 0))) ∧ Aside0 (Below w.heap.size w w'))
 case atStart => exact ⟨(a0), (([] : List Int)), (.slice none 0 0), (by first | rfl | (simp; done) | (simp [*]; done)), H', ⟨Nat.le_refl _⟩, ⟨by first | exact Kd.R_nil _ _ _ _ _ | exact Kd.N_nil _ _ _ _ _ | exact Kd.V_nil _ _ _ _ _ | exact Kd.Q_nil _ _ _ _ _ | exact Kd.S_nil _ _ _ _ _⟩, ⟨kx BK385⟩, ⟨kx BK386⟩, ⟨ky HB⟩⟩
 case round =>
  clear H'
  try clear p2
  obtain ⟨x0_1, x387001_1, u387001, rfl, HA, HK1, HO_387001, BK385, BK386, HB⟩ := hrel
  cases gk with
  | zero => exact absurd HA.out (by simp [cobwebref01_Unsigned.l0])
  | succ k1 =>
   have H := HA.out; clear HA
   simp only [cobwebref01_Unsigned.l0] at H
   by_cases c4 : x0_1 = 0
   ·rw [if_pos c4] at H
    have c4b0 : (x0_1 == 0) = true := beq_iff_eq.mpr c4; have c4b1 : (x0_1 != 0) = false := bne_eq_false_iff_eq.mpr c4; clear c4
    simp only [Option.some.injEq, Prod.mk.injEq] at H
    obtain ⟨rfl, rfl⟩ := H; have hnb5 := NB386_385.out; have hnc5 := NB385_386.out; obtain ⟨hcz6_0, hcz6_1⟩ := kc2 BK386; obtain ⟨hfz6_0, hfz6_1⟩ := kf2 BK386; obtain ⟨hcz7_0, hcz7_1⟩ := kc2 BK385; obtain ⟨hfz7_0, hfz7_1⟩ := kf2 BK385; obtain ⟨Ao8, co8, eo8⟩ := Kd.R_slice HO_387001.out; subst eo8
    go_wp2
    refine bodyPost_ret (results_cell_row rfl _ _ gb385 32 #[.bool false, .slice Ao8 x387001_1.length co8] (0, 0) _ rfl (by (with_reducible repeat (first | refine zr ?_ _ | refine zw ?_ | refine za ?_ _)); refine blk_put (cs := #[.bool false, .slice none 0 0]) ?_ 1 _ rfl; (with_reducible repeat (first | refine zr ?_ _ | refine zw ?_ | refine za ?_ _)); refine blk_put (cs := #[.bool false, .slice none 0 0]) ?_ 0 _ rfl; (with_reducible repeat (first | refine zr ?_ _ | refine zw ?_ | refine za ?_ _)); exact BK385.out) Try.underlying32 rfl (by kernel_rfl)) rfl ?_; exact ⟨_, by first | rfl | (simp [errW_none, errW_some] <;> rfl) | (simp [*, errW_none, errW_some] <;> rfl), by (with_reducible repeat (first | apply Kd.R_alloc | apply Kd.R_drewN | apply Kd.R_drew)); exact Kd.R_mono (Kd.R_far (p := ⟨gb385, 1, none⟩) (Kd.R_far (p := ⟨gb385, 0, none⟩) (Kd.R_types HO_387001.out BK385.out (by decide)) (fun _ hk => hk.2) (.bool false)) (fun _ hk => hk.2) (.slice Ao8 x387001_1.length co8)) (fun _ hk => trivial), ky HB⟩
   rw [if_neg c4] at H
   have c4b0 : (x0_1 == 0) = false := beq_eq_false_iff_ne.mpr c4; have c4b1 : (x0_1 != 0) = true := bne_iff_ne.mpr c4
   by_cases c9 : x387001_1.length < 17592186044416
   rotate_left
   ·rw [if_neg c9] at H
    exact absurd H (by simp)

   rw [if_pos c9] at H
   have LMc9 := Aside0.mk c9; clear c9; obtain ⟨y387, hy387⟩ : ∃ y_ : List Int, y_ = (x387001_1 ++ [wrap64 (Int.tmod x0_1 10000)]) := ⟨_, rfl⟩
   replace H : (cobwebref01_Unsigned.l0 k1 (IntKind.u64.wrap (Int.tdiv x0_1 10000)) false y387) = some (r1, r2) := by first | (rw [hy387]; with_reducible exact H) | (have H2_ := (Option.bind_some _ _).symm.trans H; rw [hy387]; with_reducible exact H2_) | (have H2_ := (Option.bind_some _ _).symm.trans H; with_reducible exact H2_) | with_reducible exact H | (rw [hy387]; exact H) | exact H
   have Ny387 := Aside0.mk hy387; clear hy387; have H' := Aside0.mk H; clear H; have hnb10 := NB386_385.out; have hnc10 := NB385_386.out; obtain ⟨hcz11_0, hcz11_1⟩ := kc2 BK386; obtain ⟨hfz11_0, hfz11_1⟩ := kf2 BK386
   go_wp2_with (first | ((with_reducible refine gate_builtin (b := .append) (xs := #[.tmp 7, .tmp 11]) rfl ?_); at_builtin; refine Kd.R_append (Kd.int .i64) (w0 := w) w.heap.size rfl (.tmp 7) (.tmp 11) 30 3 (.int .i64 0) 8 rfl Try.underlying30 info3 rfl (by decide) (by omega) u387001 x387001_1 (wrap64 (Int.tmod x0_1 10000)) [.int .i64 (wrap64 (Int.tmod x0_1 10000))] (fun _ => True) (fun _ => False) rfl rfl ?aP (fun _ hk => hk.elim) ?aF ?aO ?aB ?aS ?aL ?_; (case aP => exact rfl); (case aB => exact (ky HB)); (case aF => exact (fun _ _ => trivial)); (case aO => exact (kr HO_387001)); (case aS => exact (ko HB)); (case aL => have := LMc9.out; omega); intro v388 w12 ho hb hg hat; rw [← Ny387.out] at ho; have n0_ := Aside0.mk (blk_grown (g := gb385) (o := .cells #[.bool false, .slice none 0 0] 32 (0, 0)) (kx BK385) hg (Kd.R_ne HO_387001.out BK385.out (by decide))); have n1_ := Aside0.mk (blk_grown (g := gb386) (o := .cells #[.bool false, u387001] 32 (0, 0)) (kx BK386) hg (Kd.R_ne HO_387001.out BK386.out (by decide))); have n2_ := Aside0.mk (hb); have n3_ := Aside0.mk (ho); clear BK385; clear BK386; clear HB; clear HO_387001; have BK385 := n0_; have BK386 := n1_; have HB := n2_; have HO389 := n3_; clear n0_ n1_ n2_ n3_; clear ho hb hg hat; obtain ⟨Ao13, co13, eo13⟩ := Kd.R_slice HO389.out; subst eo13; have hcz14_0 : w12.cell? ⟨gb386, 0, none⟩ = some (.bool false) := kc BK386 0; have hcz14_1 : w12.cell? ⟨gb386, 1, none⟩ = some (u387001) := kc BK386 1; have hfz14_0 := blk_frozen BK386.out 0; have hfz14_1 := blk_frozen BK386.out 1))
   go_roundg k1
   case measure => have := HK1.out; omega
   case rel => exact ⟨(IntKind.u64.wrap (Int.tdiv x0_1 10000)), (y387), (.slice Ao13 y387.length co13), (by first | rfl | (simp; done) | (simp [*]; done)), H', ⟨by have := HK1.out; omega⟩, ⟨by (with_reducible repeat (first | apply Kd.R_alloc | apply Kd.R_drewN | apply Kd.R_drew)); exact Kd.R_mono (Kd.R_far (p := ⟨gb386, 1, none⟩) (Kd.R_types HO389.out BK386.out (by decide)) (fun _ hk => hk.2) (.slice Ao13 y387.length co13)) (fun _ hk => trivial)⟩, ⟨kx BK385⟩, ⟨by (with_reducible repeat (first | refine zr ?_ _ | refine zw ?_ | refine za ?_ _)); refine blk_put (cs := #[.bool false, u387001]) ?_ 1 _ rfl; (with_reducible repeat (first | refine zr ?_ _ | refine zw ?_ | refine za ?_ _)); exact BK386.out⟩, ⟨ky HB⟩⟩
/-! ### cobwebref01_Wide: function 58 -/
def cobwebref01_Wide.f (k : Nat) (a0 : Int) (a1 : Int) : Option (Bool × List Int) := (cobwebref01_Of.f k a0).bind fun bt391 => ((cobwebref01_Power.f k 64).bind fun bt395 => ((cobwebref01_Mul.f k bt391.1 bt391.2 bt395.1 bt395.2).bind fun bt399 => ((cobwebref01_Unsigned.f k a1).bind fun bt403 => ((cobwebref01_Add.f k bt399.1 bt399.2 bt403.1 bt403.2).bind fun bt407 => (some (bt407.1, bt407.2))))))
theorem cobwebref01_Wide.mono : ∀ a0 a1 k, LeO (cobwebref01_Wide.f k a0 a1) (cobwebref01_Wide.f (k + 1) a0 a1) := by
 intro a0 a1 k
 unfold cobwebref01_Wide.f
 repeat' first
   | (with_reducible exact cobwebref01_Add.mono _ _ _ _ _)
   | (with_reducible exact cobwebref01_Mul.mono _ _ _ _ _)
   | (with_reducible exact cobwebref01_Of.mono _ _)
   | (with_reducible exact cobwebref01_Power.mono _ _)
   | (with_reducible exact cobwebref01_Unsigned.mono _ _)
   | (with_reducible exact LeO.refl _)
   | (with_reducible exact LeO.none _)
   | (with_reducible refine LeO.ite ?_ ?_)
   | (with_reducible refine LeO.bind ?_ (fun _ => ?_))
   | exact cobwebref01_Add.mono _ _ _ _ _
   | exact cobwebref01_Mul.mono _ _ _ _ _
   | exact cobwebref01_Of.mono _ _
   | exact cobwebref01_Power.mono _ _
   | exact cobwebref01_Unsigned.mono _ _
   | exact LeO.none _
   | refine LeO.ite ?_ ?_
   | refine LeO.bind ?_ (fun _ => ?_)
set_option maxHeartbeats 8000000 in
set_option maxRecDepth 100000 in
theorem cobwebref01_Wide.calls (k : Nat) (a0 : Int) (a1 : Int) (r1 : Bool) (r2 : List Int) (w : World) (h : cobwebref01_Wide.f k a0 a1 = some (r1, r2)) :
  Calls Try.prog 58 #[.int .i64 a0, .int .u64 a1] w fun e w' => ∃ v1_ : Value, e = .returned (.agg #[.bool r1, v1_]) ∧ Kd.V (Kd.int .i64) 3 w' w.heap.size (fun k_ => (w.heap.size ≤ k_)) v1_ r2 ∧ Below w.heap.size w w' := by
 have hu32 := Try.underlying32; have HB := Aside0.mk (Below.refl w.heap.size w); have H : ((cobwebref01_Of.f k a0).bind fun bt391 => ((cobwebref01_Power.f k 64).bind fun bt395 => ((cobwebref01_Mul.f k bt391.1 bt391.2 bt395.1 bt395.2).bind fun bt399 => ((cobwebref01_Unsigned.f k a1).bind fun bt403 => ((cobwebref01_Add.f k bt399.1 bt399.2 bt403.1 bt403.2).bind fun bt407 => (some (bt407.1, bt407.2))))))) = some (r1, r2) := h; clear h; replace H := Option.bind_eq_some_iff.mp H; obtain ⟨⟨t391, t392⟩, A30, H⟩ := H; replace H : ((cobwebref01_Power.f k 64).bind fun bt395 => ((cobwebref01_Mul.f k t391 t392 bt395.1 bt395.2).bind fun bt399 => ((cobwebref01_Unsigned.f k a1).bind fun bt403 => ((cobwebref01_Add.f k bt399.1 bt399.2 bt403.1 bt403.2).bind fun bt407 => (some (bt407.1, bt407.2)))))) = some (r1, r2) := H; have A3 := Aside0.mk A30; clear A30; replace H := Option.bind_eq_some_iff.mp H; obtain ⟨⟨t395, t396⟩, A40, H⟩ := H; replace H : ((cobwebref01_Mul.f k t391 t392 t395 t396).bind fun bt399 => ((cobwebref01_Unsigned.f k a1).bind fun bt403 => ((cobwebref01_Add.f k bt399.1 bt399.2 bt403.1 bt403.2).bind fun bt407 => (some (bt407.1, bt407.2))))) = some (r1, r2) := H; have A4 := Aside0.mk A40; clear A40; replace H := Option.bind_eq_some_iff.mp H; obtain ⟨⟨t399, t400⟩, A50, H⟩ := H; replace H : ((cobwebref01_Unsigned.f k a1).bind fun bt403 => ((cobwebref01_Add.f k t399 t400 bt403.1 bt403.2).bind fun bt407 => (some (bt407.1, bt407.2)))) = some (r1, r2) := H; have A5 := Aside0.mk A50; clear A50; replace H := Option.bind_eq_some_iff.mp H; obtain ⟨⟨t403, t404⟩, A60, H⟩ := H; replace H : ((cobwebref01_Add.f k t399 t400 t403 t404).bind fun bt407 => (some (bt407.1, bt407.2))) = some (r1, r2) := H; have A6 := Aside0.mk A60; clear A60; replace H := Option.bind_eq_some_iff.mp H; obtain ⟨⟨t407, t408⟩, A70, H⟩ := H; replace H : (some (t407, t408)) = some (r1, r2) := H; have A7 := Aside0.mk A70; clear A70
 simp only [Option.some.injEq, Prod.mk.injEq] at H
 obtain ⟨rfl, rfl⟩ := H
 go_enter Try.func58, Try.ntmps58
 go_wp2_with (first | ((with_reducible refine gate_dst (N := 4) rfl ?_); refine box_event ?hg (N := 4) ?hd (cs := #[.bool false, .slice none 0 0]) (t := 32) ?hr ?_; (case hd => rfl); (case hg => rfl); (case hr => first | (go_simp; done) | (go_simp; rfl)); intro gb390 hg w8 hbox hb; have BK390 := Aside0.mk (hbox); have GW390 := kS HB hg; have GE390 := kS HB hg; replace HB := kB HB hb; clear hb hbox hg) | ((with_reducible refine gate_callee (f := 21) rfl ?_); refine goesL_ (some 6) rfl rfl Try.func21 (by kernel_rfl) rfl #[.int .i64 a0] rfl (by (try simp only [zm, zc, zn]); first | done | rfl | (simp only [zd, zt]; rfl)) ?_; (with_reducible refine (cobwebref01_Of.calls k a0 t391 t392 _ A3.out).mono ?_); rintro e w9 ⟨v393, rfl, ho0, hb⟩; refine ⟨_, rfl, ?_⟩; have HO394 := Aside0.mk (Kd.R_lower (Kd.R_newM (M := fun k_ => (w.heap.size ≤ k_)) ho0 (ko HB) (fun k_ h_ => h_)) (ko HB)); replace BK390 := kb BK390 hb; replace HB := kB HB hb; (try clear hb); (try clear hb2); (try clear hk); (try clear hi); (try clear ho0)) | ((with_reducible refine gate_callee (f := 23) rfl ?_); refine goesL_ (some 7) rfl rfl Try.func23 (by kernel_rfl) rfl #[.int .i64 64] rfl (by (try simp only [zm, zc, zn]); first | done | rfl | (simp only [zd, zt]; rfl)) ?_; (with_reducible refine (cobwebref01_Power.calls k 64 t395 t396 _ A4.out).mono ?_); rintro e w10 ⟨v397, rfl, ho0, hb⟩; refine ⟨_, rfl, ?_⟩; have HO398 := Aside0.mk (Kd.V_lower (Kd.V_mono (ok' := fun k_ => (w.heap.size ≤ k_) ∧ some k_ ≠ (v393 : Value).ownBlock ∧ k_ ≠ gb390) ho0 (fun k_ hk_ => ⟨(Nat.le_trans (ko HB) hk_), (Kd.fresh' (Kd.R_lt (kr HO394)) k_ hk_), (kF BK390 k_ hk_)⟩)) (ko HB)); replace HO394 := kR HO394 hb; replace BK390 := kb BK390 hb; replace HB := kB HB hb; (try clear hb); (try clear hb2); (try clear hk); (try clear hi); (try clear ho0); obtain ⟨Ao11, co11, eo11⟩ := Kd.R_slice HO394.out; subst eo11; obtain ⟨Ao12, co12, eo12⟩ := Kd.V_slice HO398.out; subst eo12) | ((with_reducible refine gate_callee (f := 18) rfl ?_); refine goesL_ (some 8) rfl rfl Try.func18 (by kernel_rfl) rfl #[.agg #[.bool t391, .slice Ao11 t392.length co11], .agg #[.bool t395, .slice Ao12 t396.length co12]] rfl (by (try simp only [zm, zc, zn]); first | done | rfl | (simp only [zd, zt]; rfl)) ?_; (with_reducible refine (cobwebref01_Mul.calls k t391 _ _ t392 t395 _ _ t396 t399 t400 _ ?side1 ?side2 ?side3 ?side4 A5.out).mono ?_); (case side1 => repeat (first | exact (Kd.R_reads' HO394.out).2.2 | (with_reducible refine Kd.C_alloc ?_ _) | (with_reducible refine Kd.C_drewN ?_ _) | (with_reducible refine Kd.C_drew ?_))); (case side2 => exact (Kd.R_reads' HO394.out).2.1); (case side3 => repeat (first | exact (Kd.V_reads' HO398.out).2.2 | (with_reducible refine Kd.C_alloc ?_ _) | (with_reducible refine Kd.C_drewN ?_ _) | (with_reducible refine Kd.C_drew ?_))); (case side4 => exact (Kd.V_reads' HO398.out).2.1); rintro e w13 ⟨v401, rfl, ho0, hb⟩; refine ⟨_, rfl, ?_⟩; have HO402 := Aside0.mk (Kd.V_lower (Kd.V_mono (ok' := fun k_ => (w.heap.size ≤ k_) ∧ some k_ ≠ (.slice Ao11 t392.length co11 : Value).ownBlock ∧ k_ ≠ gb390) ho0 (fun k_ hk_ => ⟨(Nat.le_trans (ko HB) hk_), (Kd.fresh' (Kd.R_lt (kr HO394)) k_ hk_), (kF BK390 k_ hk_)⟩)) (ko HB)); replace HO394 := kR HO394 hb; replace HO398 := kV HO398 hb; replace BK390 := kb BK390 hb; replace HB := kB HB hb; (try clear hb); (try clear hb2); (try clear hk); (try clear hi); (try clear ho0)) | ((with_reducible refine gate_callee (f := 79) rfl ?_); refine goesL_ (some 10) rfl rfl Try.func79 (by kernel_rfl) rfl #[.int .u64 a1] rfl (by (try simp only [zm, zc, zn]); first | done | rfl | (simp only [zd, zt]; rfl)) ?_; (with_reducible refine (cobwebref01_Unsigned.calls k a1 t403 t404 _ A6.out).mono ?_); rintro e w14 ⟨v405, rfl, ho0, hb⟩; refine ⟨_, rfl, ?_⟩; have n0_ := Aside0.mk (Kd.R_elder' (kr HO394) (Kd.R_base ho0) hb); have n1_ := Aside0.mk (Kd.V_elder' (kv HO398) (Kd.R_base ho0) hb); have n2_ := Aside0.mk (Kd.V_elder' (kv HO402) (Kd.R_base ho0) hb); have n3_ := Aside0.mk (Kd.R_lower (Kd.R_new' (Kd.R_newM (M := fun k_ => (w.heap.size ≤ k_)) ho0 (ko HB) (fun k_ h_ => h_)) (Kd.R_lt (kr HO394))) (ko HB)); have n4_ := kb BK390 hb; have n5_ := kB HB hb; clear HO394; clear HO398; clear HO402; clear BK390; clear HB; have HO394 := n0_; have HO398 := n1_; have HO402 := n2_; have HO406 := n3_; have BK390 := n4_; have HB := n5_; clear n0_ n1_ n2_ n3_ n4_ n5_; (try clear hb); (try clear hb2); (try clear hk); (try clear hi); (try clear ho0); obtain ⟨Ao15, co15, eo15⟩ := Kd.V_slice HO402.out; subst eo15; obtain ⟨Ao16, co16, eo16⟩ := Kd.R_slice HO406.out; subst eo16) | ((with_reducible refine gate_callee (f := 45) rfl ?_); refine goesL_ (some 11) rfl rfl Try.func45 (by kernel_rfl) rfl #[.agg #[.bool t399, .slice Ao15 t400.length co15], .agg #[.bool t403, .slice Ao16 t404.length co16]] rfl (by (try simp only [zm, zc, zn]); first | done | rfl | (simp only [zd, zt]; rfl)) ?_; (with_reducible refine (cobwebref01_Add.calls k t399 _ _ t400 t403 _ _ t404 t407 t408 _ ?side1 ?side2 ?side3 ?side4 A7.out).mono ?_); (case side1 => repeat (first | exact (Kd.V_reads' HO402.out).2.2 | (with_reducible refine Kd.C_alloc ?_ _) | (with_reducible refine Kd.C_drewN ?_ _) | (with_reducible refine Kd.C_drew ?_))); (case side2 => exact (Kd.V_reads' HO402.out).2.1); (case side3 => repeat (first | exact (Kd.R_reads' HO406.out).2.2 | (with_reducible refine Kd.C_alloc ?_ _) | (with_reducible refine Kd.C_drewN ?_ _) | (with_reducible refine Kd.C_drew ?_))); (case side4 => exact (Kd.R_reads' HO406.out).2.1); rintro e w17 ⟨v409, rfl, ho0, hb⟩; refine ⟨_, rfl, ?_⟩; have HO410 := Aside0.mk (Kd.V_lower (Kd.V_mono (ok' := fun k_ => (w.heap.size ≤ k_) ∧ some k_ ≠ (.slice Ao11 t392.length co11 : Value).ownBlock ∧ some k_ ≠ (.slice Ao16 t404.length co16 : Value).ownBlock ∧ k_ ≠ gb390) ho0 (fun k_ hk_ => ⟨(Nat.le_trans (ko HB) hk_), (Kd.fresh' (Kd.R_lt (kr HO394)) k_ hk_), (Kd.fresh' (Kd.R_lt (kr HO406)) k_ hk_), (kF BK390 k_ hk_)⟩)) (ko HB)); replace HO394 := kR HO394 hb; replace HO398 := kV HO398 hb; replace HO402 := kV HO402 hb; replace HO406 := kR HO406 hb; replace BK390 := kb BK390 hb; replace HB := kB HB hb; (try clear hb); (try clear hb2); (try clear hk); (try clear hi); (try clear ho0); have hcz18_0 : w17.cell? ⟨gb390, 0, none⟩ = some (.bool false) := kc BK390 0; have hcz18_1 : w17.cell? ⟨gb390, 1, none⟩ = some (.slice none 0 0) := kc BK390 1; have hfz18_0 := blk_frozen BK390.out 0; have hfz18_1 := blk_frozen BK390.out 1; obtain ⟨Ao19, co19, eo19⟩ := Kd.V_slice HO410.out; subst eo19))
 refine bodyPost_ret (results_cell_row rfl _ _ gb390 32 #[.bool t407, .slice Ao19 t408.length co19] (0, 0) _ rfl (by (with_reducible repeat (first | refine zr ?_ _ | refine zw ?_ | refine za ?_ _)); refine blk_put (cs := #[.bool t407, .slice none 0 0]) ?_ 1 _ rfl; (with_reducible repeat (first | refine zr ?_ _ | refine zw ?_ | refine za ?_ _)); refine blk_put (cs := #[.bool false, .slice none 0 0]) ?_ 0 _ rfl; (with_reducible repeat (first | refine zr ?_ _ | refine zw ?_ | refine za ?_ _)); exact BK390.out) Try.underlying32 rfl (by kernel_rfl)) rfl ?_; exact ⟨_, by first | rfl | (simp [errW_none, errW_some] <;> rfl) | (simp [*, errW_none, errW_some] <;> rfl), by (with_reducible repeat (first | apply Kd.V_alloc | apply Kd.V_drewN | apply Kd.V_drew)); exact Kd.V_mono (Kd.V_far (p := ⟨gb390, 1, none⟩) (Kd.V_far (p := ⟨gb390, 0, none⟩) (Kd.V_mono HO410.out (fun k_ hk => (⟨hk, hk.2.2.2⟩ : _ ∧ k_ ≠ gb390))) (fun _ hk => hk.2) (.bool t407)) (fun _ hk => hk.2) (.slice Ao19 t408.length co19)) (fun _ hk => hk.1.1), ky HB⟩

end Go.Proofs.Ytpjbniihdndlmaa.Q
