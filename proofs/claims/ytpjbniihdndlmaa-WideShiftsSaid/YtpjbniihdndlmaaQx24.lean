-- Printed by wip/pp.sh (a session's own turning of the kit's print) for this seat.
import Derived.Test.YtpjbniihdndlmaaQx0
import Derived.Test.YtpjbniihdndlmaaQx1
import Derived.Test.YtpjbniihdndlmaaQx8
import Derived.Test.YtpjbniihdndlmaaQx13
import Derived.Test.YtpjbniihdndlmaaQx15
import Derived.Test.YtpjbniihdndlmaaQx19
import Derived.Test.YtpjbniihdndlmaaQx22
namespace Go.Proofs.Ytpjbniihdndlmaa.Q
open Go.RowKit Go.Proofs.YtpjbniihdndlmaaW.PrintWords Go.Proofs.YtpjbniihdndlmaaW.PrintLast Go.Proofs.YtpjbniihdndlmaaW.PrintMore
open Go.Proofs.Ytpjbniihdndlmaa.H
attribute [local go_sem] hq_add64 hq_sub64 hq_not64 add64c_nn sub64c_nn sub64c_le
attribute [local go_sem] max2_int min2_int max_two min_two max_three min_three max_four min_four   -- for this text's walks alone
set_option linter.unusedVariables false
set_option linter.unusedSimpArgs false

attribute [local go_sem high] eqA24
/-! ### cobweblaw01_WideShifts: function 4 -/
def cobweblaw01_WideShifts.j0 : Nat → Int → Bool → Bool → Int → Int → Int → Int → Option (Bool)
  | 0, _, _, _, _, _, _, _ => none
  | k + 1, x1, x6, x18, x487000, x487001, x491000, x491001 => if x18 = true then ((cobweblaw01_alive.f k).bind fun t491 => (if t491 = true then (if x1 > 300 then (if (x6 == (x487000 == 0 && (x487001 == 0))) = true then (some (x491000 == 0 && (x491001 == 0))) else (some false)) else (if (x6 == false) = true then (some (x491000 == 0 && (x491001 == 0))) else (some false))) else (some false))) else ((cobweblaw01_alive.f k).bind fun t492 => (if t492 = true then ((cobweblaw01_num.f k x487000 x487001).bind fun bt493 => ((cobwebref01_Power.f k x1).bind fun bt497 => ((cobwebref01_Mul.f k bt493.1 bt493.2 bt497.1 bt497.2).bind fun bt501 => ((cobweblaw01_same.f k x491000 x491001 x6 bt501.1 bt501.2).bind fun t505 => (some t505))))) else (some false)))
def cobweblaw01_WideShifts.f (k : Nat) (a0_0 : Int) (a0_1 : Int) (a1 : Int) : Option (Bool) := (wide_Shl.f k a0_0 a0_1 a1).bind fun bt487 => (if a1 < 0 then (cobweblaw01_WideShifts.j0 k a1 bt487.2.2 true a0_0 a0_1 bt487.1 bt487.2.1) else (cobweblaw01_WideShifts.j0 k a1 bt487.2.2 (decide (a1 > 300)) a0_0 a0_1 bt487.1 bt487.2.1))
theorem cobweblaw01_WideShifts.mono_l : ∀ k, (∀ y0 y1 y2 y3 y4 y5 y6, LeO (cobweblaw01_WideShifts.j0 k y0 y1 y2 y3 y4 y5 y6) (cobweblaw01_WideShifts.j0 (k + 1) y0 y1 y2 y3 y4 y5 y6))
  | 0 => fun _ _ _ _ _ _ _ r h => by simp [cobweblaw01_WideShifts.j0] at h
  | k + 1 => by
    have ih0 := cobweblaw01_WideShifts.mono_l k
    · intro y0 y1 y2 y3 y4 y5 y6
      unfold cobweblaw01_WideShifts.j0
      repeat' first
      | (with_reducible exact ih0 _ _ _ _ _ _ _)
      | (with_reducible exact cobweblaw01_alive.mono _)
      | (with_reducible exact cobweblaw01_num.mono _ _ _)
      | (with_reducible exact cobweblaw01_same.mono _ _ _ _ _ _)
      | (with_reducible exact cobwebref01_Mul.mono _ _ _ _ _)
      | (with_reducible exact cobwebref01_Power.mono _ _)
      | (with_reducible exact wide_Shl.mono _ _ _ _)
      | (with_reducible exact LeO.refl _)
      | (with_reducible exact LeO.none _)
      | (with_reducible refine LeO.ite ?_ ?_)
      | (with_reducible refine LeO.bind ?_ (fun _ => ?_))
      | exact ih0 _ _ _ _ _ _ _
      | exact cobweblaw01_alive.mono _
      | exact cobweblaw01_num.mono _ _ _
      | exact cobweblaw01_same.mono _ _ _ _ _ _
      | exact cobwebref01_Mul.mono _ _ _ _ _
      | exact cobwebref01_Power.mono _ _
      | exact wide_Shl.mono _ _ _ _
      | exact LeO.none _
      | refine LeO.ite ?_ ?_
      | refine LeO.bind ?_ (fun _ => ?_)
theorem cobweblaw01_WideShifts.mono : ∀ a0 a1 a2 k, LeO (cobweblaw01_WideShifts.f k a0 a1 a2) (cobweblaw01_WideShifts.f (k + 1) a0 a1 a2) := by
  intro a0 a1 a2 k
  have ih0 := cobweblaw01_WideShifts.mono_l k
  unfold cobweblaw01_WideShifts.f
  repeat' first
      | (with_reducible exact ih0 _ _ _ _ _ _ _)
      | (with_reducible exact cobweblaw01_alive.mono _)
      | (with_reducible exact cobweblaw01_num.mono _ _ _)
      | (with_reducible exact cobweblaw01_same.mono _ _ _ _ _ _)
      | (with_reducible exact cobwebref01_Mul.mono _ _ _ _ _)
      | (with_reducible exact cobwebref01_Power.mono _ _)
      | (with_reducible exact wide_Shl.mono _ _ _ _)
      | (with_reducible exact LeO.refl _)
      | (with_reducible exact LeO.none _)
      | (with_reducible refine LeO.ite ?_ ?_)
      | (with_reducible refine LeO.bind ?_ (fun _ => ?_))
      | exact ih0 _ _ _ _ _ _ _
      | exact cobweblaw01_alive.mono _
      | exact cobweblaw01_num.mono _ _ _
      | exact cobweblaw01_same.mono _ _ _ _ _ _
      | exact cobwebref01_Mul.mono _ _ _ _ _
      | exact cobwebref01_Power.mono _ _
      | exact wide_Shl.mono _ _ _ _
      | exact LeO.none _
      | refine LeO.ite ?_ ?_
      | refine LeO.bind ?_ (fun _ => ?_)
def cobweblaw01_WideShifts.T4 : Bool × List (List Nat × List Nat) := (true, [([], []), ([0, 0], [0]), ([1], [1]), ([1], [1]), ([1], [1]), ([4, 1, 1], [1, 4]), ([1], [1]), ([6, 5, 1], [1, 6]), ([5, 7, 7, 1], [1, 5, 7]), ([2, 3, 8, 8, 1], [1, 2, 3, 8]), ([1, 9], [1, 9]), ([10, 9, 0, 1, 2, 3, 4, 5, 6, 7, 8, 9, 10], [10])])
def cobweblaw01_WideShifts.B4 : List Nat := [0, 1, 3, 3, 3, 19, 3, 115, 243, 511, 1023, 2047]
theorem cobweblaw01_WideShifts.tab4 : rtab .any (opsOf Try.f4 4) = cobweblaw01_WideShifts.T4 := by kernel_rfl
theorem cobweblaw01_WideShifts.bits4 : waitsOk cobweblaw01_WideShifts.T4.2 cobweblaw01_WideShifts.B4 = true := by kernel_rfl
set_option maxHeartbeats 8000000 in
set_option maxRecDepth 100000 in
theorem cobweblaw01_WideShifts.calls (k : Nat) (a0_0 : Int) (a0_1 : Int) (a1 : Int) (r : Bool) (w : World) (h : cobweblaw01_WideShifts.f k a0_0 a0_1 a1 = some r) :
    Calls Try.prog 4 #[.agg #[.int .i64 a0_0, .int .u64 a0_1], .int .i64 a1] w fun e w' => e = .returned (.bool r) ∧ Below w.heap.size w w' := by
  have hu24 := Try.underlying24
  have HB := Aside0.mk (Below.refl w.heap.size w)
  have H : ((wide_Shl.f k a0_0 a0_1 a1).bind fun bt487 => (if a1 < 0 then (cobweblaw01_WideShifts.j0 k a1 bt487.2.2 true a0_0 a0_1 bt487.1 bt487.2.1) else (cobweblaw01_WideShifts.j0 k a1 bt487.2.2 (decide (a1 > 300)) a0_0 a0_1 bt487.1 bt487.2.1))) = some r := h
  clear h
  replace H := Option.bind_eq_some_iff.mp H
  obtain ⟨⟨t487, t488, t489⟩, A30, H⟩ := H
  replace H : (if a1 < 0 then (cobweblaw01_WideShifts.j0 k a1 t489 true a0_0 a0_1 t487 t488) else (cobweblaw01_WideShifts.j0 k a1 t489 (decide (a1 > 300)) a0_0 a0_1 t487 t488)) = some r := H
  have A3 := Aside0.mk A30
  clear A30
  have HC4 := Aside0.mk H
  clear H
  go_enter Try.func4, Try.ntmps4
  go_upto_region 2 with (first | ((with_reducible refine gate_dst (N := 2) rfl ?_); refine box_event ?hg (N := 2) ?hd (cs := #[.int .i64 a0_0, .int .u64 a0_1]) (t := 24) ?hr ?_; (case hd => rfl); (case hg => rfl); (case hr => first | (go_simp; done) | (go_simp; rfl)); intro gb486 hg w5 hbox hb; have BK486 := Aside0.mk (hbox); have GW486 := kS HB hg; have GE486 := kS HB hg; replace HB := kB HB hb; clear hb hbox hg; have hcz6_0 : w5.cell? ⟨gb486, 0, none⟩ = some (.int .i64 a0_0) := kc BK486 0; have hcz6_1 : w5.cell? ⟨gb486, 1, none⟩ = some (.int .u64 a0_1) := kc BK486 1; have hfz6_0 := blk_frozen BK486.out 0; have hfz6_1 := blk_frozen BK486.out 1) | ((with_reducible refine gate_callee (f := 22) rfl ?_); refine goesL_ (some 10) rfl rfl Try.func22 (by kernel_rfl) rfl #[.agg #[.int .i64 a0_0, .int .u64 a0_1], .int .i64 a1] rfl (by (try simp only [List.map_toArray, List.map_cons, List.map_nil]); first | done | rfl | (simp only [List.length_drop, List.length_take]; rfl)) ?_; (with_reducible refine (wide_Shl.calls k a0_0 a0_1 a1 t487 t488 t489 _ A3.out).mono ?_); rintro e w7 ⟨rfl, hb⟩; refine ⟨_, rfl, ?_⟩; replace BK486 := kb BK486 hb; replace HB := kB HB hb; (try clear hb); (try clear hb2); (try clear hk); (try clear hi)) | ((with_reducible refine gate_dst (N := 5) rfl ?_); refine box_event ?hg (N := 5) ?hd (cs := #[.int .i64 0, .int .u64 0]) (t := 24) ?hr ?_; (case hd => rfl); (case hg => rfl); (case hr => first | (go_simp; done) | (go_simp; rfl)); intro gb490 hg w8 hbox hb; have BK490 := Aside0.mk (hbox); have GW490 := kS HB hg; have GE490 := kS HB hg; have NB486_490 := kN BK486 hg; have NB490_486 := kM BK486 hg; replace BK486 := kb BK486 hb; replace HB := kB HB hb; clear hb hbox hg; have hnb9 := NB490_486.out; have hnc9 := NB486_490.out; have hcz10_0 : w8.cell? ⟨gb490, 0, none⟩ = some (.int .i64 0) := kc BK490 0; have hcz10_1 : w8.cell? ⟨gb490, 1, none⟩ = some (.int .u64 0) := kc BK490 1; have hfz10_0 := blk_frozen BK490.out 0; have hfz10_1 := blk_frozen BK490.out 1))
  (try simp only [Act.put, List.setIfInBounds_toArray, List.set_cons_zero, List.set_cons_succ])
  go_cut [18] (fun v18 wc => ∃ (kq : Nat) (x18_3 : Bool), v18 = .bool x18_3 ∧ Aside0 (cobweblaw01_WideShifts.j0 kq a1 t489 x18_3 a0_0 a0_1 t487 t488 = some r) ∧ Aside0 (kq ≤ k) ∧ Aside0 (wc.heap[gb486]? = some (.cells #[.int .i64 a0_0, .int .u64 a0_1] 24 (0, 0))) ∧ Aside0 (wc.heap[gb490]? = some (.cells #[.int .i64 t487, .int .u64 t488] 24 (0, 0))) ∧ Aside0 (Below w.heap.size w wc))
  case first =>
    have H := HC4.out; clear HC4
    by_cases c11 : a1 < 0
    · rw [if_pos c11] at H
      have c11b0 : decide (a1 < 0) = true := decide_eq_true c11
      clear c11
      (first | rw [c11b0] | (simp only [i64_w, i32_w]; rw [c11b0]) | skip)
      have H' := Aside0.mk H
      clear H
      go_wp2
      go_meet
      case rel => exact ⟨_, (true), (by first | rfl | (simp; done) | (simp [*]; done)), H', ⟨by first | omega | exact Nat.le_refl _⟩, ⟨kx BK486⟩, ⟨by (with_reducible repeat (first | refine blk_drewN ?_ _ | refine blk_drew ?_ | refine blk_alloc ?_ _)); refine blk_put (cs := #[.int .i64 t487, .int .u64 0]) ?_ 1 _ rfl; (with_reducible repeat (first | refine blk_drewN ?_ _ | refine blk_drew ?_ | refine blk_alloc ?_ _)); refine blk_put (cs := #[.int .i64 0, .int .u64 0]) ?_ 0 _ rfl; (with_reducible repeat (first | refine blk_drewN ?_ _ | refine blk_drew ?_ | refine blk_alloc ?_ _)); exact BK490.out⟩, ⟨ky HB⟩⟩
    rw [if_neg c11] at H
    have c11b0 : decide (a1 < 0) = false := decide_eq_false c11
    clear c11
    (first | rw [c11b0] | (simp only [i64_w, i32_w]; rw [c11b0]) | skip)
    have H' := Aside0.mk H
    clear H
    go_wp2
    go_meet
    case rel => exact ⟨_, (decide (a1 > 300)), (by first | rfl | (simp; done) | (simp [*]; done)), H', ⟨by first | omega | exact Nat.le_refl _⟩, ⟨kx BK486⟩, ⟨by (with_reducible repeat (first | refine blk_drewN ?_ _ | refine blk_drew ?_ | refine blk_alloc ?_ _)); refine blk_put (cs := #[.int .i64 t487, .int .u64 0]) ?_ 1 _ rfl; (with_reducible repeat (first | refine blk_drewN ?_ _ | refine blk_drew ?_ | refine blk_alloc ?_ _)); refine blk_put (cs := #[.int .i64 0, .int .u64 0]) ?_ 0 _ rfl; (with_reducible repeat (first | refine blk_drewN ?_ _ | refine blk_drew ?_ | refine blk_alloc ?_ _)); exact BK490.out⟩, ⟨ky HB⟩⟩
  case rest =>
    clear HC4; try clear c1; try clear c2; try clear p2; try clear c4; try clear c9; try clear c11; try clear c11b0; try clear hcz10_0; try clear hcz10_1; try clear hcz6_0; try clear hcz6_1; try clear hfz10_0; try clear hfz10_1; try clear hfz6_0; try clear hfz6_1
    obtain ⟨kq, x18_3, rfl, HA, HJ3, BK486, BK490, HB⟩ := hcut
    cases kq with
    | zero => exact absurd HA.out (by simp [cobweblaw01_WideShifts.j0])
    | succ kj3 =>
      have H := HA.out; clear HA
      simp only [cobweblaw01_WideShifts.j0] at H
      by_cases c12 : x18_3 = true
      · subst c12
        have H1 : ((cobweblaw01_alive.f kj3).bind fun t491 => (if t491 = true then (if a1 > 300 then (if (t489 == (a0_0 == 0 && (a0_1 == 0))) = true then (some (t487 == 0 && (t488 == 0))) else (some false)) else (if (t489 == false) = true then (some (t487 == 0 && (t488 == 0))) else (some false))) else (some false))) = some r := by rw [if_pos rfl] at H; exact H
        clear H; have H := H1; clear H1
        replace H := Option.bind_eq_some_iff.mp H
        obtain ⟨t491, A130, H⟩ := H
        replace H : (if t491 = true then (if a1 > 300 then (if (t489 == (a0_0 == 0 && (a0_1 == 0))) = true then (some (t487 == 0 && (t488 == 0))) else (some false)) else (if (t489 == false) = true then (some (t487 == 0 && (t488 == 0))) else (some false))) else (some false)) = some r := H
        have A13 := Aside0.mk A130
        clear A130
        by_cases c14 : t491 = true
        rotate_left
        · replace c14 := Bool.eq_false_iff.mpr c14
          subst c14
          have H1 : (some false) = some r := by rw [if_neg (show ¬ (false = true) by decide)] at H; exact H
          clear H; have H := H1; clear H1
          obtain rfl := Option.some.inj H
          go_wp2_with (first | ((with_reducible refine gate_callee (f := 16) rfl ?_); refine goesL_ (some 19) rfl rfl Try.func16 (by kernel_rfl) rfl #[] rfl (by (try simp only [List.map_toArray, List.map_cons, List.map_nil]); first | done | rfl | (simp only [List.length_drop, List.length_take]; rfl)) ?_; (with_reducible refine (cobweblaw01_alive.calls kj3  false _ A13.out).mono ?_); rintro e w29 ⟨rfl, hb⟩; refine ⟨_, rfl, ?_⟩; replace BK486 := kb BK486 hb; replace BK490 := kb BK490 hb; replace HB := kB HB hb; (try clear hb); (try clear hb2); (try clear hk); (try clear hi)))
          go_ret
          exact ⟨by first | rfl | (simp [errW_none, errW_some] <;> rfl) | (simp [*, errW_none, errW_some] <;> rfl), ky HB⟩
        subst c14
        have H1 : (if a1 > 300 then (if (t489 == (a0_0 == 0 && (a0_1 == 0))) = true then (some (t487 == 0 && (t488 == 0))) else (some false)) else (if (t489 == false) = true then (some (t487 == 0 && (t488 == 0))) else (some false))) = some r := by rw [if_pos rfl] at H; exact H
        clear H; have H := H1; clear H1
        by_cases c15 : a1 > 300
        rotate_left
        · rw [if_neg c15] at H
          have c15b0 : decide (300 < a1) = false := decide_eq_false c15
          clear c15
          by_cases c24 : (t489 == false) = true
          rotate_left
          · rw [if_neg c24] at H
            have c24b0 : (t489 == false) = false := by simpa using c24
            (try (have c24b1 : decide (t489 = false) = false := by simpa using c24))
            (try (have c24b2 : (t489 == false) = false := by simpa using c24))
            (try (have c24b3 : ¬ (t489 = false) := by simpa using c24))
            clear c24
            obtain rfl := Option.some.inj H
            go_wp2_with (first | ((with_reducible refine gate_callee (f := 16) rfl ?_); refine goesL_ (some 19) rfl rfl Try.func16 (by kernel_rfl) rfl #[] rfl (by (try simp only [List.map_toArray, List.map_cons, List.map_nil]); first | done | rfl | (simp only [List.length_drop, List.length_take]; rfl)) ?_; (with_reducible refine (cobweblaw01_alive.calls kj3  true _ A13.out).mono ?_); rintro e w28 ⟨rfl, hb⟩; refine ⟨_, rfl, ?_⟩; replace BK486 := kb BK486 hb; replace BK490 := kb BK490 hb; replace HB := kB HB hb; (try clear hb); (try clear hb2); (try clear hk); (try clear hi)))
            go_ret
            exact ⟨by first | rfl | (simp [errW_none, errW_some] <;> rfl) | (simp [*, errW_none, errW_some] <;> rfl), ky HB⟩
          rw [if_pos c24] at H
          have c24b0 : (t489 == false) = true := c24
          (try (have c24b1 : decide (t489 = false) = true := by simpa using c24))
          (try (have c24b2 : (t489 == false) = true := by simpa using c24))
          clear c24
          obtain rfl := Option.some.inj H
          go_wp2_with (first | ((with_reducible refine gate_callee (f := 16) rfl ?_); refine goesL_ (some 19) rfl rfl Try.func16 (by kernel_rfl) rfl #[] rfl (by (try simp only [List.map_toArray, List.map_cons, List.map_nil]); first | done | rfl | (simp only [List.length_drop, List.length_take]; rfl)) ?_; (with_reducible refine (cobweblaw01_alive.calls kj3  true _ A13.out).mono ?_); rintro e w25 ⟨rfl, hb⟩; refine ⟨_, rfl, ?_⟩; replace BK486 := kb BK486 hb; replace BK490 := kb BK490 hb; replace HB := kB HB hb; (try clear hb); (try clear hb2); (try clear hk); (try clear hi); have hnb26 := NB490_486.out; have hnc26 := NB486_490.out; have hcz27_0 : w25.cell? ⟨gb490, 0, none⟩ = some (.int .i64 t487) := kc BK490 0; have hcz27_1 : w25.cell? ⟨gb490, 1, none⟩ = some (.int .u64 t488) := kc BK490 1; have hfz27_0 := blk_frozen BK490.out 0; have hfz27_1 := blk_frozen BK490.out 1))
          go_ret
          exact ⟨by first | rfl | (simp [errW_none, errW_some] <;> rfl) | (simp [*, errW_none, errW_some] <;> rfl), ky HB⟩
        rw [if_pos c15] at H
        have c15b0 : decide (300 < a1) = true := decide_eq_true c15
        clear c15
        by_cases c16 : (t489 == (a0_0 == 0 && (a0_1 == 0))) = true
        rotate_left
        · rw [if_neg c16] at H
          have c16b0 : (t489 == (a0_0 == 0 && (a0_1 == 0))) = false := by simpa using c16
          (try (have c16b1 : decide (t489 = (a0_0 == 0 && (a0_1 == 0))) = false := by simpa using c16))
          (try (have c16b2 : (t489 == (a0_0 == 0 && (a0_1 == 0))) = false := by simpa using c16))
          (try (have c16b3 : ¬ (t489 = (a0_0 == 0 && (a0_1 == 0))) := by simpa using c16))
          clear c16
          obtain rfl := Option.some.inj H
          go_wp2_with (first | ((with_reducible refine gate_callee (f := 16) rfl ?_); refine goesL_ (some 19) rfl rfl Try.func16 (by kernel_rfl) rfl #[] rfl (by (try simp only [List.map_toArray, List.map_cons, List.map_nil]); first | done | rfl | (simp only [List.length_drop, List.length_take]; rfl)) ?_; (with_reducible refine (cobweblaw01_alive.calls kj3  true _ A13.out).mono ?_); rintro e w21 ⟨rfl, hb⟩; refine ⟨_, rfl, ?_⟩; replace BK486 := kb BK486 hb; replace BK490 := kb BK490 hb; replace HB := kB HB hb; (try clear hb); (try clear hb2); (try clear hk); (try clear hi); have hnb22 := NB486_490.out; have hnc22 := NB490_486.out; have hcz23_0 : w21.cell? ⟨gb486, 0, none⟩ = some (.int .i64 a0_0) := kc BK486 0; have hcz23_1 : w21.cell? ⟨gb486, 1, none⟩ = some (.int .u64 a0_1) := kc BK486 1; have hfz23_0 := blk_frozen BK486.out 0; have hfz23_1 := blk_frozen BK486.out 1))
          go_ret
          exact ⟨by first | rfl | (simp [errW_none, errW_some] <;> rfl) | (simp [*, errW_none, errW_some] <;> rfl), ky HB⟩
        rw [if_pos c16] at H
        have c16b0 : (t489 == (a0_0 == 0 && (a0_1 == 0))) = true := c16
        (try (have c16b1 : decide (t489 = (a0_0 == 0 && (a0_1 == 0))) = true := by simpa using c16))
        (try (have c16b2 : (t489 == (a0_0 == 0 && (a0_1 == 0))) = true := by simpa using c16))
        clear c16
        obtain rfl := Option.some.inj H
        go_wp2_with (first | ((with_reducible refine gate_callee (f := 16) rfl ?_); refine goesL_ (some 19) rfl rfl Try.func16 (by kernel_rfl) rfl #[] rfl (by (try simp only [List.map_toArray, List.map_cons, List.map_nil]); first | done | rfl | (simp only [List.length_drop, List.length_take]; rfl)) ?_; (with_reducible refine (cobweblaw01_alive.calls kj3  true _ A13.out).mono ?_); rintro e w17 ⟨rfl, hb⟩; refine ⟨_, rfl, ?_⟩; replace BK486 := kb BK486 hb; replace BK490 := kb BK490 hb; replace HB := kB HB hb; (try clear hb); (try clear hb2); (try clear hk); (try clear hi); have hnb18 := NB486_490.out; have hnc18 := NB490_486.out; have hcz19_0 : w17.cell? ⟨gb486, 0, none⟩ = some (.int .i64 a0_0) := kc BK486 0; have hcz19_1 : w17.cell? ⟨gb486, 1, none⟩ = some (.int .u64 a0_1) := kc BK486 1; have hfz19_0 := blk_frozen BK486.out 0; have hfz19_1 := blk_frozen BK486.out 1; have hcz20_0 : w17.cell? ⟨gb490, 0, none⟩ = some (.int .i64 t487) := kc BK490 0; have hcz20_1 : w17.cell? ⟨gb490, 1, none⟩ = some (.int .u64 t488) := kc BK490 1; have hfz20_0 := blk_frozen BK490.out 0; have hfz20_1 := blk_frozen BK490.out 1))
        go_ret
        exact ⟨by first | rfl | (simp [errW_none, errW_some] <;> rfl) | (simp [*, errW_none, errW_some] <;> rfl), ky HB⟩
      replace c12 := Bool.eq_false_iff.mpr c12
      subst c12
      have H1 : ((cobweblaw01_alive.f kj3).bind fun t492 => (if t492 = true then ((cobweblaw01_num.f kj3 a0_0 a0_1).bind fun bt493 => ((cobwebref01_Power.f kj3 a1).bind fun bt497 => ((cobwebref01_Mul.f kj3 bt493.1 bt493.2 bt497.1 bt497.2).bind fun bt501 => ((cobweblaw01_same.f kj3 t487 t488 t489 bt501.1 bt501.2).bind fun t505 => (some t505))))) else (some false))) = some r := by rw [if_neg (show ¬ (false = true) by decide)] at H; exact H
      clear H; have H := H1; clear H1
      replace H := Option.bind_eq_some_iff.mp H
      obtain ⟨t492, A300, H⟩ := H
      replace H : (if t492 = true then ((cobweblaw01_num.f kj3 a0_0 a0_1).bind fun bt493 => ((cobwebref01_Power.f kj3 a1).bind fun bt497 => ((cobwebref01_Mul.f kj3 bt493.1 bt493.2 bt497.1 bt497.2).bind fun bt501 => ((cobweblaw01_same.f kj3 t487 t488 t489 bt501.1 bt501.2).bind fun t505 => (some t505))))) else (some false)) = some r := H
      have A30 := Aside0.mk A300
      clear A300
      by_cases c31 : t492 = true
      rotate_left
      · replace c31 := Bool.eq_false_iff.mpr c31
        subst c31
        have H1 : (some false) = some r := by rw [if_neg (show ¬ (false = true) by decide)] at H; exact H
        clear H; have H := H1; clear H1
        obtain rfl := Option.some.inj H
        try go_wp2
        replace BK486 := Aside0.mk (blk_drew BK486.out)
        replace BK490 := Aside0.mk (blk_drew BK490.out)
        replace HB := Aside0.mk (below_drew1 HB.out)
        refine start_ (n := 12) (S := fun w' => True) (ds := []) #[O, O, O, O, O, O, O, O, O, O, O, O] (by kernel_rfl) rfl rfl trivial (fun hHeld => ?_); refine with_tabW cobweblaw01_WideShifts.tab4 cobweblaw01_WideShifts.bits4 (fun HT_ HW_ => ?_)
        generalize wc.drew = w45 at BK486 BK490 HB hHeld ⊢
        refine one_ (i := 0) (N := some 36) #[T, O, O, O, O, O, O, O, O, O, O, O] rfl rfl (one_of HT_.out (by kernel_rfl)) (by decide) (fun K hK => ?_)
        refine goes_ Try.func16 (by kernel_rfl) rfl #[] (by rfl) rfl rfl (by (try simp only [List.map_toArray, List.map_cons, List.map_nil]); first | done | rfl | (simp only [List.length_drop, List.length_take]; rfl)) ?_
        with_reducible refine (cobweblaw01_alive.calls kj3  false _ A30.out).mono ?_
        rintro e w46 ⟨rfl, hb⟩
        refine ⟨_, rfl, ?_⟩
        replace BK486 := kb BK486 hb
        replace BK490 := kb BK490 hb
        replace HB := kB HB hb
        (try clear hb)
        (try clear hb2)
        (try clear hk)
        (try clear hi)
        refine hK.out _ _ trivial (fun hHeld => ?_)
        clear hK K
        refine norm_ (a' := ?_) ?_ ?_
        rotate_left
        · show Act.put _ (some 36) _ = _
          simp only [Act.put, List.setIfInBounds_toArray, List.set_cons_zero, List.set_cons_succ, i64_w, i32_w]
          rfl
        refine pure_ (i := 1) (N := some 37) (v := ?_) (a' := ?_) #[T, T, O, O, O, O, O, O, O, O, O, O] rfl rfl (any_of HT_.out (by kernel_rfl)) (fun _ _ _ h => h) (Or.inl ⟨by rfl, ?_⟩) ?_ ?_; rotate_left; focus (intro w'; go_simp; with_reducible rfl)
        rotate_left; focus (simp only [Act.put, List.setIfInBounds_toArray, List.set_cons_zero, List.set_cons_succ, i64_w, i32_w]; rfl)
        refine pure_ (i := 2) (N := some 38) (v := undef) (a' := ?_) #[T, T, T, O, O, O, O, O, O, O, O, O] rfl rfl (any_of HT_.out (by kernel_rfl)) (fun _ _ _ h => h) (Or.inr ⟨by rfl, rfl⟩) ?_ ?_
        rotate_left
        · simp only [Act.put, List.setIfInBounds_toArray, List.set_cons_zero, List.set_cons_succ, i64_w, i32_w]
          rfl
        refine pure_ (i := 3) (N := some 39) (v := undef) (a' := ?_) #[T, T, T, T, O, O, O, O, O, O, O, O] rfl rfl (any_of HT_.out (by kernel_rfl)) (fun _ _ _ h => h) (Or.inr ⟨by rfl, rfl⟩) ?_ ?_
        rotate_left
        · simp only [Act.put, List.setIfInBounds_toArray, List.set_cons_zero, List.set_cons_succ, i64_w, i32_w]
          rfl
        refine pure_ (i := 4) (N := some 40) (v := undef) (a' := ?_) #[T, T, T, T, T, O, O, O, O, O, O, O] rfl rfl (any_of HT_.out (by kernel_rfl)) (fun _ _ _ h => h) (Or.inr ⟨by rfl, rfl⟩) ?_ ?_
        rotate_left
        · simp only [Act.put, List.setIfInBounds_toArray, List.set_cons_zero, List.set_cons_succ, i64_w, i32_w]
          rfl
        refine pure_ (i := 5) (N := some 41) (v := undef) (a' := ?_) #[T, T, T, T, T, T, O, O, O, O, O, O] rfl rfl (any_of HT_.out (by kernel_rfl)) (fun _ _ _ h => h) (Or.inr ⟨by rfl, rfl⟩) ?_ ?_
        rotate_left
        · simp only [Act.put, List.setIfInBounds_toArray, List.set_cons_zero, List.set_cons_succ, i64_w, i32_w]
          rfl
        refine pure_ (i := 6) (N := some 42) (v := undef) (a' := ?_) #[T, T, T, T, T, T, T, O, O, O, O, O] rfl rfl (any_of HT_.out (by kernel_rfl)) (fun _ _ _ h => h) (Or.inr ⟨by rfl, rfl⟩) ?_ ?_
        rotate_left
        · simp only [Act.put, List.setIfInBounds_toArray, List.set_cons_zero, List.set_cons_succ, i64_w, i32_w]
          rfl
        refine pure_ (i := 7) (N := some 43) (v := undef) (a' := ?_) #[T, T, T, T, T, T, T, T, O, O, O, O] rfl rfl (any_of HT_.out (by kernel_rfl)) (fun _ _ _ h => h) (Or.inr ⟨by rfl, rfl⟩) ?_ ?_
        rotate_left
        · simp only [Act.put, List.setIfInBounds_toArray, List.set_cons_zero, List.set_cons_succ, i64_w, i32_w]
          rfl
        refine pure_ (i := 8) (N := some 44) (v := undef) (a' := ?_) #[T, T, T, T, T, T, T, T, T, O, O, O] rfl rfl (any_of HT_.out (by kernel_rfl)) (fun _ _ _ h => h) (Or.inr ⟨by rfl, rfl⟩) ?_ ?_
        rotate_left
        · simp only [Act.put, List.setIfInBounds_toArray, List.set_cons_zero, List.set_cons_succ, i64_w, i32_w]
          rfl
        refine pure_ (i := 9) (N := some 45) (v := undef) (a' := ?_) #[T, T, T, T, T, T, T, T, T, T, O, O] rfl rfl (any_of HT_.out (by kernel_rfl)) (fun _ _ _ h => h) (Or.inr ⟨by rfl, rfl⟩) ?_ ?_
        rotate_left
        · simp only [Act.put, List.setIfInBounds_toArray, List.set_cons_zero, List.set_cons_succ, i64_w, i32_w]
          rfl
        refine pure_ (i := 10) (N := some 46) (v := ?_) (a' := ?_) #[T, T, T, T, T, T, T, T, T, T, T, O] rfl rfl (any_of HT_.out (by kernel_rfl)) (fun _ _ _ h => h) (Or.inl ⟨by rfl, ?_⟩) ?_ ?_; rotate_left; focus (intro w'; go_simp; with_reducible rfl)
        rotate_left; focus (simp only [Act.put, List.setIfInBounds_toArray, List.set_cons_zero, List.set_cons_succ, i64_w, i32_w]; rfl)
        refine pure_ (i := 11) (N := some 4) (v := ?_) (a' := ?_) #[T, T, T, T, T, T, T, T, T, T, T, T] rfl rfl (any_of HT_.out (by kernel_rfl)) (fun _ _ _ h => h) (Or.inl ⟨by rfl, ?_⟩) ?_ ?_; rotate_left; focus (intro w'; go_simp; with_reducible rfl)
        rotate_left; focus (simp only [Act.put, List.setIfInBounds_toArray, List.set_cons_zero, List.set_cons_succ, i64_w, i32_w]; rfl)
        refine done_ (done_of HT_.out (by kernel_rfl)) ?_
        try go_wp2
        go_ret
        exact ⟨by first | rfl | (simp [errW_none, errW_some] <;> rfl) | (simp [*, errW_none, errW_some] <;> rfl), ky HB⟩

      subst c31
      have H1 : ((cobweblaw01_num.f kj3 a0_0 a0_1).bind fun bt493 => ((cobwebref01_Power.f kj3 a1).bind fun bt497 => ((cobwebref01_Mul.f kj3 bt493.1 bt493.2 bt497.1 bt497.2).bind fun bt501 => ((cobweblaw01_same.f kj3 t487 t488 t489 bt501.1 bt501.2).bind fun t505 => (some t505))))) = some r := by rw [if_pos rfl] at H; exact H
      clear H; have H := H1; clear H1
      replace H := Option.bind_eq_some_iff.mp H
      obtain ⟨⟨t493, t494⟩, A320, H⟩ := H
      replace H : ((cobwebref01_Power.f kj3 a1).bind fun bt497 => ((cobwebref01_Mul.f kj3 t493 t494 bt497.1 bt497.2).bind fun bt501 => ((cobweblaw01_same.f kj3 t487 t488 t489 bt501.1 bt501.2).bind fun t505 => (some t505)))) = some r := H
      have A32 := Aside0.mk A320
      clear A320
      replace H := Option.bind_eq_some_iff.mp H
      obtain ⟨⟨t497, t498⟩, A330, H⟩ := H
      replace H : ((cobwebref01_Mul.f kj3 t493 t494 t497 t498).bind fun bt501 => ((cobweblaw01_same.f kj3 t487 t488 t489 bt501.1 bt501.2).bind fun t505 => (some t505))) = some r := H
      have A33 := Aside0.mk A330
      clear A330
      replace H := Option.bind_eq_some_iff.mp H
      obtain ⟨⟨t501, t502⟩, A340, H⟩ := H
      replace H : ((cobweblaw01_same.f kj3 t487 t488 t489 t501 t502).bind fun t505 => (some t505)) = some r := H
      have A34 := Aside0.mk A340
      clear A340
      replace H := Option.bind_eq_some_iff.mp H
      obtain ⟨t505, A350, H⟩ := H
      replace H : (some t505) = some r := H
      have A35 := Aside0.mk A350
      clear A350
      obtain rfl := Option.some.inj H
      try go_wp2
      replace BK486 := Aside0.mk (blk_drew BK486.out)
      replace BK490 := Aside0.mk (blk_drew BK490.out)
      replace HB := Aside0.mk (below_drew1 HB.out)
      refine start_ (n := 12) (S := fun w' => w'.cell? ⟨gb490, 0, none⟩ = some (.int .i64 t487) ∧ w'.cell? ⟨gb490, 1, none⟩ = some (.int .u64 t488) ∧ w'.cell? ⟨gb486, 0, none⟩ = some (.int .i64 a0_0) ∧ w'.cell? ⟨gb486, 1, none⟩ = some (.int .u64 a0_1)) (ds := []) #[O, O, O, O, O, O, O, O, O, O, O, O] (by kernel_rfl) rfl rfl ⟨kc BK490 0, kc BK490 1, kc BK486 0, kc BK486 1⟩ (fun hHeld => ?_); refine with_tabW cobweblaw01_WideShifts.tab4 cobweblaw01_WideShifts.bits4 (fun HT_ HW_ => ?_)
      generalize wc.drew = w36 at BK486 BK490 HB hHeld ⊢
      refine one_ (i := 0) (N := some 36) #[T, O, O, O, O, O, O, O, O, O, O, O] rfl rfl (one_of HT_.out (by kernel_rfl)) (by decide) (fun K hK => ?_)
      refine goes_ Try.func16 (by kernel_rfl) rfl #[] (by rfl) rfl rfl (by (try simp only [List.map_toArray, List.map_cons, List.map_nil]); first | done | rfl | (simp only [List.length_drop, List.length_take]; rfl)) ?_
      with_reducible refine (cobweblaw01_alive.calls kj3  true _ A30.out).mono ?_
      rintro e w37 ⟨rfl, hb⟩
      refine ⟨_, rfl, ?_⟩
      replace BK486 := kb BK486 hb
      replace BK490 := kb BK490 hb
      replace HB := kB HB hb
      (try clear hb)
      (try clear hb2)
      (try clear hk)
      (try clear hi)
      refine hK.out _ _ ⟨kc BK490 0, kc BK490 1, kc BK486 0, kc BK486 1⟩ (fun hHeld => ?_)
      clear hK K
      refine norm_ (a' := ?_) ?_ ?_
      rotate_left
      · show Act.put _ (some 36) _ = _
        simp only [Act.put, List.setIfInBounds_toArray, List.set_cons_zero, List.set_cons_succ, i64_w, i32_w]
        rfl
      refine pure_ (i := 1) (N := some 37) (v := ?_) (a' := ?_) #[T, T, O, O, O, O, O, O, O, O, O, O] rfl rfl (any_of HT_.out (by kernel_rfl)) (fun _ _ _ h => h) (Or.inl ⟨by rfl, ?_⟩) ?_ ?_; rotate_left; focus (intro w'; go_simp; with_reducible rfl)
      rotate_left; focus (simp only [Act.put, List.setIfInBounds_toArray, List.set_cons_zero, List.set_cons_succ, i64_w, i32_w]; rfl)
      refine pure_ (i := 3) (N := some 39) (v := ?_) (a' := ?_) #[T, T, O, T, O, O, O, O, O, O, O, O] rfl rfl (any_of HT_.out (by kernel_rfl)) (fun _ _ _ h => h) (Or.inl ⟨by rfl, ?_⟩) ?_ ?_; rotate_left; focus (intro w'; go_simp; with_reducible rfl)
      rotate_left; focus (simp only [Act.put, List.setIfInBounds_toArray, List.set_cons_zero, List.set_cons_succ, i64_w, i32_w]; rfl)
      refine pure_ (i := 6) (N := some 42) (v := ?_) (a' := ?_) #[T, T, O, T, O, O, T, O, O, O, O, O] rfl rfl (any_of HT_.out (by kernel_rfl)) (fun _ _ _ h => h) (Or.inl ⟨by rfl, ?_⟩) ?_ ?_; rotate_left; focus (intro w'; go_simp; with_reducible rfl)
      rotate_left; focus (simp only [Act.put, List.setIfInBounds_toArray, List.set_cons_zero, List.set_cons_succ, i64_w, i32_w]; rfl)
      refine take_ (i := 2) (N := some 38) (v := ?_) (a' := ?_) #[T, T, T, T, O, O, T, O, O, O, O, O] rfl rfl (take_ofW HT_.out HW_.out (by kernel_rfl)) (fun _ _ _ h => h) (Or.inl ⟨by rfl, ?_⟩) hHeld ?_ ?_; rotate_left; focus (rintro w' ⟨s0, s1, s2, s3⟩; go_simp; with_reducible rfl)
      rotate_left; focus (simp only [Act.put, List.setIfInBounds_toArray, List.set_cons_zero, List.set_cons_succ, i64_w, i32_w]; rfl)
      refine take_ (i := 4) (N := some 40) (v := ?_) (a' := ?_) #[T, T, T, T, T, O, T, O, O, O, O, O] rfl rfl (take_ofW HT_.out HW_.out (by kernel_rfl)) (fun _ _ _ h => h) (Or.inl ⟨by rfl, ?_⟩) hHeld ?_ ?_; rotate_left; focus (rintro w' ⟨s0, s1, s2, s3⟩; go_simp; with_reducible rfl)
      rotate_left; focus (simp only [Act.put, List.setIfInBounds_toArray, List.set_cons_zero, List.set_cons_succ, i64_w, i32_w]; rfl)
      refine one_ (i := 5) (N := some 41) #[T, T, T, T, T, T, T, O, O, O, O, O] rfl rfl (one_of HT_.out (by kernel_rfl)) (by decide) (fun K hK => ?_)
      refine goes_ Try.func19 (by kernel_rfl) rfl #[.agg #[.int .i64 a0_0, .int .u64 a0_1]] (by rfl) rfl rfl (by (try simp only [List.map_toArray, List.map_cons, List.map_nil]); first | done | rfl | (simp only [List.length_drop, List.length_take]; rfl)) ?_
      with_reducible refine (cobweblaw01_num.calls kj3 a0_0 a0_1 t493 t494 _ A32.out).mono ?_
      rintro e w38 ⟨v495, rfl, ho0, hb⟩
      refine ⟨_, rfl, ?_⟩
      have HO496 := Aside0.mk (Kd.V_lower (Kd.V_mono (ok' := fun k_ => k_ ≠ gb486 ∧ k_ ≠ gb490) ho0 (fun k_ hk_ => ⟨(Kd.freshB (g := gb486) (o := .cells #[.int .i64 a0_0, .int .u64 a0_1] 24 (0, 0)) (kx BK486) k_ hk_), (Kd.freshB (g := gb490) (o := .cells #[.int .i64 t487, .int .u64 t488] 24 (0, 0)) (kx BK490) k_ hk_)⟩)) (below_size (ky HB)))
      replace BK486 := kb BK486 hb
      replace BK490 := kb BK490 hb
      replace HB := kB HB hb
      (try clear hb)
      (try clear hb2)
      (try clear hk)
      (try clear hi)
      (try clear ho0)
      refine hK.out _ _ ⟨kc BK490 0, kc BK490 1, kc BK486 0, kc BK486 1⟩ (fun hHeld => ?_)
      clear hK K
      refine norm_ (a' := ?_) ?_ ?_
      rotate_left
      · show Act.put _ (some 41) _ = _
        simp only [Act.put, List.setIfInBounds_toArray, List.set_cons_zero, List.set_cons_succ, i64_w, i32_w]
        rfl
      refine one_ (i := 7) (N := some 43) #[T, T, T, T, T, T, T, T, O, O, O, O] rfl rfl (one_of HT_.out (by kernel_rfl)) (by decide) (fun K hK => ?_)
      refine goes_ Try.func23 (by kernel_rfl) rfl #[.int .i64 a1] (by rfl) rfl rfl (by (try simp only [List.map_toArray, List.map_cons, List.map_nil]); first | done | rfl | (simp only [List.length_drop, List.length_take]; rfl)) ?_
      with_reducible refine (cobwebref01_Power.calls kj3 a1 t497 t498 _ A33.out).mono ?_
      rintro e w39 ⟨v499, rfl, ho0, hb⟩
      refine ⟨_, rfl, ?_⟩
      have HO500 := Aside0.mk (Kd.V_lower (Kd.V_mono (ok' := fun k_ => k_ ≠ gb486 ∧ k_ ≠ gb490) ho0 (fun k_ hk_ => ⟨(Kd.freshB (g := gb486) (o := .cells #[.int .i64 a0_0, .int .u64 a0_1] 24 (0, 0)) (kx BK486) k_ hk_), (Kd.freshB (g := gb490) (o := .cells #[.int .i64 t487, .int .u64 t488] 24 (0, 0)) (kx BK490) k_ hk_)⟩)) (below_size (ky HB)))
      replace HO496 := kV HO496 hb
      replace BK486 := kb BK486 hb
      replace BK490 := kb BK490 hb
      replace HB := kB HB hb
      (try clear hb)
      (try clear hb2)
      (try clear hk)
      (try clear hi)
      (try clear ho0)
      obtain ⟨Ao40, co40, eo40⟩ := Kd.V_slice HO496.out
      (first | subst eo40 | (injection eo40 with f1_ f2_ f3_; have f4_ := f1_.symm; have f5_ := f3_.symm; clear f1_ f2_ f3_; subst f4_; subst f5_))
      obtain ⟨Ao41, co41, eo41⟩ := Kd.V_slice HO500.out
      (first | subst eo41 | (injection eo41 with f1_ f2_ f3_; have f4_ := f1_.symm; have f5_ := f3_.symm; clear f1_ f2_ f3_; subst f4_; subst f5_))
      refine hK.out _ _ ⟨kc BK490 0, kc BK490 1, kc BK486 0, kc BK486 1⟩ (fun hHeld => ?_)
      clear hK K
      refine norm_ (a' := ?_) ?_ ?_
      rotate_left
      · show Act.put _ (some 43) _ = _
        simp only [Act.put, List.setIfInBounds_toArray, List.set_cons_zero, List.set_cons_succ, i64_w, i32_w]
        rfl
      refine one_ (i := 8) (N := some 44) #[T, T, T, T, T, T, T, T, T, O, O, O] rfl rfl (one_of HT_.out (by kernel_rfl)) (by decide) (fun K hK => ?_)
      refine goes_ Try.func18 (by kernel_rfl) rfl #[.agg #[.bool t493, .slice Ao40 t494.length co40], .agg #[.bool t497, .slice Ao41 t498.length co41]] (by rfl) rfl rfl (by (try simp only [List.map_toArray, List.map_cons, List.map_nil]); first | done | rfl | (simp only [List.length_drop, List.length_take]; rfl)) ?_
      with_reducible refine (cobwebref01_Mul.calls kj3 t493 _ _ t494 t497 _ _ t498 t501 t502 _ ?side1 ?side2 ?side3 ?side4 A34.out).mono ?_
      (case side1 => repeat (first | exact (Kd.V_reads' HO496.out).2.2 | (with_reducible refine Kd.C_alloc ?_ _) | (with_reducible refine Kd.C_drewN ?_ _) | (with_reducible refine Kd.C_drew ?_)))
      (case side2 => exact (Kd.V_reads' HO496.out).2.1)
      (case side3 => repeat (first | exact (Kd.V_reads' HO500.out).2.2 | (with_reducible refine Kd.C_alloc ?_ _) | (with_reducible refine Kd.C_drewN ?_ _) | (with_reducible refine Kd.C_drew ?_)))
      (case side4 => exact (Kd.V_reads' HO500.out).2.1)
      rintro e w42 ⟨v503, rfl, ho0, hb⟩
      refine ⟨_, rfl, ?_⟩
      have HO504 := Aside0.mk (Kd.V_lower (Kd.V_mono (ok' := fun k_ => k_ ≠ gb486 ∧ k_ ≠ gb490) ho0 (fun k_ hk_ => ⟨(Kd.freshB (g := gb486) (o := .cells #[.int .i64 a0_0, .int .u64 a0_1] 24 (0, 0)) (kx BK486) k_ hk_), (Kd.freshB (g := gb490) (o := .cells #[.int .i64 t487, .int .u64 t488] 24 (0, 0)) (kx BK490) k_ hk_)⟩)) (below_size (ky HB)))
      replace HO496 := kV HO496 hb
      replace HO500 := kV HO500 hb
      replace BK486 := kb BK486 hb
      replace BK490 := kb BK490 hb
      replace HB := kB HB hb
      (try clear hb)
      (try clear hb2)
      (try clear hk)
      (try clear hi)
      (try clear ho0)
      obtain ⟨Ao43, co43, eo43⟩ := Kd.V_slice HO504.out
      (first | subst eo43 | (injection eo43 with f1_ f2_ f3_; have f4_ := f1_.symm; have f5_ := f3_.symm; clear f1_ f2_ f3_; subst f4_; subst f5_))
      refine hK.out _ _ ⟨kc BK490 0, kc BK490 1, kc BK486 0, kc BK486 1⟩ (fun hHeld => ?_)
      clear hK K
      refine norm_ (a' := ?_) ?_ ?_
      rotate_left
      · show Act.put _ (some 44) _ = _
        simp only [Act.put, List.setIfInBounds_toArray, List.set_cons_zero, List.set_cons_succ, i64_w, i32_w]
        rfl
      refine one_ (i := 9) (N := some 45) #[T, T, T, T, T, T, T, T, T, T, O, O] rfl rfl (one_of HT_.out (by kernel_rfl)) (by decide) (fun K hK => ?_)
      refine goes_ Try.func17 (by kernel_rfl) rfl #[.agg #[.int .i64 t487, .int .u64 t488], .bool t489, .agg #[.bool t501, .slice Ao43 t502.length co43]] (by rfl) rfl rfl (by (try simp only [List.map_toArray, List.map_cons, List.map_nil]); first | done | rfl | (simp only [List.length_drop, List.length_take]; rfl)) ?_
      with_reducible refine (cobweblaw01_same.calls kj3 t487 t488 t489 t501 _ _ t502 t505 _ ?side1 ?side2 A35.out).mono ?_
      (case side1 => repeat (first | exact (Kd.V_reads' HO504.out).2.2 | (with_reducible refine Kd.C_alloc ?_ _) | (with_reducible refine Kd.C_drewN ?_ _) | (with_reducible refine Kd.C_drew ?_)))
      (case side2 => exact (Kd.V_reads' HO504.out).2.1)
      rintro e w44 ⟨rfl, hb⟩
      refine ⟨_, rfl, ?_⟩
      replace HO496 := kV HO496 hb
      replace HO500 := kV HO500 hb
      replace HO504 := kV HO504 hb
      replace BK486 := kb BK486 hb
      replace BK490 := kb BK490 hb
      replace HB := kB HB hb
      (try clear hb)
      (try clear hb2)
      (try clear hk)
      (try clear hi)
      refine hK.out _ _ ⟨kc BK490 0, kc BK490 1, kc BK486 0, kc BK486 1⟩ (fun hHeld => ?_)
      clear hK K
      refine norm_ (a' := ?_) ?_ ?_
      rotate_left
      · show Act.put _ (some 45) _ = _
        simp only [Act.put, List.setIfInBounds_toArray, List.set_cons_zero, List.set_cons_succ, i64_w, i32_w]
        rfl
      refine pure_ (i := 10) (N := some 46) (v := ?_) (a' := ?_) #[T, T, T, T, T, T, T, T, T, T, T, O] rfl rfl (any_of HT_.out (by kernel_rfl)) (fun _ _ _ h => h) (Or.inl ⟨by rfl, ?_⟩) ?_ ?_; rotate_left; focus (intro w'; go_simp; with_reducible rfl)
      rotate_left; focus (simp only [Act.put, List.setIfInBounds_toArray, List.set_cons_zero, List.set_cons_succ, i64_w, i32_w]; rfl)
      refine pure_ (i := 11) (N := some 4) (v := ?_) (a' := ?_) #[T, T, T, T, T, T, T, T, T, T, T, T] rfl rfl (any_of HT_.out (by kernel_rfl)) (fun _ _ _ h => h) (Or.inl ⟨by rfl, ?_⟩) ?_ ?_; rotate_left; focus (intro w'; go_simp; with_reducible rfl)
      rotate_left; focus (simp only [Act.put, List.setIfInBounds_toArray, List.set_cons_zero, List.set_cons_succ, i64_w, i32_w]; rfl)
      refine done_ (done_of HT_.out (by kernel_rfl)) ?_
      try go_wp2
      go_ret
      exact ⟨by first | rfl | (simp [errW_none, errW_some] <;> rfl) | (simp [*, errW_none, errW_some] <;> rfl), ky HB⟩
end Go.Proofs.Ytpjbniihdndlmaa.Q
