-- Printed by wip/pp.sh (a session's own turning of the kit's print) for this seat.
import Derived.Test.YtpjbniihdndlmaaQx0
import Derived.Test.YtpjbniihdndlmaaQx24
import Derived.Test.YtpjbniihdndlmaaQx25
namespace Go.Proofs.Ytpjbniihdndlmaa.Q
open Go.RowKit Go.Proofs.YtpjbniihdndlmaaW.PrintWords Go.Proofs.YtpjbniihdndlmaaW.PrintLast Go.Proofs.YtpjbniihdndlmaaW.PrintMore
open Go.Proofs.Ytpjbniihdndlmaa.H
attribute [local go_sem] hq_add64 hq_sub64 hq_not64 add64c_nn sub64c_nn sub64c_le
attribute [local go_sem] max2_int min2_int max_two min_two max_three min_three max_four min_four   -- for this text's walks alone
set_option linter.unusedVariables false
set_option linter.unusedSimpArgs false

/-! ### cobweblaw03_GridMoves: function 8 -/
def cobweblaw03_GridMoves.j0 : Nat → Int → Int → Int → Bool → Option (Bool)
  | 0, _, _, _, _ => none
  | k + 1, x0, x1, x2, x28 => if x28 = true then ((cobweblaw03_alive.f k).bind fun t844 => (some t844)) else ((grid_Snap.f x0 x2).bind fun t845 => ((cobwebref03_Size.f k x2).bind fun t846 => ((cobweblaw03_alive.f k).bind fun t847 => (if t847 = true then ((grid_Snap.f (wrap64 (x0 + (wrap64 (x1 * t846)))) x2).bind fun t848 => (if t848 = (wrap64 (t845 + x1)) then (if (wrap64 (2 * (wrap64 (x0 - (wrap64 (t845 * t846)))))) ≥ (wrap64 (-t846)) then (some (decide ((wrap64 (2 * (wrap64 (x0 - (wrap64 (t845 * t846)))))) < t846))) else (some false)) else (some false))) else (some false)))))
def cobweblaw03_GridMoves.f (k : Nat) (a0 : Int) (a1 : Int) (a2 : Int) : Option (Bool) := (cobwebref03_Rung.f a2).bind fun t843 => (if a2 = t843 then (if a0 > 1099511627776 then (cobweblaw03_GridMoves.j0 k a0 a1 a2 true) else (if a0 < (-1099511627776) then (cobweblaw03_GridMoves.j0 k a0 a1 a2 true) else (if a1 > 1048576 then (cobweblaw03_GridMoves.j0 k a0 a1 a2 true) else (cobweblaw03_GridMoves.j0 k a0 a1 a2 (decide (a1 < (-1048576))))))) else (cobweblaw03_GridMoves.j0 k a0 a1 a2 true))
theorem cobweblaw03_GridMoves.mono_l : ∀ k, (∀ y0 y1 y2 y3, LeO (cobweblaw03_GridMoves.j0 k y0 y1 y2 y3) (cobweblaw03_GridMoves.j0 (k + 1) y0 y1 y2 y3))
  | 0 => fun _ _ _ _ r h => by simp [cobweblaw03_GridMoves.j0] at h
  | k + 1 => by
    have ih0 := cobweblaw03_GridMoves.mono_l k
    · intro y0 y1 y2 y3
      unfold cobweblaw03_GridMoves.j0
      repeat' first
      | (with_reducible exact ih0 _ _ _ _)
      | (with_reducible exact cobweblaw03_alive.mono _)
      | (with_reducible exact cobwebref03_Size.mono _ _)
      | (with_reducible exact LeO.refl _)
      | (with_reducible exact LeO.none _)
      | (with_reducible refine LeO.ite ?_ ?_)
      | (with_reducible refine LeO.bind ?_ (fun _ => ?_))
      | exact ih0 _ _ _ _
      | exact cobweblaw03_alive.mono _
      | exact cobwebref03_Size.mono _ _
      | exact LeO.none _
      | refine LeO.ite ?_ ?_
      | refine LeO.bind ?_ (fun _ => ?_)
theorem cobweblaw03_GridMoves.mono : ∀ a0 a1 a2 k, LeO (cobweblaw03_GridMoves.f k a0 a1 a2) (cobweblaw03_GridMoves.f (k + 1) a0 a1 a2) := by
  intro a0 a1 a2 k
  have ih0 := cobweblaw03_GridMoves.mono_l k
  unfold cobweblaw03_GridMoves.f
  repeat' first
      | (with_reducible exact ih0 _ _ _ _)
      | (with_reducible exact cobweblaw03_alive.mono _)
      | (with_reducible exact cobwebref03_Size.mono _ _)
      | (with_reducible exact LeO.refl _)
      | (with_reducible exact LeO.none _)
      | (with_reducible refine LeO.ite ?_ ?_)
      | (with_reducible refine LeO.bind ?_ (fun _ => ?_))
      | exact ih0 _ _ _ _
      | exact cobweblaw03_alive.mono _
      | exact cobwebref03_Size.mono _ _
      | exact LeO.none _
      | refine LeO.ite ?_ ?_
      | refine LeO.bind ?_ (fun _ => ?_)
set_option maxHeartbeats 8000000 in
set_option maxRecDepth 100000 in
theorem cobweblaw03_GridMoves.calls (k : Nat) (a0 : Int) (a1 : Int) (a2 : Int) (r : Bool) (w : World) (h : cobweblaw03_GridMoves.f k a0 a1 a2 = some r) :
    Calls Try.prog 8 #[.int .i64 a0, .int .i64 a1, .int .i64 a2] w fun e w' => e = .returned (.bool r) ∧ Below w.heap.size w w' := by
  have HB := Aside0.mk (Below.refl w.heap.size w)
  have H : ((cobwebref03_Rung.f a2).bind fun t843 => (if a2 = t843 then (if a0 > 1099511627776 then (cobweblaw03_GridMoves.j0 k a0 a1 a2 true) else (if a0 < (-1099511627776) then (cobweblaw03_GridMoves.j0 k a0 a1 a2 true) else (if a1 > 1048576 then (cobweblaw03_GridMoves.j0 k a0 a1 a2 true) else (cobweblaw03_GridMoves.j0 k a0 a1 a2 (decide (a1 < (-1048576))))))) else (cobweblaw03_GridMoves.j0 k a0 a1 a2 true))) = some r := h
  clear h
  have HC4 := Aside0.mk H
  clear H
  go_enter Try.func8, Try.ntmps8
  go_upto_region 1 with (fail)
  go_cut [28] (fun v28 wc => ∃ (kq : Nat) (x28_3 : Bool), v28 = .bool x28_3 ∧ Aside0 (cobweblaw03_GridMoves.j0 kq a0 a1 a2 x28_3 = some r) ∧ Aside0 (kq ≤ k) ∧ Aside0 (Below w.heap.size w wc))
  case first =>
    have H := HC4.out; clear HC4
    replace H := Option.bind_eq_some_iff.mp H
    obtain ⟨t843, A50, H⟩ := H
    replace H : (if a2 = t843 then (if a0 > 1099511627776 then (cobweblaw03_GridMoves.j0 k a0 a1 a2 true) else (if a0 < (-1099511627776) then (cobweblaw03_GridMoves.j0 k a0 a1 a2 true) else (if a1 > 1048576 then (cobweblaw03_GridMoves.j0 k a0 a1 a2 true) else (cobweblaw03_GridMoves.j0 k a0 a1 a2 (decide (a1 < (-1048576))))))) else (cobweblaw03_GridMoves.j0 k a0 a1 a2 true)) = some r := H
    have A5 := Aside0.mk A50
    clear A50
    by_cases c6 : a2 = t843
    rotate_left
    · rw [if_neg c6] at H
      have c6b0 : (a2 == t843) = false := beq_eq_false_iff_ne.mpr c6
      have c6b1 : (a2 != t843) = true := bne_iff_ne.mpr c6
      (first | rw [c6b0] | (simp only [i64_w, i32_w]; rw [c6b0]) | skip)
      have H' := Aside0.mk H
      clear H
      go_wp2_with (first | ((with_reducible refine gate_callee (f := 33) rfl ?_); refine goesL_ (some 11) rfl rfl Try.func33 (by kernel_rfl) rfl #[.int .i64 a2] rfl (by (try simp only [List.map_toArray, List.map_cons, List.map_nil]); first | done | rfl | (simp only [List.length_drop, List.length_take]; rfl)) ?_; (with_reducible refine (cobwebref03_Rung.calls a2 t843 _ A5.out).mono ?_); rintro e w' ⟨rfl, ⟨nd, rfl⟩⟩; refine ⟨_, rfl, ?_⟩))
      go_meet
      case rel => exact ⟨_, (true), (by first | rfl | (simp; done) | (simp [*]; done)), H', ⟨by first | omega | exact Nat.le_refl _⟩, ⟨ky HB⟩⟩
    rw [if_pos c6] at H
    have c6b0 : (a2 == t843) = true := beq_iff_eq.mpr c6
    have c6b1 : (a2 != t843) = false := bne_eq_false_iff_eq.mpr c6
    clear c6
    (first | rw [c6b0] | (simp only [i64_w, i32_w]; rw [c6b0]) | skip)
    by_cases c7 : a0 > 1099511627776
    · rw [if_pos c7] at H
      have c7b0 : decide (1099511627776 < a0) = true := decide_eq_true c7
      clear c7
      have H' := Aside0.mk H
      clear H
      go_wp2_with (first | ((with_reducible refine gate_callee (f := 33) rfl ?_); refine goesL_ (some 11) rfl rfl Try.func33 (by kernel_rfl) rfl #[.int .i64 a2] rfl (by (try simp only [List.map_toArray, List.map_cons, List.map_nil]); first | done | rfl | (simp only [List.length_drop, List.length_take]; rfl)) ?_; (with_reducible refine (cobwebref03_Rung.calls a2 t843 _ A5.out).mono ?_); rintro e w' ⟨rfl, ⟨nd, rfl⟩⟩; refine ⟨_, rfl, ?_⟩))
      go_meet
      case rel => exact ⟨_, (true), (by first | rfl | (simp; done) | (simp [*]; done)), H', ⟨by first | omega | exact Nat.le_refl _⟩, ⟨ky HB⟩⟩
    rw [if_neg c7] at H
    have c7b0 : decide (1099511627776 < a0) = false := decide_eq_false c7
    clear c7
    by_cases c8 : a0 < (-1099511627776)
    · rw [if_pos c8] at H
      have c8b0 : decide (a0 < (-1099511627776)) = true := decide_eq_true c8
      clear c8
      have H' := Aside0.mk H
      clear H
      go_wp2_with (first | ((with_reducible refine gate_callee (f := 33) rfl ?_); refine goesL_ (some 11) rfl rfl Try.func33 (by kernel_rfl) rfl #[.int .i64 a2] rfl (by (try simp only [List.map_toArray, List.map_cons, List.map_nil]); first | done | rfl | (simp only [List.length_drop, List.length_take]; rfl)) ?_; (with_reducible refine (cobwebref03_Rung.calls a2 t843 _ A5.out).mono ?_); rintro e w' ⟨rfl, ⟨nd, rfl⟩⟩; refine ⟨_, rfl, ?_⟩))
      go_meet
      case rel => exact ⟨_, (true), (by first | rfl | (simp; done) | (simp [*]; done)), H', ⟨by first | omega | exact Nat.le_refl _⟩, ⟨ky HB⟩⟩
    rw [if_neg c8] at H
    have c8b0 : decide (a0 < (-1099511627776)) = false := decide_eq_false c8
    clear c8
    by_cases c9 : a1 > 1048576
    · rw [if_pos c9] at H
      have c9b0 : decide (1048576 < a1) = true := decide_eq_true c9
      clear c9
      have H' := Aside0.mk H
      clear H
      go_wp2_with (first | ((with_reducible refine gate_callee (f := 33) rfl ?_); refine goesL_ (some 11) rfl rfl Try.func33 (by kernel_rfl) rfl #[.int .i64 a2] rfl (by (try simp only [List.map_toArray, List.map_cons, List.map_nil]); first | done | rfl | (simp only [List.length_drop, List.length_take]; rfl)) ?_; (with_reducible refine (cobwebref03_Rung.calls a2 t843 _ A5.out).mono ?_); rintro e w' ⟨rfl, ⟨nd, rfl⟩⟩; refine ⟨_, rfl, ?_⟩))
      go_meet
      case rel => exact ⟨_, (true), (by first | rfl | (simp; done) | (simp [*]; done)), H', ⟨by first | omega | exact Nat.le_refl _⟩, ⟨ky HB⟩⟩
    rw [if_neg c9] at H
    have c9b0 : decide (1048576 < a1) = false := decide_eq_false c9
    clear c9
    have H' := Aside0.mk H
    clear H
    go_wp2_with (first | ((with_reducible refine gate_callee (f := 33) rfl ?_); refine goesL_ (some 11) rfl rfl Try.func33 (by kernel_rfl) rfl #[.int .i64 a2] rfl (by (try simp only [List.map_toArray, List.map_cons, List.map_nil]); first | done | rfl | (simp only [List.length_drop, List.length_take]; rfl)) ?_; (with_reducible refine (cobwebref03_Rung.calls a2 t843 _ A5.out).mono ?_); rintro e w' ⟨rfl, ⟨nd, rfl⟩⟩; refine ⟨_, rfl, ?_⟩))
    go_meet
    case rel => exact ⟨_, (decide (a1 < (-1048576))), (by first | rfl | (simp; done) | (simp [*]; done)), H', ⟨by first | omega | exact Nat.le_refl _⟩, ⟨ky HB⟩⟩
  case rest =>
    clear HC4; try clear p2; try clear c3; try clear c6; try clear c6b0; try clear c6b1; try clear c7; try clear c7b0; try clear c8; try clear c8b0; try clear c9; try clear c9b0
    obtain ⟨kq, x28_3, rfl, HA, HJ3, HB⟩ := hcut
    cases kq with
    | zero => exact absurd HA.out (by simp [cobweblaw03_GridMoves.j0])
    | succ kj3 =>
      have H := HA.out; clear HA
      simp only [cobweblaw03_GridMoves.j0] at H
      by_cases c10 : x28_3 = true
      · subst c10
        have H1 : ((cobweblaw03_alive.f kj3).bind fun t844 => (some t844)) = some r := by rw [if_pos rfl] at H; exact H
        clear H; have H := H1; clear H1
        replace H := Option.bind_eq_some_iff.mp H
        obtain ⟨t844, A110, H⟩ := H
        replace H : (some t844) = some r := H
        have A11 := Aside0.mk A110
        clear A110
        obtain rfl := Option.some.inj H
        go_wp2_with (first | ((with_reducible refine gate_callee (f := 34) rfl ?_); refine goesL_ (some 29) rfl rfl Try.func34 (by kernel_rfl) rfl #[] rfl (by (try simp only [List.map_toArray, List.map_cons, List.map_nil]); first | done | rfl | (simp only [List.length_drop, List.length_take]; rfl)) ?_; (with_reducible refine (cobweblaw03_alive.calls kj3  t844 _ A11.out).mono ?_); rintro e w12 ⟨rfl, hb⟩; refine ⟨_, rfl, ?_⟩; replace HB := kB HB hb; (try clear hb); (try clear hb2); (try clear hk); (try clear hi)))
        go_ret
        exact ⟨by first | rfl | (simp [errW_none, errW_some] <;> rfl) | (simp [*, errW_none, errW_some] <;> rfl), ky HB⟩
      replace c10 := Bool.eq_false_iff.mpr c10
      subst c10
      have H1 : ((grid_Snap.f a0 a2).bind fun t845 => ((cobwebref03_Size.f kj3 a2).bind fun t846 => ((cobweblaw03_alive.f kj3).bind fun t847 => (if t847 = true then ((grid_Snap.f (wrap64 (a0 + (wrap64 (a1 * t846)))) a2).bind fun t848 => (if t848 = (wrap64 (t845 + a1)) then (if (wrap64 (2 * (wrap64 (a0 - (wrap64 (t845 * t846)))))) ≥ (wrap64 (-t846)) then (some (decide ((wrap64 (2 * (wrap64 (a0 - (wrap64 (t845 * t846)))))) < t846))) else (some false)) else (some false))) else (some false))))) = some r := by rw [if_neg (show ¬ (false = true) by decide)] at H; exact H
      clear H; have H := H1; clear H1
      replace H := Option.bind_eq_some_iff.mp H
      obtain ⟨t845, A130, H⟩ := H
      replace H : ((cobwebref03_Size.f kj3 a2).bind fun t846 => ((cobweblaw03_alive.f kj3).bind fun t847 => (if t847 = true then ((grid_Snap.f (wrap64 (a0 + (wrap64 (a1 * t846)))) a2).bind fun t848 => (if t848 = (wrap64 (t845 + a1)) then (if (wrap64 (2 * (wrap64 (a0 - (wrap64 (t845 * t846)))))) ≥ (wrap64 (-t846)) then (some (decide ((wrap64 (2 * (wrap64 (a0 - (wrap64 (t845 * t846)))))) < t846))) else (some false)) else (some false))) else (some false)))) = some r := H
      have A13 := Aside0.mk A130
      clear A130
      replace H := Option.bind_eq_some_iff.mp H
      obtain ⟨t846, A140, H⟩ := H
      replace H : ((cobweblaw03_alive.f kj3).bind fun t847 => (if t847 = true then ((grid_Snap.f (wrap64 (a0 + (wrap64 (a1 * t846)))) a2).bind fun t848 => (if t848 = (wrap64 (t845 + a1)) then (if (wrap64 (2 * (wrap64 (a0 - (wrap64 (t845 * t846)))))) ≥ (wrap64 (-t846)) then (some (decide ((wrap64 (2 * (wrap64 (a0 - (wrap64 (t845 * t846)))))) < t846))) else (some false)) else (some false))) else (some false))) = some r := H
      have A14 := Aside0.mk A140
      clear A140
      replace H := Option.bind_eq_some_iff.mp H
      obtain ⟨t847, A150, H⟩ := H
      replace H : (if t847 = true then ((grid_Snap.f (wrap64 (a0 + (wrap64 (a1 * t846)))) a2).bind fun t848 => (if t848 = (wrap64 (t845 + a1)) then (if (wrap64 (2 * (wrap64 (a0 - (wrap64 (t845 * t846)))))) ≥ (wrap64 (-t846)) then (some (decide ((wrap64 (2 * (wrap64 (a0 - (wrap64 (t845 * t846)))))) < t846))) else (some false)) else (some false))) else (some false)) = some r := H
      have A15 := Aside0.mk A150
      clear A150
      by_cases c16 : t847 = true
      rotate_left
      · replace c16 := Bool.eq_false_iff.mpr c16
        subst c16
        have H1 : (some false) = some r := by rw [if_neg (show ¬ (false = true) by decide)] at H; exact H
        clear H; have H := H1; clear H1
        obtain rfl := Option.some.inj H
        go_wp2_with (first | ((with_reducible refine gate_callee (f := 35) rfl ?_); refine goesL_ (some 32) rfl rfl Try.func35 (by kernel_rfl) rfl #[.int .i64 a0, .int .i64 a2] rfl (by (try simp only [List.map_toArray, List.map_cons, List.map_nil]); first | done | rfl | (simp only [List.length_drop, List.length_take]; rfl)) ?_; (with_reducible refine (grid_Snap.calls a0 a2 t845 _ A13.out).mono ?_); rintro e w29 ⟨rfl, hb⟩; refine ⟨_, rfl, ?_⟩; replace HB := kB HB hb; (try clear hb); (try clear hb2); (try clear hk); (try clear hi)) | ((with_reducible refine gate_callee (f := 36) rfl ?_); refine goesL_ (some 34) rfl rfl Try.func36 (by kernel_rfl) rfl #[.int .i64 a2] rfl (by (try simp only [List.map_toArray, List.map_cons, List.map_nil]); first | done | rfl | (simp only [List.length_drop, List.length_take]; rfl)) ?_; (with_reducible refine (cobwebref03_Size.calls kj3 a2 t846 _ A14.out).mono ?_); rintro e w' ⟨rfl, ⟨nd, rfl⟩⟩; refine ⟨_, rfl, ?_⟩) | ((with_reducible refine gate_callee (f := 34) rfl ?_); refine goesL_ (some 35) rfl rfl Try.func34 (by kernel_rfl) rfl #[] rfl (by (try simp only [List.map_toArray, List.map_cons, List.map_nil]); first | done | rfl | (simp only [List.length_drop, List.length_take]; rfl)) ?_; (with_reducible refine (cobweblaw03_alive.calls kj3  false _ A15.out).mono ?_); rintro e w30 ⟨rfl, hb⟩; refine ⟨_, rfl, ?_⟩; replace HB := kB HB hb; (try clear hb); (try clear hb2); (try clear hk); (try clear hi)))
        go_ret
        exact ⟨by first | rfl | (simp [errW_none, errW_some] <;> rfl) | (simp [*, errW_none, errW_some] <;> rfl), ky HB⟩

      subst c16
      have H1 : ((grid_Snap.f (wrap64 (a0 + (wrap64 (a1 * t846)))) a2).bind fun t848 => (if t848 = (wrap64 (t845 + a1)) then (if (wrap64 (2 * (wrap64 (a0 - (wrap64 (t845 * t846)))))) ≥ (wrap64 (-t846)) then (some (decide ((wrap64 (2 * (wrap64 (a0 - (wrap64 (t845 * t846)))))) < t846))) else (some false)) else (some false))) = some r := by rw [if_pos rfl] at H; exact H
      clear H; have H := H1; clear H1
      replace H := Option.bind_eq_some_iff.mp H
      obtain ⟨t848, A170, H⟩ := H
      replace H : (if t848 = (wrap64 (t845 + a1)) then (if (wrap64 (2 * (wrap64 (a0 - (wrap64 (t845 * t846)))))) ≥ (wrap64 (-t846)) then (some (decide ((wrap64 (2 * (wrap64 (a0 - (wrap64 (t845 * t846)))))) < t846))) else (some false)) else (some false)) = some r := H
      have A17 := Aside0.mk A170
      clear A170
      by_cases c18 : t848 = (wrap64 (t845 + a1))
      rotate_left
      · rw [if_neg c18] at H
        have c18b0 : (t848 == (wrap64 (t845 + a1))) = false := beq_eq_false_iff_ne.mpr c18
        have c18b1 : (t848 != (wrap64 (t845 + a1))) = true := bne_iff_ne.mpr c18
        obtain rfl := Option.some.inj H
        go_wp2_with (first | ((with_reducible refine gate_callee (f := 35) rfl ?_); refine goesL_ (some 32) rfl rfl Try.func35 (by kernel_rfl) rfl #[.int .i64 a0, .int .i64 a2] rfl (by (try simp only [List.map_toArray, List.map_cons, List.map_nil]); first | done | rfl | (simp only [List.length_drop, List.length_take]; rfl)) ?_; (with_reducible refine (grid_Snap.calls a0 a2 t845 _ A13.out).mono ?_); rintro e w26 ⟨rfl, hb⟩; refine ⟨_, rfl, ?_⟩; replace HB := kB HB hb; (try clear hb); (try clear hb2); (try clear hk); (try clear hi)) | ((with_reducible refine gate_callee (f := 36) rfl ?_); refine goesL_ (some 34) rfl rfl Try.func36 (by kernel_rfl) rfl #[.int .i64 a2] rfl (by (try simp only [List.map_toArray, List.map_cons, List.map_nil]); first | done | rfl | (simp only [List.length_drop, List.length_take]; rfl)) ?_; (with_reducible refine (cobwebref03_Size.calls kj3 a2 t846 _ A14.out).mono ?_); rintro e w' ⟨rfl, ⟨nd, rfl⟩⟩; refine ⟨_, rfl, ?_⟩) | ((with_reducible refine gate_callee (f := 34) rfl ?_); refine goesL_ (some 35) rfl rfl Try.func34 (by kernel_rfl) rfl #[] rfl (by (try simp only [List.map_toArray, List.map_cons, List.map_nil]); first | done | rfl | (simp only [List.length_drop, List.length_take]; rfl)) ?_; (with_reducible refine (cobweblaw03_alive.calls kj3  true _ A15.out).mono ?_); rintro e w27 ⟨rfl, hb⟩; refine ⟨_, rfl, ?_⟩; replace HB := kB HB hb; (try clear hb); (try clear hb2); (try clear hk); (try clear hi)) | (go_at_call 35; (with_reducible refine (grid_Snap.calls (wrap64 (a0 + (wrap64 (a1 * t846)))) a2 t848 _ A17.out).mono ?_); rintro e w28 ⟨rfl, hb⟩; replace HB := kB HB hb; (try clear hb); (try clear hb2); (try clear hk); (try clear hi)))
        go_ret
        exact ⟨by first | rfl | (simp [errW_none, errW_some] <;> rfl) | (simp [*, errW_none, errW_some] <;> rfl), ky HB⟩
      rw [if_pos c18] at H
      have c18b0 : (t848 == (wrap64 (t845 + a1))) = true := beq_iff_eq.mpr c18
      have c18b1 : (t848 != (wrap64 (t845 + a1))) = false := bne_eq_false_iff_eq.mpr c18
      clear c18
      by_cases c19 : (wrap64 (2 * (wrap64 (a0 - (wrap64 (t845 * t846)))))) ≥ (wrap64 (-t846))
      · rw [if_pos c19] at H
        have c19b0 : decide ((wrap64 (-t846)) ≤ (wrap64 (2 * (wrap64 (a0 - (wrap64 (t845 * t846))))))) = true := decide_eq_true c19
        clear c19
        obtain rfl := Option.some.inj H
        go_wp2_with (first | ((with_reducible refine gate_callee (f := 35) rfl ?_); refine goesL_ (some 32) rfl rfl Try.func35 (by kernel_rfl) rfl #[.int .i64 a0, .int .i64 a2] rfl (by (try simp only [List.map_toArray, List.map_cons, List.map_nil]); first | done | rfl | (simp only [List.length_drop, List.length_take]; rfl)) ?_; (with_reducible refine (grid_Snap.calls a0 a2 t845 _ A13.out).mono ?_); rintro e w20 ⟨rfl, hb⟩; refine ⟨_, rfl, ?_⟩; replace HB := kB HB hb; (try clear hb); (try clear hb2); (try clear hk); (try clear hi)) | ((with_reducible refine gate_callee (f := 36) rfl ?_); refine goesL_ (some 34) rfl rfl Try.func36 (by kernel_rfl) rfl #[.int .i64 a2] rfl (by (try simp only [List.map_toArray, List.map_cons, List.map_nil]); first | done | rfl | (simp only [List.length_drop, List.length_take]; rfl)) ?_; (with_reducible refine (cobwebref03_Size.calls kj3 a2 t846 _ A14.out).mono ?_); rintro e w' ⟨rfl, ⟨nd, rfl⟩⟩; refine ⟨_, rfl, ?_⟩) | ((with_reducible refine gate_callee (f := 34) rfl ?_); refine goesL_ (some 35) rfl rfl Try.func34 (by kernel_rfl) rfl #[] rfl (by (try simp only [List.map_toArray, List.map_cons, List.map_nil]); first | done | rfl | (simp only [List.length_drop, List.length_take]; rfl)) ?_; (with_reducible refine (cobweblaw03_alive.calls kj3  true _ A15.out).mono ?_); rintro e w21 ⟨rfl, hb⟩; refine ⟨_, rfl, ?_⟩; replace HB := kB HB hb; (try clear hb); (try clear hb2); (try clear hk); (try clear hi)) | (go_at_call 35; (with_reducible refine (grid_Snap.calls (wrap64 (a0 + (wrap64 (a1 * t846)))) a2 t848 _ A17.out).mono ?_); rintro e w22 ⟨rfl, hb⟩; replace HB := kB HB hb; (try clear hb); (try clear hb2); (try clear hk); (try clear hi)))
        go_ret
        exact ⟨by first | rfl | (simp [errW_none, errW_some] <;> rfl) | (simp [*, errW_none, errW_some] <;> rfl), ky HB⟩
      rw [if_neg c19] at H
      have c19b0 : decide ((wrap64 (-t846)) ≤ (wrap64 (2 * (wrap64 (a0 - (wrap64 (t845 * t846))))))) = false := decide_eq_false c19
      clear c19
      obtain rfl := Option.some.inj H
      go_wp2_with (first | ((with_reducible refine gate_callee (f := 35) rfl ?_); refine goesL_ (some 32) rfl rfl Try.func35 (by kernel_rfl) rfl #[.int .i64 a0, .int .i64 a2] rfl (by (try simp only [List.map_toArray, List.map_cons, List.map_nil]); first | done | rfl | (simp only [List.length_drop, List.length_take]; rfl)) ?_; (with_reducible refine (grid_Snap.calls a0 a2 t845 _ A13.out).mono ?_); rintro e w23 ⟨rfl, hb⟩; refine ⟨_, rfl, ?_⟩; replace HB := kB HB hb; (try clear hb); (try clear hb2); (try clear hk); (try clear hi)) | ((with_reducible refine gate_callee (f := 36) rfl ?_); refine goesL_ (some 34) rfl rfl Try.func36 (by kernel_rfl) rfl #[.int .i64 a2] rfl (by (try simp only [List.map_toArray, List.map_cons, List.map_nil]); first | done | rfl | (simp only [List.length_drop, List.length_take]; rfl)) ?_; (with_reducible refine (cobwebref03_Size.calls kj3 a2 t846 _ A14.out).mono ?_); rintro e w' ⟨rfl, ⟨nd, rfl⟩⟩; refine ⟨_, rfl, ?_⟩) | ((with_reducible refine gate_callee (f := 34) rfl ?_); refine goesL_ (some 35) rfl rfl Try.func34 (by kernel_rfl) rfl #[] rfl (by (try simp only [List.map_toArray, List.map_cons, List.map_nil]); first | done | rfl | (simp only [List.length_drop, List.length_take]; rfl)) ?_; (with_reducible refine (cobweblaw03_alive.calls kj3  true _ A15.out).mono ?_); rintro e w24 ⟨rfl, hb⟩; refine ⟨_, rfl, ?_⟩; replace HB := kB HB hb; (try clear hb); (try clear hb2); (try clear hk); (try clear hi)) | (go_at_call 35; (with_reducible refine (grid_Snap.calls (wrap64 (a0 + (wrap64 (a1 * t846)))) a2 t848 _ A17.out).mono ?_); rintro e w25 ⟨rfl, hb⟩; replace HB := kB HB hb; (try clear hb); (try clear hb2); (try clear hk); (try clear hi)))
      go_ret
      exact ⟨by first | rfl | (simp [errW_none, errW_some] <;> rfl) | (simp [*, errW_none, errW_some] <;> rfl), ky HB⟩
/-- THE ONE PURE STATEMENT of cobweblaw03_GridMoves: yours. -/
def cobweblaw03_GridMoves.Pure : Prop := ∀ (a0 : Int) (a1 : Int) (a2 : Int), (Lit.int .i64 a0).wf = true → (Lit.int .i64 a1).wf = true → (Lit.int .i64 a2).wf = true → ∃ k, cobweblaw03_GridMoves.f k a0 a1 a2 = some true
theorem cobweblaw03_GridMoves.walk (P : cobweblaw03_GridMoves.Pure) (a0 : Int) (a1 : Int) (a2 : Int) (w : World) (w0 : (Lit.int .i64 a0).wf = true) (w1 : (Lit.int .i64 a1).wf = true) (w2 : (Lit.int .i64 a2).wf = true) :
    Calls Try.prog 8 #[.int .i64 a0, .int .i64 a1, .int .i64 a2] w fun e w' => e = .returned (.bool true) ∧ Below w.heap.size w w' := by
  obtain ⟨k, h⟩ := P a0 a1 a2 w0 w1 w2
  refine (cobweblaw03_GridMoves.calls k a0 a1 a2 true w h).mono ?_
  rintro e w' ⟨rfl, hd⟩
  exact ⟨rfl, hd⟩

end Go.Proofs.Ytpjbniihdndlmaa.Q
