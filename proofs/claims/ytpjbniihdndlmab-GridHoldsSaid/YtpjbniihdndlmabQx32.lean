-- Printed by wip/pp.sh (a session's own turning of the kit's print) for this seat.
import Derived.Test.YtpjbniihdndlmabQx0
import Derived.Test.YtpjbniihdndlmabQx3
import Derived.Test.YtpjbniihdndlmabQx4
import Derived.Test.YtpjbniihdndlmabQx8
import Derived.Test.YtpjbniihdndlmabQx25
import Derived.Test.YtpjbniihdndlmabQx26
namespace Go.Proofs.Ytpjbniihdndlmab.Q
open Go.RowKit Go.Proofs.YtpjbniihdndlmabW.PrintWords Go.Proofs.YtpjbniihdndlmabW.PrintLast Go.Proofs.YtpjbniihdndlmabW.PrintMore
open Go.Proofs.Ytpjbniihdndlmab.H
attribute [local go_sem] hq_add64 hq_sub64 hq_not64 add64c_nn sub64c_nn sub64c_le
attribute [local go_sem] max2_int min2_int max_two min_two max_three min_three max_four min_four   -- for this text's walks alone
set_option linter.unusedVariables false
set_option linter.unusedSimpArgs false

attribute [local go_sem high] eqA60 eqA62
/-! ### cobweblaw03_GridHolds: function 11 -/
mutual
def cobweblaw03_GridHolds.j0 : Nat → Int → Int → Int → Bool → Option (Bool)
  | 0, _, _, _, _ => none
  | k + 1, x0, x1, x2, x26 => if x26 = true then ((cobweblaw03_alive.f k).bind fun t994 => (some t994)) else ((grid_Of.f x0 x1 x2).bind fun bt996 => ((grid_Sides.f bt996.1 bt996.2 x2).bind fun bt999 => ((grid_In.f bt996.1 bt996.2 x2).bind fun t1005 => (if t1005 = true then (if (wrap64 (2 * x0)) < bt999.1 then (cobweblaw03_GridHolds.j1 k x0 x1 x2 true x0 x1 bt996.1 bt996.2) else (if (wrap64 (2 * x0)) ≥ bt999.2.2.1 then (cobweblaw03_GridHolds.j1 k x0 x1 x2 true x0 x1 bt996.1 bt996.2) else (if (wrap64 (2 * x1)) < bt999.2.1 then (cobweblaw03_GridHolds.j1 k x0 x1 x2 true x0 x1 bt996.1 bt996.2) else (cobweblaw03_GridHolds.j1 k x0 x1 x2 (decide ((wrap64 (2 * x1)) ≥ bt999.2.2.2)) x0 x1 bt996.1 bt996.2)))) else (cobweblaw03_GridHolds.j1 k x0 x1 x2 true x0 x1 bt996.1 bt996.2)))))
def cobweblaw03_GridHolds.j1 : Nat → Int → Int → Int → Bool → Int → Int → Int → Int → Option (Bool)
  | 0, _, _, _, _, _, _, _, _ => none
  | k + 1, x0, x1, x2, x71, x996000, x996001, x999000, x999001 => if x71 = true then (some false) else ((frac_Of.f x0).bind fun bt1006 => ((frac_Of.f x1).bind fun bt1010 => ((grid_At.f k bt1006.1 bt1006.2.1 bt1006.2.2.1 bt1006.2.2.2 bt1010.1 bt1010.2.1 bt1010.2.2.1 bt1010.2.2.2 x2).bind fun bt1014 => ((cobweblaw03_alive.f k).bind fun t1018 => (if t1018 = true then (if bt1014.2.2 = true then (if (bt1014.1 == x999000 && (bt1014.2.1 == x999001)) = true then (if x2 > 0 then (some true) else ((grid_Center.f x999000 x999001 x2).bind fun bt1019 => (some (bt1019.1 == x996000 && (bt1019.2 == x996001))))) else (none)) else (none)) else (none))))))
end
def cobweblaw03_GridHolds.f (k : Nat) (a0 : Int) (a1 : Int) (a2 : Int) : Option (Bool) := if a0 < (-67108864) then (cobweblaw03_GridHolds.j0 k a0 a1 a2 true) else (if a0 > 67108864 then (cobweblaw03_GridHolds.j0 k a0 a1 a2 true) else (if a1 < (-67108864) then (cobweblaw03_GridHolds.j0 k a0 a1 a2 true) else (cobweblaw03_GridHolds.j0 k a0 a1 a2 (decide (a1 > 67108864)))))
theorem cobweblaw03_GridHolds.mono_l : ∀ k, (∀ y0 y1 y2 y3, LeO (cobweblaw03_GridHolds.j0 k y0 y1 y2 y3) (cobweblaw03_GridHolds.j0 (k + 1) y0 y1 y2 y3)) ∧ (∀ y0 y1 y2 y3 y4 y5 y6 y7, LeO (cobweblaw03_GridHolds.j1 k y0 y1 y2 y3 y4 y5 y6 y7) (cobweblaw03_GridHolds.j1 (k + 1) y0 y1 y2 y3 y4 y5 y6 y7))
  | 0 => ⟨fun _ _ _ _ r h => by simp [cobweblaw03_GridHolds.j0] at h, fun _ _ _ _ _ _ _ _ r h => by simp [cobweblaw03_GridHolds.j1] at h⟩
  | k + 1 => by
    obtain ⟨ih0, ih1⟩ := cobweblaw03_GridHolds.mono_l k
    refine ⟨?_, ?_⟩
    · intro y0 y1 y2 y3
      unfold cobweblaw03_GridHolds.j0
      repeat' first
      | (with_reducible exact ih0 _ _ _ _)
      | (with_reducible exact ih1 _ _ _ _ _ _ _ _)
      | (with_reducible exact cobweblaw03_alive.mono _)
      | (with_reducible exact grid_At.mono _ _ _ _ _ _ _ _ _ _)
      | (with_reducible exact LeO.refl _)
      | (with_reducible exact LeO.none _)
      | (with_reducible refine LeO.ite ?_ ?_)
      | (with_reducible refine LeO.bind ?_ (fun _ => ?_))
      | exact ih0 _ _ _ _
      | exact ih1 _ _ _ _ _ _ _ _
      | exact cobweblaw03_alive.mono _
      | exact grid_At.mono _ _ _ _ _ _ _ _ _ _
      | exact LeO.none _
      | refine LeO.ite ?_ ?_
      | refine LeO.bind ?_ (fun _ => ?_)
    · intro y0 y1 y2 y3 y4 y5 y6 y7
      unfold cobweblaw03_GridHolds.j1
      repeat' first
      | (with_reducible exact ih0 _ _ _ _)
      | (with_reducible exact ih1 _ _ _ _ _ _ _ _)
      | (with_reducible exact cobweblaw03_alive.mono _)
      | (with_reducible exact grid_At.mono _ _ _ _ _ _ _ _ _ _)
      | (with_reducible exact LeO.refl _)
      | (with_reducible exact LeO.none _)
      | (with_reducible refine LeO.ite ?_ ?_)
      | (with_reducible refine LeO.bind ?_ (fun _ => ?_))
      | exact ih0 _ _ _ _
      | exact ih1 _ _ _ _ _ _ _ _
      | exact cobweblaw03_alive.mono _
      | exact grid_At.mono _ _ _ _ _ _ _ _ _ _
      | exact LeO.none _
      | refine LeO.ite ?_ ?_
      | refine LeO.bind ?_ (fun _ => ?_)
theorem cobweblaw03_GridHolds.mono : ∀ a0 a1 a2 k, LeO (cobweblaw03_GridHolds.f k a0 a1 a2) (cobweblaw03_GridHolds.f (k + 1) a0 a1 a2) := by
  intro a0 a1 a2 k
  obtain ⟨ih0, ih1⟩ := cobweblaw03_GridHolds.mono_l k
  unfold cobweblaw03_GridHolds.f
  repeat' first
      | (with_reducible exact ih0 _ _ _ _)
      | (with_reducible exact ih1 _ _ _ _ _ _ _ _)
      | (with_reducible exact cobweblaw03_alive.mono _)
      | (with_reducible exact grid_At.mono _ _ _ _ _ _ _ _ _ _)
      | (with_reducible exact LeO.refl _)
      | (with_reducible exact LeO.none _)
      | (with_reducible refine LeO.ite ?_ ?_)
      | (with_reducible refine LeO.bind ?_ (fun _ => ?_))
      | exact ih0 _ _ _ _
      | exact ih1 _ _ _ _ _ _ _ _
      | exact cobweblaw03_alive.mono _
      | exact grid_At.mono _ _ _ _ _ _ _ _ _ _
      | exact LeO.none _
      | refine LeO.ite ?_ ?_
      | refine LeO.bind ?_ (fun _ => ?_)
def cobweblaw03_GridHolds.T9 : Bool × List (List Nat × List Nat) := (true, [([], []), ([0, 0], [0]), ([1], [1]), ([1, 2], [1, 2]), ([3, 1], [3]), ([4], [4]), ([4], [4]), ([5, 6, 4], [4, 5, 6]), ([4, 7], [4, 7]), ([8, 4], [8]), ([9], [9]), ([10, 9], [9, 10]), ([11, 9, 9], [9, 11]), ([12], [12]), ([12], [12]), ([13, 14, 12, 12], [12, 13, 14]), ([12], [12]), ([15, 16, 12], [12, 15, 16]), ([12, 17, 9], [9, 12, 17]), ([9, 18], [9, 18]), ([19, 15, 0, 1, 2, 3, 4, 5, 6, 7, 8, 9, 10, 11, 12, 13, 14, 15, 16, 17, 18, 19], [19])])
def cobweblaw03_GridHolds.B9 : List Nat := [0, 1, 3, 7, 15, 31, 31, 127, 255, 511, 1023, 2047, 4095, 8191, 8191, 32767, 8191, 131071, 262143, 524287, 1048575]
theorem cobweblaw03_GridHolds.tab9 : rtab .any (opsOf Try.f11 9) = cobweblaw03_GridHolds.T9 := by kernel_rfl
theorem cobweblaw03_GridHolds.bits9 : waitsOk cobweblaw03_GridHolds.T9.2 cobweblaw03_GridHolds.B9 = true := by kernel_rfl
set_option maxHeartbeats 8000000 in
set_option maxRecDepth 100000 in
theorem cobweblaw03_GridHolds.calls (k : Nat) (a0 : Int) (a1 : Int) (a2 : Int) (r : Bool) (w : World) (h : cobweblaw03_GridHolds.f k a0 a1 a2 = some r) :
    Calls Try.prog 11 #[.int .i64 a0, .int .i64 a1, .int .i64 a2] w fun e w' => e = .returned (.bool r) ∧ Below w.heap.size w w' := by
  have hu62 := Try.underlying62
  have hu60 := Try.underlying60
  have HB := Aside0.mk (Below.refl w.heap.size w)
  have H : (if a0 < (-67108864) then (cobweblaw03_GridHolds.j0 k a0 a1 a2 true) else (if a0 > 67108864 then (cobweblaw03_GridHolds.j0 k a0 a1 a2 true) else (if a1 < (-67108864) then (cobweblaw03_GridHolds.j0 k a0 a1 a2 true) else (cobweblaw03_GridHolds.j0 k a0 a1 a2 (decide (a1 > 67108864)))))) = some r := h
  clear h
  have HC4 := Aside0.mk H
  clear H
  go_enter Try.func11, Try.ntmps11
  go_upto_region 1 with (fail)
  go_cut [26] (fun v26 wc => ∃ (kq : Nat) (x26_3 : Bool), v26 = .bool x26_3 ∧ Aside0 (cobweblaw03_GridHolds.j0 kq a0 a1 a2 x26_3 = some r) ∧ Aside0 (kq ≤ k) ∧ Aside0 (Below w.heap.size w wc))
  case first =>
    have H := HC4.out; clear HC4
    by_cases c5 : a0 < (-67108864)
    · rw [if_pos c5] at H
      have c5b0 : decide (a0 < (-67108864)) = true := decide_eq_true c5
      clear c5
      (first | rw [c5b0] | (simp only [i64_w, i32_w]; rw [c5b0]) | skip)
      have H' := Aside0.mk H
      clear H
      go_wp2
      go_meet
      case rel => exact ⟨_, (true), (by first | rfl | (simp; done) | (simp [*]; done)), H', ⟨by first | omega | exact Nat.le_refl _⟩, ⟨ky HB⟩⟩
    rw [if_neg c5] at H
    have c5b0 : decide (a0 < (-67108864)) = false := decide_eq_false c5
    clear c5
    (first | rw [c5b0] | (simp only [i64_w, i32_w]; rw [c5b0]) | skip)
    by_cases c6 : a0 > 67108864
    · rw [if_pos c6] at H
      have c6b0 : decide (67108864 < a0) = true := decide_eq_true c6
      clear c6
      have H' := Aside0.mk H
      clear H
      go_wp2
      go_meet
      case rel => exact ⟨_, (true), (by first | rfl | (simp; done) | (simp [*]; done)), H', ⟨by first | omega | exact Nat.le_refl _⟩, ⟨ky HB⟩⟩
    rw [if_neg c6] at H
    have c6b0 : decide (67108864 < a0) = false := decide_eq_false c6
    clear c6
    by_cases c7 : a1 < (-67108864)
    · rw [if_pos c7] at H
      have c7b0 : decide (a1 < (-67108864)) = true := decide_eq_true c7
      clear c7
      have H' := Aside0.mk H
      clear H
      go_wp2
      go_meet
      case rel => exact ⟨_, (true), (by first | rfl | (simp; done) | (simp [*]; done)), H', ⟨by first | omega | exact Nat.le_refl _⟩, ⟨ky HB⟩⟩
    rw [if_neg c7] at H
    have c7b0 : decide (a1 < (-67108864)) = false := decide_eq_false c7
    clear c7
    have H' := Aside0.mk H
    clear H
    go_wp2
    go_meet
    case rel => exact ⟨_, (decide (a1 > 67108864)), (by first | rfl | (simp; done) | (simp [*]; done)), H', ⟨by first | omega | exact Nat.le_refl _⟩, ⟨ky HB⟩⟩
  case rest =>
    clear HC4; try clear c1; try clear p2; try clear c5; try clear c5b0; try clear c6; try clear c6b0; try clear c7; try clear c7b0
    obtain ⟨kq, x26_3, rfl, HA, HJ3, HB⟩ := hcut
    cases kq with
    | zero => exact absurd HA.out (by simp [cobweblaw03_GridHolds.j0])
    | succ kj3 =>
      have H := HA.out; clear HA
      simp only [cobweblaw03_GridHolds.j0] at H
      by_cases c8 : x26_3 = true
      · subst c8
        have H1 : ((cobweblaw03_alive.f kj3).bind fun t994 => (some t994)) = some r := by rw [if_pos rfl] at H; exact H
        clear H; have H := H1; clear H1
        replace H := Option.bind_eq_some_iff.mp H
        obtain ⟨t994, A90, H⟩ := H
        replace H : (some t994) = some r := H
        have A9 := Aside0.mk A90
        clear A90
        obtain rfl := Option.some.inj H
        go_wp2_with (first | ((with_reducible refine gate_callee (f := 38) rfl ?_); refine goesL_ (some 27) rfl rfl Try.func38 (by kernel_rfl) rfl #[] rfl (by (try simp only [List.map_toArray, List.map_cons, List.map_nil]); first | done | rfl | (simp only [List.length_drop, List.length_take]; rfl)) ?_; (with_reducible refine (cobweblaw03_alive.calls kj3  t994 _ A9.out).mono ?_); rintro e w10 ⟨rfl, hb⟩; refine ⟨_, rfl, ?_⟩; replace HB := kB HB hb; (try clear hb); (try clear hb2); (try clear hk); (try clear hi)))
        go_ret
        exact ⟨by first | rfl | (simp [errW_none, errW_some] <;> rfl) | (simp [*, errW_none, errW_some] <;> rfl), ky HB⟩
      replace c8 := Bool.eq_false_iff.mpr c8
      subst c8
      have H1 : ((grid_Of.f a0 a1 a2).bind fun bt996 => ((grid_Sides.f bt996.1 bt996.2 a2).bind fun bt999 => ((grid_In.f bt996.1 bt996.2 a2).bind fun t1005 => (if t1005 = true then (if (wrap64 (2 * a0)) < bt999.1 then (cobweblaw03_GridHolds.j1 kj3 a0 a1 a2 true a0 a1 bt996.1 bt996.2) else (if (wrap64 (2 * a0)) ≥ bt999.2.2.1 then (cobweblaw03_GridHolds.j1 kj3 a0 a1 a2 true a0 a1 bt996.1 bt996.2) else (if (wrap64 (2 * a1)) < bt999.2.1 then (cobweblaw03_GridHolds.j1 kj3 a0 a1 a2 true a0 a1 bt996.1 bt996.2) else (cobweblaw03_GridHolds.j1 kj3 a0 a1 a2 (decide ((wrap64 (2 * a1)) ≥ bt999.2.2.2)) a0 a1 bt996.1 bt996.2)))) else (cobweblaw03_GridHolds.j1 kj3 a0 a1 a2 true a0 a1 bt996.1 bt996.2))))) = some r := by rw [if_neg (show ¬ (false = true) by decide)] at H; exact H
      clear H; have H := H1; clear H1
      replace H := Option.bind_eq_some_iff.mp H
      obtain ⟨⟨t996, t997⟩, A110, H⟩ := H
      replace H : ((grid_Sides.f t996 t997 a2).bind fun bt999 => ((grid_In.f t996 t997 a2).bind fun t1005 => (if t1005 = true then (if (wrap64 (2 * a0)) < bt999.1 then (cobweblaw03_GridHolds.j1 kj3 a0 a1 a2 true a0 a1 t996 t997) else (if (wrap64 (2 * a0)) ≥ bt999.2.2.1 then (cobweblaw03_GridHolds.j1 kj3 a0 a1 a2 true a0 a1 t996 t997) else (if (wrap64 (2 * a1)) < bt999.2.1 then (cobweblaw03_GridHolds.j1 kj3 a0 a1 a2 true a0 a1 t996 t997) else (cobweblaw03_GridHolds.j1 kj3 a0 a1 a2 (decide ((wrap64 (2 * a1)) ≥ bt999.2.2.2)) a0 a1 t996 t997)))) else (cobweblaw03_GridHolds.j1 kj3 a0 a1 a2 true a0 a1 t996 t997)))) = some r := H
      have A11 := Aside0.mk A110
      clear A110
      replace H := Option.bind_eq_some_iff.mp H
      obtain ⟨⟨t999, t1000, t1001, t1002⟩, A120, H⟩ := H
      replace H : ((grid_In.f t996 t997 a2).bind fun t1005 => (if t1005 = true then (if (wrap64 (2 * a0)) < t999 then (cobweblaw03_GridHolds.j1 kj3 a0 a1 a2 true a0 a1 t996 t997) else (if (wrap64 (2 * a0)) ≥ t1001 then (cobweblaw03_GridHolds.j1 kj3 a0 a1 a2 true a0 a1 t996 t997) else (if (wrap64 (2 * a1)) < t1000 then (cobweblaw03_GridHolds.j1 kj3 a0 a1 a2 true a0 a1 t996 t997) else (cobweblaw03_GridHolds.j1 kj3 a0 a1 a2 (decide ((wrap64 (2 * a1)) ≥ t1002)) a0 a1 t996 t997)))) else (cobweblaw03_GridHolds.j1 kj3 a0 a1 a2 true a0 a1 t996 t997))) = some r := H
      have A12 := Aside0.mk A120
      clear A120
      have HC13 := Aside0.mk H
      clear H
      go_upto_region 6 with (first | ((with_reducible refine gate_dst (N := 7) rfl ?_); refine box_event ?hg (N := 7) ?hd (cs := #[.int .i64 0, .int .i64 0]) (t := 62) ?hr ?_; (case hd => rfl); (case hg => rfl); (case hr => first | (go_simp; done) | (go_simp; rfl)); intro gb995 hg w14 hbox hb; have BK995 := Aside0.mk (hbox); have GW995 := kS HB hg; have GE995 := kS HB hg; replace HB := kB HB hb; clear hb hbox hg; have hcz15_0 : w14.cell? ⟨gb995, 0, none⟩ = some (.int .i64 0) := kc BK995 0; have hcz15_1 : w14.cell? ⟨gb995, 1, none⟩ = some (.int .i64 0) := kc BK995 1; have hfz15_0 := blk_frozen BK995.out 0; have hfz15_1 := blk_frozen BK995.out 1) | ((with_reducible refine gate_callee (f := 37) rfl ?_); refine goesL_ (some 33) rfl rfl Try.func37 (by kernel_rfl) rfl #[.agg #[.int .i64 a0, .int .i64 a1], .int .i64 a2] rfl (by (try simp only [List.map_toArray, List.map_cons, List.map_nil]); first | done | rfl | (simp only [List.length_drop, List.length_take]; rfl)) ?_; (with_reducible refine (grid_Of.calls a0 a1 a2 t996 t997 _ A11.out).mono ?_); rintro e w16 ⟨rfl, hb⟩; refine ⟨_, rfl, ?_⟩; have n0_ := Aside0.mk (blk_below (g := gb995) (o := .cells #[.int .i64 a0, .int .i64 a1] 62 (0, 0)) (by (with_reducible repeat (first | refine blk_drewN ?_ _ | refine blk_drew ?_ | refine blk_alloc ?_ _)); refine blk_put (cs := #[.int .i64 a0, .int .i64 0]) ?_ 1 _ rfl; (with_reducible repeat (first | refine blk_drewN ?_ _ | refine blk_drew ?_ | refine blk_alloc ?_ _)); refine blk_put (cs := #[.int .i64 0, .int .i64 0]) ?_ 0 _ rfl; (with_reducible repeat (first | refine blk_drewN ?_ _ | refine blk_drew ?_ | refine blk_alloc ?_ _)); exact BK995.out) hb); have n1_ := kB HB hb; clear BK995; clear HB; have BK995 := n0_; have HB := n1_; clear n0_ n1_; (try clear hb); (try clear hb2); (try clear hk); (try clear hi)) | ((with_reducible refine gate_dst (N := 8) rfl ?_); refine box_event ?hg (N := 8) ?hd (cs := #[.int .i64 0, .int .i64 0]) (t := 60) ?hr ?_; (case hd => rfl); (case hg => rfl); (case hr => first | (go_simp; done) | (go_simp; rfl)); intro gb998 hg w17 hbox hb; have BK998 := Aside0.mk (hbox); have GW998 := kS HB hg; have GE998 := kS HB hg; have NB995_998 := kN BK995 hg; have NB998_995 := kM BK995 hg; replace BK995 := kb BK995 hb; replace HB := kB HB hb; clear hb hbox hg; have hnb18 := NB998_995.out; have hnc18 := NB995_998.out; have hcz19_0 : w17.cell? ⟨gb998, 0, none⟩ = some (.int .i64 0) := kc BK998 0; have hcz19_1 : w17.cell? ⟨gb998, 1, none⟩ = some (.int .i64 0) := kc BK998 1; have hfz19_0 := blk_frozen BK998.out 0; have hfz19_1 := blk_frozen BK998.out 1) | ((with_reducible refine gate_callee (f := 42) rfl ?_); refine goesL_ (some 37) rfl rfl Try.func42 (by kernel_rfl) rfl #[.agg #[.int .i64 t996, .int .i64 t997], .int .i64 a2] rfl (by (try simp only [List.map_toArray, List.map_cons, List.map_nil]); first | done | rfl | (simp only [List.length_drop, List.length_take]; rfl)) ?_; (with_reducible refine (grid_Sides.calls t996 t997 a2 t999 t1000 t1001 t1002 _ A12.out).mono ?_); rintro e w20 ⟨rfl, hb⟩; refine ⟨_, rfl, ?_⟩; have n0_ := kb BK995 hb; have n1_ := Aside0.mk (blk_below (g := gb998) (o := .cells #[.int .i64 t996, .int .i64 t997] 60 (0, 0)) (by (with_reducible repeat (first | refine blk_drewN ?_ _ | refine blk_drew ?_ | refine blk_alloc ?_ _)); refine blk_put (cs := #[.int .i64 t996, .int .i64 0]) ?_ 1 _ rfl; (with_reducible repeat (first | refine blk_drewN ?_ _ | refine blk_drew ?_ | refine blk_alloc ?_ _)); refine blk_put (cs := #[.int .i64 0, .int .i64 0]) ?_ 0 _ rfl; (with_reducible repeat (first | refine blk_drewN ?_ _ | refine blk_drew ?_ | refine blk_alloc ?_ _)); exact BK998.out) hb); have n2_ := kB HB hb; clear BK995; clear BK998; clear HB; have BK995 := n0_; have BK998 := n1_; have HB := n2_; clear n0_ n1_ n2_; (try clear hb); (try clear hb2); (try clear hk); (try clear hi)) | ((with_reducible refine gate_dst (N := 9) rfl ?_); refine box_event ?hg (N := 9) ?hd (cs := #[.int .i64 0, .int .i64 0]) (t := 62) ?hr ?_; (case hd => rfl); (case hg => rfl); (case hr => first | (go_simp; done) | (go_simp; rfl)); intro gb1003 hg w21 hbox hb; have BK1003 := Aside0.mk (hbox); have GW1003 := kS HB hg; have GE1003 := kS HB hg; have NB995_1003 := kN BK995 hg; have NB1003_995 := kM BK995 hg; have NB998_1003 := kN BK998 hg; have NB1003_998 := kM BK998 hg; replace BK995 := kb BK995 hb; replace BK998 := kb BK998 hb; replace HB := kB HB hb; clear hb hbox hg) | ((with_reducible refine gate_dst (N := 10) rfl ?_); refine box_event ?hg (N := 10) ?hd (cs := #[.int .i64 0, .int .i64 0]) (t := 62) ?hr ?_; (case hd => rfl); (case hg => rfl); (case hr => first | (go_simp; done) | (go_simp; rfl)); intro gb1004 hg w22 hbox hb; have BK1004 := Aside0.mk (hbox); have GW1004 := kS HB hg; have GE1004 := kS HB hg; have NB995_1004 := kN BK995 hg; have NB1004_995 := kM BK995 hg; have NB998_1004 := kN BK998 hg; have NB1004_998 := kM BK998 hg; have NB1003_1004 := kN BK1003 hg; have NB1004_1003 := kM BK1003 hg; replace BK995 := kb BK995 hb; replace BK998 := kb BK998 hb; replace BK1003 := kb BK1003 hb; replace HB := kB HB hb; clear hb hbox hg; have hnb23 := NB1003_995.out; have hnc23 := NB995_1003.out; have hnb24 := NB1003_998.out; have hnc24 := NB998_1003.out; have hnb25 := NB1003_1004.out; have hnc25 := NB1004_1003.out; have hcz26_0 : w22.cell? ⟨gb1003, 0, none⟩ = some (.int .i64 0) := kc BK1003 0; have hcz26_1 : w22.cell? ⟨gb1003, 1, none⟩ = some (.int .i64 0) := kc BK1003 1; have hfz26_0 := blk_frozen BK1003.out 0; have hfz26_1 := blk_frozen BK1003.out 1; have hnb27 := NB1004_995.out; have hnc27 := NB995_1004.out; have hnb28 := NB1004_998.out; have hnc28 := NB998_1004.out; have hcz29_0 : w22.cell? ⟨gb1004, 0, none⟩ = some (.int .i64 0) := kc BK1004 0; have hcz29_1 : w22.cell? ⟨gb1004, 1, none⟩ = some (.int .i64 0) := kc BK1004 1; have hfz29_0 := blk_frozen BK1004.out 0; have hfz29_1 := blk_frozen BK1004.out 1))
      (try simp only [Act.put, s1, s2, s3])
      go_cut [71] (fun v71 wc => ∃ (kq : Nat) (x71_12 : Bool), v71 = .bool x71_12 ∧ Aside0 (cobweblaw03_GridHolds.j1 kq a0 a1 a2 x71_12 a0 a1 t996 t997 = some r) ∧ Aside0 (kq ≤ kj3) ∧ Aside0 (wc.heap[gb995]? = some (.cells #[.int .i64 a0, .int .i64 a1] 62 (0, 0))) ∧ Aside0 (wc.heap[gb998]? = some (.cells #[.int .i64 t996, .int .i64 t997] 60 (0, 0))) ∧ Aside0 (wc.heap[gb1003]? = some (.cells #[.int .i64 t999, .int .i64 t1000] 62 (0, 0))) ∧ Aside0 (wc.heap[gb1004]? = some (.cells #[.int .i64 t1001, .int .i64 t1002] 62 (0, 0))) ∧ Aside0 (Below w.heap.size w wc))
      case first =>
        have H := HC13.out; clear HC13
        replace H := Option.bind_eq_some_iff.mp H
        obtain ⟨t1005, A300, H⟩ := H
        replace H : (if t1005 = true then (if (wrap64 (2 * a0)) < t999 then (cobweblaw03_GridHolds.j1 kj3 a0 a1 a2 true a0 a1 t996 t997) else (if (wrap64 (2 * a0)) ≥ t1001 then (cobweblaw03_GridHolds.j1 kj3 a0 a1 a2 true a0 a1 t996 t997) else (if (wrap64 (2 * a1)) < t1000 then (cobweblaw03_GridHolds.j1 kj3 a0 a1 a2 true a0 a1 t996 t997) else (cobweblaw03_GridHolds.j1 kj3 a0 a1 a2 (decide ((wrap64 (2 * a1)) ≥ t1002)) a0 a1 t996 t997)))) else (cobweblaw03_GridHolds.j1 kj3 a0 a1 a2 true a0 a1 t996 t997)) = some r := H
        have A30 := Aside0.mk A300
        clear A300
        by_cases c31 : t1005 = true
        rotate_left
        · replace c31 := Bool.eq_false_iff.mpr c31
          subst c31
          have H1 : (cobweblaw03_GridHolds.j1 kj3 a0 a1 a2 true a0 a1 t996 t997) = some r := by rw [if_neg (show ¬ (false = true) by decide)] at H; exact H
          clear H; have H := H1; clear H1
          have H' := Aside0.mk H
          clear H; have hnb73 := NB998_995.out; have hnc73 := NB995_998.out; have hnb74 := NB998_1003.out; have hnc74 := NB1003_998.out; have hnb75 := NB998_1004.out; have hnc75 := NB1004_998.out
          have hcz76_0 : w22.cell? ⟨gb998, 0, none⟩ = some (.int .i64 t996) := kc BK998 0
          have hcz76_1 : w22.cell? ⟨gb998, 1, none⟩ = some (.int .i64 t997) := kc BK998 1
          have hfz76_0 := blk_frozen BK998.out 0
          have hfz76_1 := blk_frozen BK998.out 1
          go_wp2_with (first | ((with_reducible refine gate_callee (f := 44) rfl ?_); refine goesL_ (some 42) rfl rfl Try.func44 (by kernel_rfl) rfl #[.agg #[.int .i64 t996, .int .i64 t997], .int .i64 a2] rfl (by (try simp only [List.map_toArray, List.map_cons, List.map_nil]); first | done | rfl | (simp only [List.length_drop, List.length_take]; rfl)) ?_; (with_reducible refine (grid_In.calls t996 t997 a2 false _ A30.out).mono ?_); rintro e w77 ⟨rfl, hb⟩; refine ⟨_, rfl, ?_⟩; have n0_ := kb BK995 hb; have n1_ := kb BK998 hb; have n2_ := Aside0.mk (blk_below (g := gb1003) (o := .cells #[.int .i64 t999, .int .i64 t1000] 62 (0, 0)) (by (with_reducible repeat (first | refine blk_drewN ?_ _ | refine blk_drew ?_ | refine blk_alloc ?_ _)); refine blk_far ?_ NB1003_1004.out _; (with_reducible repeat (first | refine blk_drewN ?_ _ | refine blk_drew ?_ | refine blk_alloc ?_ _)); refine blk_far ?_ NB1003_1004.out _; (with_reducible repeat (first | refine blk_drewN ?_ _ | refine blk_drew ?_ | refine blk_alloc ?_ _)); refine blk_put (cs := #[.int .i64 t999, .int .i64 0]) ?_ 1 _ rfl; (with_reducible repeat (first | refine blk_drewN ?_ _ | refine blk_drew ?_ | refine blk_alloc ?_ _)); refine blk_put (cs := #[.int .i64 0, .int .i64 0]) ?_ 0 _ rfl; (with_reducible repeat (first | refine blk_drewN ?_ _ | refine blk_drew ?_ | refine blk_alloc ?_ _)); exact BK1003.out) hb); have n3_ := Aside0.mk (blk_below (g := gb1004) (o := .cells #[.int .i64 t1001, .int .i64 t1002] 62 (0, 0)) (by (with_reducible repeat (first | refine blk_drewN ?_ _ | refine blk_drew ?_ | refine blk_alloc ?_ _)); refine blk_put (cs := #[.int .i64 t1001, .int .i64 0]) ?_ 1 _ rfl; (with_reducible repeat (first | refine blk_drewN ?_ _ | refine blk_drew ?_ | refine blk_alloc ?_ _)); refine blk_put (cs := #[.int .i64 0, .int .i64 0]) ?_ 0 _ rfl; (with_reducible repeat (first | refine blk_drewN ?_ _ | refine blk_drew ?_ | refine blk_alloc ?_ _)); refine blk_far ?_ NB1004_1003.out _; (with_reducible repeat (first | refine blk_drewN ?_ _ | refine blk_drew ?_ | refine blk_alloc ?_ _)); refine blk_far ?_ NB1004_1003.out _; (with_reducible repeat (first | refine blk_drewN ?_ _ | refine blk_drew ?_ | refine blk_alloc ?_ _)); exact BK1004.out) hb); have n4_ := kB HB hb; clear BK995; clear BK998; clear BK1003; clear BK1004; clear HB; have BK995 := n0_; have BK998 := n1_; have BK1003 := n2_; have BK1004 := n3_; have HB := n4_; clear n0_ n1_ n2_ n3_ n4_; (try clear hb); (try clear hb2); (try clear hk); (try clear hi)))
          go_meet
          case rel => exact ⟨_, (true), (by first | rfl | (simp; done) | (simp [*]; done)), H', ⟨by have := HJ3.out; first | omega | exact Nat.le_refl _⟩, ⟨kx BK995⟩, ⟨kx BK998⟩, ⟨kx BK1003⟩, ⟨kx BK1004⟩, ⟨ky HB⟩⟩
        subst c31
        have H1 : (if (wrap64 (2 * a0)) < t999 then (cobweblaw03_GridHolds.j1 kj3 a0 a1 a2 true a0 a1 t996 t997) else (if (wrap64 (2 * a0)) ≥ t1001 then (cobweblaw03_GridHolds.j1 kj3 a0 a1 a2 true a0 a1 t996 t997) else (if (wrap64 (2 * a1)) < t1000 then (cobweblaw03_GridHolds.j1 kj3 a0 a1 a2 true a0 a1 t996 t997) else (cobweblaw03_GridHolds.j1 kj3 a0 a1 a2 (decide ((wrap64 (2 * a1)) ≥ t1002)) a0 a1 t996 t997)))) = some r := by rw [if_pos rfl] at H; exact H
        clear H; have H := H1; clear H1
        by_cases c32 : (wrap64 (2 * a0)) < t999
        · rw [if_pos c32] at H
          have c32b0 : decide ((wrap64 (2 * a0)) < t999) = true := decide_eq_true c32
          clear c32
          (first | rw [c32b0] | (simp only [i64_w, i32_w]; rw [c32b0]) | skip)
          have H' := Aside0.mk H
          clear H; have hnb33 := NB998_995.out; have hnc33 := NB995_998.out; have hnb34 := NB998_1003.out; have hnc34 := NB1003_998.out; have hnb35 := NB998_1004.out; have hnc35 := NB1004_998.out
          have hcz36_0 : w22.cell? ⟨gb998, 0, none⟩ = some (.int .i64 t996) := kc BK998 0
          have hcz36_1 : w22.cell? ⟨gb998, 1, none⟩ = some (.int .i64 t997) := kc BK998 1
          have hfz36_0 := blk_frozen BK998.out 0
          have hfz36_1 := blk_frozen BK998.out 1
          go_wp2_with (first | ((with_reducible refine gate_callee (f := 44) rfl ?_); refine goesL_ (some 42) rfl rfl Try.func44 (by kernel_rfl) rfl #[.agg #[.int .i64 t996, .int .i64 t997], .int .i64 a2] rfl (by (try simp only [List.map_toArray, List.map_cons, List.map_nil]); first | done | rfl | (simp only [List.length_drop, List.length_take]; rfl)) ?_; (with_reducible refine (grid_In.calls t996 t997 a2 true _ A30.out).mono ?_); rintro e w37 ⟨rfl, hb⟩; refine ⟨_, rfl, ?_⟩; have n0_ := kb BK995 hb; have n1_ := kb BK998 hb; have n2_ := Aside0.mk (blk_below (g := gb1003) (o := .cells #[.int .i64 t999, .int .i64 t1000] 62 (0, 0)) (by (with_reducible repeat (first | refine blk_drewN ?_ _ | refine blk_drew ?_ | refine blk_alloc ?_ _)); refine blk_far ?_ NB1003_1004.out _; (with_reducible repeat (first | refine blk_drewN ?_ _ | refine blk_drew ?_ | refine blk_alloc ?_ _)); refine blk_far ?_ NB1003_1004.out _; (with_reducible repeat (first | refine blk_drewN ?_ _ | refine blk_drew ?_ | refine blk_alloc ?_ _)); refine blk_put (cs := #[.int .i64 t999, .int .i64 0]) ?_ 1 _ rfl; (with_reducible repeat (first | refine blk_drewN ?_ _ | refine blk_drew ?_ | refine blk_alloc ?_ _)); refine blk_put (cs := #[.int .i64 0, .int .i64 0]) ?_ 0 _ rfl; (with_reducible repeat (first | refine blk_drewN ?_ _ | refine blk_drew ?_ | refine blk_alloc ?_ _)); exact BK1003.out) hb); have n3_ := Aside0.mk (blk_below (g := gb1004) (o := .cells #[.int .i64 t1001, .int .i64 t1002] 62 (0, 0)) (by (with_reducible repeat (first | refine blk_drewN ?_ _ | refine blk_drew ?_ | refine blk_alloc ?_ _)); refine blk_put (cs := #[.int .i64 t1001, .int .i64 0]) ?_ 1 _ rfl; (with_reducible repeat (first | refine blk_drewN ?_ _ | refine blk_drew ?_ | refine blk_alloc ?_ _)); refine blk_put (cs := #[.int .i64 0, .int .i64 0]) ?_ 0 _ rfl; (with_reducible repeat (first | refine blk_drewN ?_ _ | refine blk_drew ?_ | refine blk_alloc ?_ _)); refine blk_far ?_ NB1004_1003.out _; (with_reducible repeat (first | refine blk_drewN ?_ _ | refine blk_drew ?_ | refine blk_alloc ?_ _)); refine blk_far ?_ NB1004_1003.out _; (with_reducible repeat (first | refine blk_drewN ?_ _ | refine blk_drew ?_ | refine blk_alloc ?_ _)); exact BK1004.out) hb); have n4_ := kB HB hb; clear BK995; clear BK998; clear BK1003; clear BK1004; clear HB; have BK995 := n0_; have BK998 := n1_; have BK1003 := n2_; have BK1004 := n3_; have HB := n4_; clear n0_ n1_ n2_ n3_ n4_; (try clear hb); (try clear hb2); (try clear hk); (try clear hi); have hnb38 := NB1003_995.out; have hnc38 := NB995_1003.out; have hnb39 := NB1003_1004.out; have hnc39 := NB1004_1003.out; have hcz40_0 : w37.cell? ⟨gb1003, 0, none⟩ = some (.int .i64 t999) := kc BK1003 0; have hcz40_1 : w37.cell? ⟨gb1003, 1, none⟩ = some (.int .i64 t1000) := kc BK1003 1; have hfz40_0 := blk_frozen BK1003.out 0; have hfz40_1 := blk_frozen BK1003.out 1))
          go_meet
          case rel => exact ⟨_, (true), (by first | rfl | (simp; done) | (simp [*]; done)), H', ⟨by have := HJ3.out; first | omega | exact Nat.le_refl _⟩, ⟨kx BK995⟩, ⟨kx BK998⟩, ⟨kx BK1003⟩, ⟨kx BK1004⟩, ⟨ky HB⟩⟩
        rw [if_neg c32] at H
        have c32b0 : decide ((wrap64 (2 * a0)) < t999) = false := decide_eq_false c32
        clear c32
        (first | rw [c32b0] | (simp only [i64_w, i32_w]; rw [c32b0]) | skip)
        by_cases c41 : (wrap64 (2 * a0)) ≥ t1001
        · rw [if_pos c41] at H
          have c41b0 : decide (t1001 ≤ (wrap64 (2 * a0))) = true := decide_eq_true c41
          clear c41
          have H' := Aside0.mk H
          clear H; have hnb42 := NB998_995.out; have hnc42 := NB995_998.out; have hnb43 := NB998_1003.out; have hnc43 := NB1003_998.out; have hnb44 := NB998_1004.out; have hnc44 := NB1004_998.out
          have hcz45_0 : w22.cell? ⟨gb998, 0, none⟩ = some (.int .i64 t996) := kc BK998 0
          have hcz45_1 : w22.cell? ⟨gb998, 1, none⟩ = some (.int .i64 t997) := kc BK998 1
          have hfz45_0 := blk_frozen BK998.out 0
          have hfz45_1 := blk_frozen BK998.out 1
          go_wp2_with (first | ((with_reducible refine gate_callee (f := 44) rfl ?_); refine goesL_ (some 42) rfl rfl Try.func44 (by kernel_rfl) rfl #[.agg #[.int .i64 t996, .int .i64 t997], .int .i64 a2] rfl (by (try simp only [List.map_toArray, List.map_cons, List.map_nil]); first | done | rfl | (simp only [List.length_drop, List.length_take]; rfl)) ?_; (with_reducible refine (grid_In.calls t996 t997 a2 true _ A30.out).mono ?_); rintro e w46 ⟨rfl, hb⟩; refine ⟨_, rfl, ?_⟩; have n0_ := kb BK995 hb; have n1_ := kb BK998 hb; have n2_ := Aside0.mk (blk_below (g := gb1003) (o := .cells #[.int .i64 t999, .int .i64 t1000] 62 (0, 0)) (by (with_reducible repeat (first | refine blk_drewN ?_ _ | refine blk_drew ?_ | refine blk_alloc ?_ _)); refine blk_far ?_ NB1003_1004.out _; (with_reducible repeat (first | refine blk_drewN ?_ _ | refine blk_drew ?_ | refine blk_alloc ?_ _)); refine blk_far ?_ NB1003_1004.out _; (with_reducible repeat (first | refine blk_drewN ?_ _ | refine blk_drew ?_ | refine blk_alloc ?_ _)); refine blk_put (cs := #[.int .i64 t999, .int .i64 0]) ?_ 1 _ rfl; (with_reducible repeat (first | refine blk_drewN ?_ _ | refine blk_drew ?_ | refine blk_alloc ?_ _)); refine blk_put (cs := #[.int .i64 0, .int .i64 0]) ?_ 0 _ rfl; (with_reducible repeat (first | refine blk_drewN ?_ _ | refine blk_drew ?_ | refine blk_alloc ?_ _)); exact BK1003.out) hb); have n3_ := Aside0.mk (blk_below (g := gb1004) (o := .cells #[.int .i64 t1001, .int .i64 t1002] 62 (0, 0)) (by (with_reducible repeat (first | refine blk_drewN ?_ _ | refine blk_drew ?_ | refine blk_alloc ?_ _)); refine blk_put (cs := #[.int .i64 t1001, .int .i64 0]) ?_ 1 _ rfl; (with_reducible repeat (first | refine blk_drewN ?_ _ | refine blk_drew ?_ | refine blk_alloc ?_ _)); refine blk_put (cs := #[.int .i64 0, .int .i64 0]) ?_ 0 _ rfl; (with_reducible repeat (first | refine blk_drewN ?_ _ | refine blk_drew ?_ | refine blk_alloc ?_ _)); refine blk_far ?_ NB1004_1003.out _; (with_reducible repeat (first | refine blk_drewN ?_ _ | refine blk_drew ?_ | refine blk_alloc ?_ _)); refine blk_far ?_ NB1004_1003.out _; (with_reducible repeat (first | refine blk_drewN ?_ _ | refine blk_drew ?_ | refine blk_alloc ?_ _)); exact BK1004.out) hb); have n4_ := kB HB hb; clear BK995; clear BK998; clear BK1003; clear BK1004; clear HB; have BK995 := n0_; have BK998 := n1_; have BK1003 := n2_; have BK1004 := n3_; have HB := n4_; clear n0_ n1_ n2_ n3_ n4_; (try clear hb); (try clear hb2); (try clear hk); (try clear hi); have hnb47 := NB1003_995.out; have hnc47 := NB995_1003.out; have hnb48 := NB1003_1004.out; have hnc48 := NB1004_1003.out; have hcz49_0 : w46.cell? ⟨gb1003, 0, none⟩ = some (.int .i64 t999) := kc BK1003 0; have hcz49_1 : w46.cell? ⟨gb1003, 1, none⟩ = some (.int .i64 t1000) := kc BK1003 1; have hfz49_0 := blk_frozen BK1003.out 0; have hfz49_1 := blk_frozen BK1003.out 1; have hnb50 := NB1004_995.out; have hnc50 := NB995_1004.out; have hcz51_0 : w46.cell? ⟨gb1004, 0, none⟩ = some (.int .i64 t1001) := kc BK1004 0; have hcz51_1 : w46.cell? ⟨gb1004, 1, none⟩ = some (.int .i64 t1002) := kc BK1004 1; have hfz51_0 := blk_frozen BK1004.out 0; have hfz51_1 := blk_frozen BK1004.out 1))
          go_meet
          case rel => exact ⟨_, (true), (by first | rfl | (simp; done) | (simp [*]; done)), H', ⟨by have := HJ3.out; first | omega | exact Nat.le_refl _⟩, ⟨kx BK995⟩, ⟨kx BK998⟩, ⟨kx BK1003⟩, ⟨kx BK1004⟩, ⟨ky HB⟩⟩
        rw [if_neg c41] at H
        have c41b0 : decide (t1001 ≤ (wrap64 (2 * a0))) = false := decide_eq_false c41
        clear c41
        by_cases c52 : (wrap64 (2 * a1)) < t1000
        · rw [if_pos c52] at H
          have c52b0 : decide ((wrap64 (2 * a1)) < t1000) = true := decide_eq_true c52
          clear c52
          have H' := Aside0.mk H
          clear H; have hnb53 := NB998_995.out; have hnc53 := NB995_998.out; have hnb54 := NB998_1003.out; have hnc54 := NB1003_998.out; have hnb55 := NB998_1004.out; have hnc55 := NB1004_998.out
          have hcz56_0 : w22.cell? ⟨gb998, 0, none⟩ = some (.int .i64 t996) := kc BK998 0
          have hcz56_1 : w22.cell? ⟨gb998, 1, none⟩ = some (.int .i64 t997) := kc BK998 1
          have hfz56_0 := blk_frozen BK998.out 0
          have hfz56_1 := blk_frozen BK998.out 1
          go_wp2_with (first | ((with_reducible refine gate_callee (f := 44) rfl ?_); refine goesL_ (some 42) rfl rfl Try.func44 (by kernel_rfl) rfl #[.agg #[.int .i64 t996, .int .i64 t997], .int .i64 a2] rfl (by (try simp only [List.map_toArray, List.map_cons, List.map_nil]); first | done | rfl | (simp only [List.length_drop, List.length_take]; rfl)) ?_; (with_reducible refine (grid_In.calls t996 t997 a2 true _ A30.out).mono ?_); rintro e w57 ⟨rfl, hb⟩; refine ⟨_, rfl, ?_⟩; have n0_ := kb BK995 hb; have n1_ := kb BK998 hb; have n2_ := Aside0.mk (blk_below (g := gb1003) (o := .cells #[.int .i64 t999, .int .i64 t1000] 62 (0, 0)) (by (with_reducible repeat (first | refine blk_drewN ?_ _ | refine blk_drew ?_ | refine blk_alloc ?_ _)); refine blk_far ?_ NB1003_1004.out _; (with_reducible repeat (first | refine blk_drewN ?_ _ | refine blk_drew ?_ | refine blk_alloc ?_ _)); refine blk_far ?_ NB1003_1004.out _; (with_reducible repeat (first | refine blk_drewN ?_ _ | refine blk_drew ?_ | refine blk_alloc ?_ _)); refine blk_put (cs := #[.int .i64 t999, .int .i64 0]) ?_ 1 _ rfl; (with_reducible repeat (first | refine blk_drewN ?_ _ | refine blk_drew ?_ | refine blk_alloc ?_ _)); refine blk_put (cs := #[.int .i64 0, .int .i64 0]) ?_ 0 _ rfl; (with_reducible repeat (first | refine blk_drewN ?_ _ | refine blk_drew ?_ | refine blk_alloc ?_ _)); exact BK1003.out) hb); have n3_ := Aside0.mk (blk_below (g := gb1004) (o := .cells #[.int .i64 t1001, .int .i64 t1002] 62 (0, 0)) (by (with_reducible repeat (first | refine blk_drewN ?_ _ | refine blk_drew ?_ | refine blk_alloc ?_ _)); refine blk_put (cs := #[.int .i64 t1001, .int .i64 0]) ?_ 1 _ rfl; (with_reducible repeat (first | refine blk_drewN ?_ _ | refine blk_drew ?_ | refine blk_alloc ?_ _)); refine blk_put (cs := #[.int .i64 0, .int .i64 0]) ?_ 0 _ rfl; (with_reducible repeat (first | refine blk_drewN ?_ _ | refine blk_drew ?_ | refine blk_alloc ?_ _)); refine blk_far ?_ NB1004_1003.out _; (with_reducible repeat (first | refine blk_drewN ?_ _ | refine blk_drew ?_ | refine blk_alloc ?_ _)); refine blk_far ?_ NB1004_1003.out _; (with_reducible repeat (first | refine blk_drewN ?_ _ | refine blk_drew ?_ | refine blk_alloc ?_ _)); exact BK1004.out) hb); have n4_ := kB HB hb; clear BK995; clear BK998; clear BK1003; clear BK1004; clear HB; have BK995 := n0_; have BK998 := n1_; have BK1003 := n2_; have BK1004 := n3_; have HB := n4_; clear n0_ n1_ n2_ n3_ n4_; (try clear hb); (try clear hb2); (try clear hk); (try clear hi); have hnb58 := NB1003_995.out; have hnc58 := NB995_1003.out; have hnb59 := NB1003_1004.out; have hnc59 := NB1004_1003.out; have hcz60_0 : w57.cell? ⟨gb1003, 0, none⟩ = some (.int .i64 t999) := kc BK1003 0; have hcz60_1 : w57.cell? ⟨gb1003, 1, none⟩ = some (.int .i64 t1000) := kc BK1003 1; have hfz60_0 := blk_frozen BK1003.out 0; have hfz60_1 := blk_frozen BK1003.out 1; have hnb61 := NB1004_995.out; have hnc61 := NB995_1004.out; have hcz62_0 : w57.cell? ⟨gb1004, 0, none⟩ = some (.int .i64 t1001) := kc BK1004 0; have hcz62_1 : w57.cell? ⟨gb1004, 1, none⟩ = some (.int .i64 t1002) := kc BK1004 1; have hfz62_0 := blk_frozen BK1004.out 0; have hfz62_1 := blk_frozen BK1004.out 1))
          go_meet
          case rel => exact ⟨_, (true), (by first | rfl | (simp; done) | (simp [*]; done)), H', ⟨by have := HJ3.out; first | omega | exact Nat.le_refl _⟩, ⟨kx BK995⟩, ⟨kx BK998⟩, ⟨kx BK1003⟩, ⟨kx BK1004⟩, ⟨ky HB⟩⟩
        rw [if_neg c52] at H
        have c52b0 : decide ((wrap64 (2 * a1)) < t1000) = false := decide_eq_false c52
        clear c52
        have H' := Aside0.mk H
        clear H; have hnb63 := NB998_995.out; have hnc63 := NB995_998.out; have hnb64 := NB998_1003.out; have hnc64 := NB1003_998.out; have hnb65 := NB998_1004.out; have hnc65 := NB1004_998.out
        have hcz66_0 : w22.cell? ⟨gb998, 0, none⟩ = some (.int .i64 t996) := kc BK998 0
        have hcz66_1 : w22.cell? ⟨gb998, 1, none⟩ = some (.int .i64 t997) := kc BK998 1
        have hfz66_0 := blk_frozen BK998.out 0
        have hfz66_1 := blk_frozen BK998.out 1
        go_wp2_with (first | ((with_reducible refine gate_callee (f := 44) rfl ?_); refine goesL_ (some 42) rfl rfl Try.func44 (by kernel_rfl) rfl #[.agg #[.int .i64 t996, .int .i64 t997], .int .i64 a2] rfl (by (try simp only [List.map_toArray, List.map_cons, List.map_nil]); first | done | rfl | (simp only [List.length_drop, List.length_take]; rfl)) ?_; (with_reducible refine (grid_In.calls t996 t997 a2 true _ A30.out).mono ?_); rintro e w67 ⟨rfl, hb⟩; refine ⟨_, rfl, ?_⟩; have n0_ := kb BK995 hb; have n1_ := kb BK998 hb; have n2_ := Aside0.mk (blk_below (g := gb1003) (o := .cells #[.int .i64 t999, .int .i64 t1000] 62 (0, 0)) (by (with_reducible repeat (first | refine blk_drewN ?_ _ | refine blk_drew ?_ | refine blk_alloc ?_ _)); refine blk_far ?_ NB1003_1004.out _; (with_reducible repeat (first | refine blk_drewN ?_ _ | refine blk_drew ?_ | refine blk_alloc ?_ _)); refine blk_far ?_ NB1003_1004.out _; (with_reducible repeat (first | refine blk_drewN ?_ _ | refine blk_drew ?_ | refine blk_alloc ?_ _)); refine blk_put (cs := #[.int .i64 t999, .int .i64 0]) ?_ 1 _ rfl; (with_reducible repeat (first | refine blk_drewN ?_ _ | refine blk_drew ?_ | refine blk_alloc ?_ _)); refine blk_put (cs := #[.int .i64 0, .int .i64 0]) ?_ 0 _ rfl; (with_reducible repeat (first | refine blk_drewN ?_ _ | refine blk_drew ?_ | refine blk_alloc ?_ _)); exact BK1003.out) hb); have n3_ := Aside0.mk (blk_below (g := gb1004) (o := .cells #[.int .i64 t1001, .int .i64 t1002] 62 (0, 0)) (by (with_reducible repeat (first | refine blk_drewN ?_ _ | refine blk_drew ?_ | refine blk_alloc ?_ _)); refine blk_put (cs := #[.int .i64 t1001, .int .i64 0]) ?_ 1 _ rfl; (with_reducible repeat (first | refine blk_drewN ?_ _ | refine blk_drew ?_ | refine blk_alloc ?_ _)); refine blk_put (cs := #[.int .i64 0, .int .i64 0]) ?_ 0 _ rfl; (with_reducible repeat (first | refine blk_drewN ?_ _ | refine blk_drew ?_ | refine blk_alloc ?_ _)); refine blk_far ?_ NB1004_1003.out _; (with_reducible repeat (first | refine blk_drewN ?_ _ | refine blk_drew ?_ | refine blk_alloc ?_ _)); refine blk_far ?_ NB1004_1003.out _; (with_reducible repeat (first | refine blk_drewN ?_ _ | refine blk_drew ?_ | refine blk_alloc ?_ _)); exact BK1004.out) hb); have n4_ := kB HB hb; clear BK995; clear BK998; clear BK1003; clear BK1004; clear HB; have BK995 := n0_; have BK998 := n1_; have BK1003 := n2_; have BK1004 := n3_; have HB := n4_; clear n0_ n1_ n2_ n3_ n4_; (try clear hb); (try clear hb2); (try clear hk); (try clear hi); have hnb68 := NB1003_995.out; have hnc68 := NB995_1003.out; have hnb69 := NB1003_1004.out; have hnc69 := NB1004_1003.out; have hcz70_0 : w67.cell? ⟨gb1003, 0, none⟩ = some (.int .i64 t999) := kc BK1003 0; have hcz70_1 : w67.cell? ⟨gb1003, 1, none⟩ = some (.int .i64 t1000) := kc BK1003 1; have hfz70_0 := blk_frozen BK1003.out 0; have hfz70_1 := blk_frozen BK1003.out 1; have hnb71 := NB1004_995.out; have hnc71 := NB995_1004.out; have hcz72_0 : w67.cell? ⟨gb1004, 0, none⟩ = some (.int .i64 t1001) := kc BK1004 0; have hcz72_1 : w67.cell? ⟨gb1004, 1, none⟩ = some (.int .i64 t1002) := kc BK1004 1; have hfz72_0 := blk_frozen BK1004.out 0; have hfz72_1 := blk_frozen BK1004.out 1))
        go_meet
        case rel => exact ⟨_, (decide ((wrap64 (2 * a1)) ≥ t1002)), (by first | rfl | (simp; done) | (simp [*]; done)), H', ⟨by have := HJ3.out; first | omega | exact Nat.le_refl _⟩, ⟨kx BK995⟩, ⟨kx BK998⟩, ⟨kx BK1003⟩, ⟨kx BK1004⟩, ⟨ky HB⟩⟩
      case rest =>
        clear HC13; try clear c1; try clear c2; try clear p2; try clear c3; try clear c4; try clear c5; try clear c5b0; try clear c6; try clear c6b0; try clear p6; try clear c7; try clear c7b0; try clear c8; try clear c11; try clear c18; try clear c23; try clear c24; try clear c25; try clear c27; try clear c28; try clear c31; try clear c32; try clear c32b0; try clear c33; try clear c34; try clear c35; try clear c37; try clear c38; try clear c39; try clear c41; try clear c41b0; try clear c42; try clear c43; try clear c44; try clear c47; try clear c48; try clear c50; try clear c52; try clear c52b0; try clear c53; try clear c54; try clear c55; try clear c58; try clear c59; try clear c61; try clear c63; try clear c64; try clear p64; try clear c65; try clear c68; try clear c69; try clear c71; try clear c73; try clear c74; try clear c75; try clear hcz15_0; try clear hcz15_1; try clear hcz19_0; try clear hcz19_1; try clear hcz26_0; try clear hcz26_1; try clear hcz29_0; try clear hcz29_1; try clear hcz36_0; try clear hcz36_1; try clear hcz40_0; try clear hcz40_1; try clear hcz45_0; try clear hcz45_1; try clear hcz49_0; try clear hcz49_1; try clear hcz51_0; try clear hcz51_1; try clear hcz56_0; try clear hcz56_1; try clear hcz60_0; try clear hcz60_1; try clear hcz62_0; try clear hcz62_1; try clear hcz66_0; try clear hcz66_1; try clear hcz70_0; try clear hcz70_1; try clear hcz72_0; try clear hcz72_1; try clear hcz76_0; try clear hcz76_1; try clear hfz15_0; try clear hfz15_1; try clear hfz19_0; try clear hfz19_1; try clear hfz26_0; try clear hfz26_1; try clear hfz29_0; try clear hfz29_1; try clear hfz36_0; try clear hfz36_1; try clear hfz40_0; try clear hfz40_1; try clear hfz45_0; try clear hfz45_1; try clear hfz49_0; try clear hfz49_1; try clear hfz51_0; try clear hfz51_1; try clear hfz56_0; try clear hfz56_1; try clear hfz60_0; try clear hfz60_1; try clear hfz62_0; try clear hfz62_1; try clear hfz66_0; try clear hfz66_1; try clear hfz70_0; try clear hfz70_1; try clear hfz72_0; try clear hfz72_1; try clear hfz76_0; try clear hfz76_1; try clear p2
        obtain ⟨kq, x71_12, rfl, HA, HJ12, BK995, BK998, BK1003, BK1004, HB⟩ := hcut
        cases kq with
        | zero => exact absurd HA.out (by simp [cobweblaw03_GridHolds.j1])
        | succ kj12 =>
          have H := HA.out; clear HA
          simp only [cobweblaw03_GridHolds.j1] at H
          by_cases c78 : x71_12 = true
          · subst c78
            have H1 : (some false) = some r := by rw [if_pos rfl] at H; exact H
            clear H; have H := H1; clear H1
            obtain rfl := Option.some.inj H
            go_wp2
            go_ret
            exact ⟨by first | rfl | (simp [errW_none, errW_some] <;> rfl) | (simp [*, errW_none, errW_some] <;> rfl), ky HB⟩
          replace c78 := Bool.eq_false_iff.mpr c78
          subst c78
          have H1 : ((frac_Of.f a0).bind fun bt1006 => ((frac_Of.f a1).bind fun bt1010 => ((grid_At.f kj12 bt1006.1 bt1006.2.1 bt1006.2.2.1 bt1006.2.2.2 bt1010.1 bt1010.2.1 bt1010.2.2.1 bt1010.2.2.2 a2).bind fun bt1014 => ((cobweblaw03_alive.f kj12).bind fun t1018 => (if t1018 = true then (if bt1014.2.2 = true then (if (bt1014.1 == t996 && (bt1014.2.1 == t997)) = true then (if a2 > 0 then (some true) else ((grid_Center.f t996 t997 a2).bind fun bt1019 => (some (bt1019.1 == a0 && (bt1019.2 == a1))))) else (none)) else (none)) else (none)))))) = some r := by rw [if_neg (show ¬ (false = true) by decide)] at H; exact H
          clear H; have H := H1; clear H1
          replace H := Option.bind_eq_some_iff.mp H
          obtain ⟨⟨t1006, t1007, t1008, t1009⟩, A790, H⟩ := H
          replace H : ((frac_Of.f a1).bind fun bt1010 => ((grid_At.f kj12 t1006 t1007 t1008 t1009 bt1010.1 bt1010.2.1 bt1010.2.2.1 bt1010.2.2.2 a2).bind fun bt1014 => ((cobweblaw03_alive.f kj12).bind fun t1018 => (if t1018 = true then (if bt1014.2.2 = true then (if (bt1014.1 == t996 && (bt1014.2.1 == t997)) = true then (if a2 > 0 then (some true) else ((grid_Center.f t996 t997 a2).bind fun bt1019 => (some (bt1019.1 == a0 && (bt1019.2 == a1))))) else (none)) else (none)) else (none))))) = some r := H
          have A79 := Aside0.mk A790
          clear A790
          replace H := Option.bind_eq_some_iff.mp H
          obtain ⟨⟨t1010, t1011, t1012, t1013⟩, A800, H⟩ := H
          replace H : ((grid_At.f kj12 t1006 t1007 t1008 t1009 t1010 t1011 t1012 t1013 a2).bind fun bt1014 => ((cobweblaw03_alive.f kj12).bind fun t1018 => (if t1018 = true then (if bt1014.2.2 = true then (if (bt1014.1 == t996 && (bt1014.2.1 == t997)) = true then (if a2 > 0 then (some true) else ((grid_Center.f t996 t997 a2).bind fun bt1019 => (some (bt1019.1 == a0 && (bt1019.2 == a1))))) else (none)) else (none)) else (none)))) = some r := H
          have A80 := Aside0.mk A800
          clear A800
          replace H := Option.bind_eq_some_iff.mp H
          obtain ⟨⟨t1014, t1015, t1016⟩, A810, H⟩ := H
          replace H : ((cobweblaw03_alive.f kj12).bind fun t1018 => (if t1018 = true then (if t1016 = true then (if (t1014 == t996 && (t1015 == t997)) = true then (if a2 > 0 then (some true) else ((grid_Center.f t996 t997 a2).bind fun bt1019 => (some (bt1019.1 == a0 && (bt1019.2 == a1))))) else (none)) else (none)) else (none))) = some r := H
          have A81 := Aside0.mk A810
          clear A810
          replace H := Option.bind_eq_some_iff.mp H
          obtain ⟨t1018, A820, H⟩ := H
          replace H : (if t1018 = true then (if t1016 = true then (if (t1014 == t996 && (t1015 == t997)) = true then (if a2 > 0 then (some true) else ((grid_Center.f t996 t997 a2).bind fun bt1019 => (some (bt1019.1 == a0 && (bt1019.2 == a1))))) else (none)) else (none)) else (none)) = some r := H
          have A82 := Aside0.mk A820
          clear A820
          by_cases c83 : t1018 = true
          rotate_left
          · replace c83 := Bool.eq_false_iff.mpr c83
            subst c83
            have H1 : (none) = some r := by rw [if_neg (show ¬ (false = true) by decide)] at H; exact H
            clear H; have H := H1; clear H1
            exact absurd H (by simp)

          subst c83
          have H1 : (if t1016 = true then (if (t1014 == t996 && (t1015 == t997)) = true then (if a2 > 0 then (some true) else ((grid_Center.f t996 t997 a2).bind fun bt1019 => (some (bt1019.1 == a0 && (bt1019.2 == a1))))) else (none)) else (none)) = some r := by rw [if_pos rfl] at H; exact H
          clear H; have H := H1; clear H1
          by_cases c84 : t1016 = true
          rotate_left
          · replace c84 := Bool.eq_false_iff.mpr c84
            subst c84
            have H1 : (none) = some r := by rw [if_neg (show ¬ (false = true) by decide)] at H; exact H
            clear H; have H := H1; clear H1
            exact absurd H (by simp)
          subst c84
          have H1 : (if (t1014 == t996 && (t1015 == t997)) = true then (if a2 > 0 then (some true) else ((grid_Center.f t996 t997 a2).bind fun bt1019 => (some (bt1019.1 == a0 && (bt1019.2 == a1))))) else (none)) = some r := by rw [if_pos rfl] at H; exact H
          clear H; have H := H1; clear H1
          by_cases c85 : (t1014 == t996 && (t1015 == t997)) = true
          rotate_left
          · rw [if_neg c85] at H
            exact absurd H (by simp)
          rw [if_pos c85] at H
          have c85b0 : (t1014 == t996 && (t1015 == t997)) = true := c85
          (try (have c85b1 : decide (t1014 = t996 && (t1015 == t997)) = true := by simpa using c85))
          (try (have c85b2 : (t1014 == t996 && (t1015 == t997)) = true := by simpa using c85))
          clear c85
          by_cases c86 : a2 > 0
          · rw [if_pos c86] at H
            have c86b0 : decide (0 < a2) = true := decide_eq_true c86
            clear c86
            obtain rfl := Option.some.inj H
            try go_wp2_with (first | ((with_reducible refine gate_callee (f := 46) rfl ?_); refine goesL_ (some 74) rfl rfl Try.func46 (by kernel_rfl) rfl #[.int .i64 a0] rfl (by (try simp only [List.map_toArray, List.map_cons, List.map_nil]); first | done | rfl | (simp only [List.length_drop, List.length_take]; rfl)) ?_; (with_reducible refine (frac_Of.calls a0 t1006 t1007 t1008 t1009 _ A79.out).mono ?_); rintro e w87 ⟨rfl, hb⟩; refine ⟨_, rfl, ?_⟩; replace BK995 := kb BK995 hb; replace BK998 := kb BK998 hb; replace BK1003 := kb BK1003 hb; replace BK1004 := kb BK1004 hb; replace HB := kB HB hb; (try clear hb); (try clear hb2); (try clear hk); (try clear hi)) | ((with_reducible refine gate_callee (f := 46) rfl ?_); refine goesL_ (some 76) rfl rfl Try.func46 (by kernel_rfl) rfl #[.int .i64 a1] rfl (by (try simp only [List.map_toArray, List.map_cons, List.map_nil]); first | done | rfl | (simp only [List.length_drop, List.length_take]; rfl)) ?_; (with_reducible refine (frac_Of.calls a1 t1010 t1011 t1012 t1013 _ A80.out).mono ?_); rintro e w88 ⟨rfl, hb⟩; refine ⟨_, rfl, ?_⟩; replace BK995 := kb BK995 hb; replace BK998 := kb BK998 hb; replace BK1003 := kb BK1003 hb; replace BK1004 := kb BK1004 hb; replace HB := kB HB hb; (try clear hb); (try clear hb2); (try clear hk); (try clear hi)) | ((with_reducible refine gate_callee (f := 39) rfl ?_); refine goesL_ (some 78) rfl rfl Try.func39 (by kernel_rfl) rfl #[.agg #[.int .i64 t1006, .int .u64 t1007, .int .i64 t1008, .int .u64 t1009], .agg #[.int .i64 t1010, .int .u64 t1011, .int .i64 t1012, .int .u64 t1013], .int .i64 a2] rfl (by (try simp only [List.map_toArray, List.map_cons, List.map_nil]); first | done | rfl | (simp only [List.length_drop, List.length_take]; rfl)) ?_; (with_reducible refine (grid_At.calls kj12 t1006 t1007 t1008 t1009 t1010 t1011 t1012 t1013 a2 t1014 t1015 true _ A81.out).mono ?_); rintro e w89 ⟨rfl, hb⟩; refine ⟨_, rfl, ?_⟩; replace BK995 := kb BK995 hb; replace BK998 := kb BK998 hb; replace BK1003 := kb BK1003 hb; replace BK1004 := kb BK1004 hb; replace HB := kB HB hb; (try clear hb); (try clear hb2); (try clear hk); (try clear hi)) | ((with_reducible refine gate_dst (N := 11) rfl ?_); refine box_event ?hg (N := 11) ?hd (cs := #[.int .i64 0, .int .i64 0]) (t := 60) ?hr ?_; (case hd => rfl); (case hg => rfl); (case hr => first | (go_simp; done) | (go_simp; rfl)); intro gb1017 hg w90 hbox hb; have BK1017 := Aside0.mk (hbox); have GW1017 := kS HB hg; have GE1017 := kS HB hg; have NB995_1017 := kN BK995 hg; have NB1017_995 := kM BK995 hg; have NB998_1017 := kN BK998 hg; have NB1017_998 := kM BK998 hg; have NB1003_1017 := kN BK1003 hg; have NB1017_1003 := kM BK1003 hg; have NB1004_1017 := kN BK1004 hg; have NB1017_1004 := kM BK1004 hg; replace BK995 := kb BK995 hb; replace BK998 := kb BK998 hb; replace BK1003 := kb BK1003 hb; replace BK1004 := kb BK1004 hb; replace HB := kB HB hb; clear hb hbox hg; have hnb91 := NB1017_995.out; have hnc91 := NB995_1017.out; have hnb92 := NB1017_998.out; have hnc92 := NB998_1017.out; have hnb93 := NB1017_1003.out; have hnc93 := NB1003_1017.out; have hnb94 := NB1017_1004.out; have hnc94 := NB1004_1017.out; have hcz95_0 : w90.cell? ⟨gb1017, 0, none⟩ = some (.int .i64 0) := kc BK1017 0; have hcz95_1 : w90.cell? ⟨gb1017, 1, none⟩ = some (.int .i64 0) := kc BK1017 1; have hfz95_0 := blk_frozen BK1017.out 0; have hfz95_1 := blk_frozen BK1017.out 1))
            have n0_ : Aside0 (((w90.setCell ⟨gb1017, 0, none⟩ (.int .i64 t1014)).setCell ⟨gb1017, 1, none⟩ (.int .i64 t1015)).heap[gb995]? = some (.cells #[.int .i64 a0, .int .i64 a1] 62 (0, 0))) := ⟨kx BK995⟩
            have n1_ : Aside0 (((w90.setCell ⟨gb1017, 0, none⟩ (.int .i64 t1014)).setCell ⟨gb1017, 1, none⟩ (.int .i64 t1015)).heap[gb998]? = some (.cells #[.int .i64 t996, .int .i64 t997] 60 (0, 0))) := ⟨kx BK998⟩
            have n2_ : Aside0 (((w90.setCell ⟨gb1017, 0, none⟩ (.int .i64 t1014)).setCell ⟨gb1017, 1, none⟩ (.int .i64 t1015)).heap[gb1003]? = some (.cells #[.int .i64 t999, .int .i64 t1000] 62 (0, 0))) := ⟨kx BK1003⟩
            have n3_ : Aside0 (((w90.setCell ⟨gb1017, 0, none⟩ (.int .i64 t1014)).setCell ⟨gb1017, 1, none⟩ (.int .i64 t1015)).heap[gb1004]? = some (.cells #[.int .i64 t1001, .int .i64 t1002] 62 (0, 0))) := ⟨kx BK1004⟩
            have n4_ : Aside0 (((w90.setCell ⟨gb1017, 0, none⟩ (.int .i64 t1014)).setCell ⟨gb1017, 1, none⟩ (.int .i64 t1015)).heap[gb1017]? = some (.cells #[.int .i64 t1014, .int .i64 t1015] 60 (0, 0))) := ⟨by (with_reducible repeat (first | refine blk_drewN ?_ _ | refine blk_drew ?_ | refine blk_alloc ?_ _)); refine blk_put (cs := #[.int .i64 t1014, .int .i64 0]) ?_ 1 _ rfl; (with_reducible repeat (first | refine blk_drewN ?_ _ | refine blk_drew ?_ | refine blk_alloc ?_ _)); refine blk_put (cs := #[.int .i64 0, .int .i64 0]) ?_ 0 _ rfl; (with_reducible repeat (first | refine blk_drewN ?_ _ | refine blk_drew ?_ | refine blk_alloc ?_ _)); exact BK1017.out⟩
            have n5_ : Aside0 (Below w.heap.size w ((w90.setCell ⟨gb1017, 0, none⟩ (.int .i64 t1014)).setCell ⟨gb1017, 1, none⟩ (.int .i64 t1015))) := ⟨ky HB⟩
            (try clear BK995); (try clear BK998); (try clear BK1003); (try clear BK1004); (try clear BK1017); (try clear HB)
            generalize ((w90.setCell ⟨gb1017, 0, none⟩ (.int .i64 t1014)).setCell ⟨gb1017, 1, none⟩ (.int .i64 t1015)) = w96 at n0_ n1_ n2_ n3_ n4_ n5_ ⊢
            have BK995 := n0_; have BK998 := n1_; have BK1003 := n2_; have BK1004 := n3_; have BK1017 := n4_; have HB := n5_
            clear n0_ n1_ n2_ n3_ n4_ n5_
            replace BK995 := Aside0.mk (blk_drew BK995.out)
            replace BK998 := Aside0.mk (blk_drew BK998.out)
            replace BK1003 := Aside0.mk (blk_drew BK1003.out)
            replace BK1004 := Aside0.mk (blk_drew BK1004.out)
            replace BK1017 := Aside0.mk (blk_drew BK1017.out)
            replace HB := Aside0.mk (below_drew1 HB.out)
            refine start_ (n := 21) (S := fun w' => w'.cell? ⟨gb1017, 0, none⟩ = some (.int .i64 t1014) ∧ w'.cell? ⟨gb1017, 1, none⟩ = some (.int .i64 t1015) ∧ w'.cell? ⟨gb998, 0, none⟩ = some (.int .i64 t996) ∧ w'.cell? ⟨gb998, 1, none⟩ = some (.int .i64 t997)) (ds := []) #[O, O, O, O, O, O, O, O, O, O, O, O, O, O, O, O, O, O, O, O, O] (by kernel_rfl) rfl rfl ⟨kc BK1017 0, kc BK1017 1, kc BK998 0, kc BK998 1⟩ (fun hHeld => ?_); refine with_tabW cobweblaw03_GridHolds.tab9 cobweblaw03_GridHolds.bits9 (fun HT_ HW_ => ?_)
            generalize w96.drew = w97 at BK995 BK998 BK1003 BK1004 BK1017 HB hHeld ⊢
            refine one_ (i := 0) (N := some 81) #[T, O, O, O, O, O, O, O, O, O, O, O, O, O, O, O, O, O, O, O, O] rfl rfl (one_of HT_.out (by kernel_rfl)) (by decide) (fun K hK => ?_)
            refine goes_ Try.func38 (by kernel_rfl) rfl #[] (by rfl) rfl rfl (by (try simp only [List.map_toArray, List.map_cons, List.map_nil]); first | done | rfl | (simp only [List.length_drop, List.length_take]; rfl)) ?_
            with_reducible refine (cobweblaw03_alive.calls kj12  true _ A82.out).mono ?_
            rintro e w98 ⟨rfl, hb⟩
            refine ⟨_, rfl, ?_⟩
            replace BK995 := kb BK995 hb
            replace BK998 := kb BK998 hb
            replace BK1003 := kb BK1003 hb
            replace BK1004 := kb BK1004 hb
            replace BK1017 := kb BK1017 hb
            replace HB := kB HB hb
            (try clear hb); (try clear hb2); (try clear hk); (try clear hi)
            refine hK.out _ _ ⟨kc BK1017 0, kc BK1017 1, kc BK998 0, kc BK998 1⟩ (fun hHeld => ?_)
            clear hK K
            refine norm_ (a' := ?_) ?_ ?_; rotate_left; focus (show Act.put _ (some 81) _ = _; simp only [Act.put, s1, s2, s3, i64_w, i32_w]; rfl)
            refine pure_ (i := 1) (N := some 82) (v := ?_) (a' := ?_) #[T, T, O, O, O, O, O, O, O, O, O, O, O, O, O, O, O, O, O, O, O] rfl rfl (any_of HT_.out (by kernel_rfl)) (fun _ _ _ h => h) (Or.inl ⟨by rfl, ?_⟩) ?_ ?_; rotate_left; focus (intro w'; go_simp; with_reducible rfl)
            rotate_left; focus (simp only [Act.put, s1, s2, s3, i64_w, i32_w]; rfl)
            refine pure_ (i := 2) (N := some 83) (v := ?_) (a' := ?_) #[T, T, T, O, O, O, O, O, O, O, O, O, O, O, O, O, O, O, O, O, O] rfl rfl (any_of HT_.out (by kernel_rfl)) (fun _ _ _ h => h) (Or.inl ⟨by rfl, ?_⟩) ?_ ?_; rotate_left; focus (intro w'; go_simp; with_reducible rfl)
            rotate_left; focus (simp only [Act.put, s1, s2, s3, i64_w, i32_w]; rfl)
            refine pure_ (i := 3) (N := some 84) (v := ?_) (a' := ?_) #[T, T, T, T, O, O, O, O, O, O, O, O, O, O, O, O, O, O, O, O, O] rfl rfl (any_of HT_.out (by kernel_rfl)) (fun _ _ _ h => h) (Or.inl ⟨by rfl, ?_⟩) ?_ ?_; rotate_left; focus (intro w'; go_simp; with_reducible rfl)
            rotate_left; focus (simp only [Act.put, s1, s2, s3, i64_w, i32_w]; rfl)
            refine pure_ (i := 4) (N := some 85) (v := ?_) (a' := ?_) #[T, T, T, T, T, O, O, O, O, O, O, O, O, O, O, O, O, O, O, O, O] rfl rfl (any_of HT_.out (by kernel_rfl)) (fun _ _ _ h => h) (Or.inl ⟨by rfl, ?_⟩) ?_ ?_; rotate_left; focus (intro w'; go_simp; with_reducible rfl)
            rotate_left; focus (simp only [Act.put, s1, s2, s3, i64_w, i32_w]; rfl)
            refine take_ (i := 5) (N := some 86) (v := ?_) (a' := ?_) #[T, T, T, T, T, T, O, O, O, O, O, O, O, O, O, O, O, O, O, O, O] rfl rfl (take_ofW HT_.out HW_.out (by kernel_rfl)) (fun _ _ _ h => h) (Or.inl ⟨by rfl, ?_⟩) hHeld ?_ ?_; rotate_left; focus (rintro w' ⟨s0, s1, s2, s3⟩; go_simp; with_reducible rfl)
            rotate_left; focus (simp only [Act.put, s1, s2, s3, i64_w, i32_w]; rfl)
            refine take_ (i := 6) (N := some 87) (v := ?_) (a' := ?_) #[T, T, T, T, T, T, T, O, O, O, O, O, O, O, O, O, O, O, O, O, O] rfl rfl (take_ofW HT_.out HW_.out (by kernel_rfl)) (fun _ _ _ h => h) (Or.inl ⟨by rfl, ?_⟩) hHeld ?_ ?_; rotate_left; focus (rintro w' ⟨s0, s1, s2, s3⟩; go_simp; with_reducible rfl)
            rotate_left; focus (simp only [Act.put, s1, s2, s3, i64_w, i32_w]; rfl)
            refine pure_ (i := 7) (N := some 88) (v := ?_) (a' := ?_) #[T, T, T, T, T, T, T, T, O, O, O, O, O, O, O, O, O, O, O, O, O] rfl rfl (any_of HT_.out (by kernel_rfl)) (fun _ _ _ h => h) (Or.inl ⟨by rfl, ?_⟩) ?_ ?_; rotate_left; focus (intro w'; go_simp; with_reducible rfl)
            rotate_left; focus (simp only [Act.put, s1, s2, s3, i64_w, i32_w]; rfl)
            refine pure_ (i := 8) (N := some 89) (v := ?_) (a' := ?_) #[T, T, T, T, T, T, T, T, T, O, O, O, O, O, O, O, O, O, O, O, O] rfl rfl (any_of HT_.out (by kernel_rfl)) (fun _ _ _ h => h) (Or.inl ⟨by rfl, ?_⟩) ?_ ?_; rotate_left; focus (intro w'; go_simp; with_reducible rfl)
            rotate_left; focus (simp only [Act.put, s1, s2, s3, i64_w, i32_w]; rfl)
            refine pure_ (i := 9) (N := some 90) (v := ?_) (a' := ?_) #[T, T, T, T, T, T, T, T, T, T, O, O, O, O, O, O, O, O, O, O, O] rfl rfl (any_of HT_.out (by kernel_rfl)) (fun _ _ _ h => h) (Or.inl ⟨by rfl, ?_⟩) ?_ ?_; rotate_left; focus (intro w'; go_simp; with_reducible rfl)
            rotate_left; focus (simp only [Act.put, s1, s2, s3, i64_w, i32_w]; rfl)
            refine pure_ (i := 10) (N := some 91) (v := ?_) (a' := ?_) #[T, T, T, T, T, T, T, T, T, T, T, O, O, O, O, O, O, O, O, O, O] rfl rfl (any_of HT_.out (by kernel_rfl)) (fun _ _ _ h => h) (Or.inl ⟨by rfl, ?_⟩) ?_ ?_; rotate_left; focus (intro w'; go_simp; with_reducible rfl)
            rotate_left; focus (simp only [Act.put, s1, s2, s3, i64_w, i32_w]; rfl)
            refine pure_ (i := 11) (N := some 92) (v := ?_) (a' := ?_) #[T, T, T, T, T, T, T, T, T, T, T, T, O, O, O, O, O, O, O, O, O] rfl rfl (any_of HT_.out (by kernel_rfl)) (fun _ _ _ h => h) (Or.inl ⟨by rfl, ?_⟩) ?_ ?_; rotate_left; focus (intro w'; go_simp; with_reducible rfl)
            rotate_left; focus (simp only [Act.put, s1, s2, s3, i64_w, i32_w]; rfl)
            refine pure_ (i := 12) (N := some 93) (v := ?_) (a' := ?_) #[T, T, T, T, T, T, T, T, T, T, T, T, T, O, O, O, O, O, O, O, O] rfl rfl (any_of HT_.out (by kernel_rfl)) (fun _ _ _ h => h) (Or.inl ⟨by rfl, ?_⟩) ?_ ?_; rotate_left; focus (intro w'; go_simp; with_reducible rfl)
            rotate_left; focus (simp only [Act.put, s1, s2, s3, i64_w, i32_w]; rfl)
            refine pure_ (i := 13) (N := some 94) (v := undef) (a' := ?_) #[T, T, T, T, T, T, T, T, T, T, T, T, T, T, O, O, O, O, O, O, O] rfl rfl (any_of HT_.out (by kernel_rfl)) (fun _ _ _ h => h) (Or.inr ⟨by rfl, rfl⟩) ?_ ?_; rotate_left; focus (simp only [Act.put, s1, s2, s3, i64_w, i32_w]; rfl)
            refine pure_ (i := 14) (N := some 95) (v := undef) (a' := ?_) #[T, T, T, T, T, T, T, T, T, T, T, T, T, T, T, O, O, O, O, O, O] rfl rfl (any_of HT_.out (by kernel_rfl)) (fun _ _ _ h => h) (Or.inr ⟨by rfl, rfl⟩) ?_ ?_; rotate_left; focus (simp only [Act.put, s1, s2, s3, i64_w, i32_w]; rfl)
            refine pure_ (i := 15) (N := some 96) (v := undef) (a' := ?_) #[T, T, T, T, T, T, T, T, T, T, T, T, T, T, T, T, O, O, O, O, O] rfl rfl (any_of HT_.out (by kernel_rfl)) (fun _ _ _ h => h) (Or.inr ⟨by rfl, rfl⟩) ?_ ?_; rotate_left; focus (simp only [Act.put, s1, s2, s3, i64_w, i32_w]; rfl)
            refine pure_ (i := 16) (N := some 97) (v := undef) (a' := ?_) #[T, T, T, T, T, T, T, T, T, T, T, T, T, T, T, T, T, O, O, O, O] rfl rfl (any_of HT_.out (by kernel_rfl)) (fun _ _ _ h => h) (Or.inr ⟨by rfl, rfl⟩) ?_ ?_; rotate_left; focus (simp only [Act.put, s1, s2, s3, i64_w, i32_w]; rfl)
            refine pure_ (i := 17) (N := some 98) (v := undef) (a' := ?_) #[T, T, T, T, T, T, T, T, T, T, T, T, T, T, T, T, T, T, O, O, O] rfl rfl (any_of HT_.out (by kernel_rfl)) (fun _ _ _ h => h) (Or.inr ⟨by rfl, rfl⟩) ?_ ?_; rotate_left; focus (simp only [Act.put, s1, s2, s3, i64_w, i32_w]; rfl)
            refine pure_ (i := 18) (N := some 99) (v := ?_) (a' := ?_) #[T, T, T, T, T, T, T, T, T, T, T, T, T, T, T, T, T, T, T, O, O] rfl rfl (any_of HT_.out (by kernel_rfl)) (fun _ _ _ h => h) (Or.inl ⟨by rfl, ?_⟩) ?_ ?_; rotate_left; focus (intro w'; go_simp; with_reducible rfl)
            rotate_left; focus (simp only [Act.put, s1, s2, s3, i64_w, i32_w]; rfl)
            refine pure_ (i := 19) (N := some 100) (v := ?_) (a' := ?_) #[T, T, T, T, T, T, T, T, T, T, T, T, T, T, T, T, T, T, T, T, O] rfl rfl (any_of HT_.out (by kernel_rfl)) (fun _ _ _ h => h) (Or.inl ⟨by rfl, ?_⟩) ?_ ?_; rotate_left; focus (intro w'; go_simp; with_reducible rfl)
            rotate_left; focus (simp only [Act.put, s1, s2, s3, i64_w, i32_w]; rfl)
            refine pure_ (i := 20) (N := some 6) (v := ?_) (a' := ?_) #[T, T, T, T, T, T, T, T, T, T, T, T, T, T, T, T, T, T, T, T, T] rfl rfl (any_of HT_.out (by kernel_rfl)) (fun _ _ _ h => h) (Or.inl ⟨by rfl, ?_⟩) ?_ ?_; rotate_left; focus (intro w'; go_simp; with_reducible rfl)
            rotate_left; focus (simp only [Act.put, s1, s2, s3, i64_w, i32_w]; rfl)
            refine done_ (done_of HT_.out (by kernel_rfl)) ?_
            try go_wp2
            go_ret
            exact ⟨by first | rfl | (simp [errW_none, errW_some] <;> rfl) | (simp [*, errW_none, errW_some] <;> rfl), ky HB⟩
          rw [if_neg c86] at H
          have c86b0 : decide (0 < a2) = false := decide_eq_false c86
          clear c86
          replace H := Option.bind_eq_some_iff.mp H
          obtain ⟨⟨t1019, t1020⟩, A990, H⟩ := H
          replace H : (some (t1019 == a0 && (t1020 == a1))) = some r := H
          have A99 := Aside0.mk A990
          clear A990
          obtain rfl := Option.some.inj H
          try go_wp2_with (first | ((with_reducible refine gate_callee (f := 46) rfl ?_); refine goesL_ (some 74) rfl rfl Try.func46 (by kernel_rfl) rfl #[.int .i64 a0] rfl (by (try simp only [List.map_toArray, List.map_cons, List.map_nil]); first | done | rfl | (simp only [List.length_drop, List.length_take]; rfl)) ?_; (with_reducible refine (frac_Of.calls a0 t1006 t1007 t1008 t1009 _ A79.out).mono ?_); rintro e w100 ⟨rfl, hb⟩; refine ⟨_, rfl, ?_⟩; replace BK995 := kb BK995 hb; replace BK998 := kb BK998 hb; replace BK1003 := kb BK1003 hb; replace BK1004 := kb BK1004 hb; replace HB := kB HB hb; (try clear hb); (try clear hb2); (try clear hk); (try clear hi)) | ((with_reducible refine gate_callee (f := 46) rfl ?_); refine goesL_ (some 76) rfl rfl Try.func46 (by kernel_rfl) rfl #[.int .i64 a1] rfl (by (try simp only [List.map_toArray, List.map_cons, List.map_nil]); first | done | rfl | (simp only [List.length_drop, List.length_take]; rfl)) ?_; (with_reducible refine (frac_Of.calls a1 t1010 t1011 t1012 t1013 _ A80.out).mono ?_); rintro e w101 ⟨rfl, hb⟩; refine ⟨_, rfl, ?_⟩; replace BK995 := kb BK995 hb; replace BK998 := kb BK998 hb; replace BK1003 := kb BK1003 hb; replace BK1004 := kb BK1004 hb; replace HB := kB HB hb; (try clear hb); (try clear hb2); (try clear hk); (try clear hi)) | ((with_reducible refine gate_callee (f := 39) rfl ?_); refine goesL_ (some 78) rfl rfl Try.func39 (by kernel_rfl) rfl #[.agg #[.int .i64 t1006, .int .u64 t1007, .int .i64 t1008, .int .u64 t1009], .agg #[.int .i64 t1010, .int .u64 t1011, .int .i64 t1012, .int .u64 t1013], .int .i64 a2] rfl (by (try simp only [List.map_toArray, List.map_cons, List.map_nil]); first | done | rfl | (simp only [List.length_drop, List.length_take]; rfl)) ?_; (with_reducible refine (grid_At.calls kj12 t1006 t1007 t1008 t1009 t1010 t1011 t1012 t1013 a2 t1014 t1015 true _ A81.out).mono ?_); rintro e w102 ⟨rfl, hb⟩; refine ⟨_, rfl, ?_⟩; replace BK995 := kb BK995 hb; replace BK998 := kb BK998 hb; replace BK1003 := kb BK1003 hb; replace BK1004 := kb BK1004 hb; replace HB := kB HB hb; (try clear hb); (try clear hb2); (try clear hk); (try clear hi)) | ((with_reducible refine gate_dst (N := 11) rfl ?_); refine box_event ?hg (N := 11) ?hd (cs := #[.int .i64 0, .int .i64 0]) (t := 60) ?hr ?_; (case hd => rfl); (case hg => rfl); (case hr => first | (go_simp; done) | (go_simp; rfl)); intro gb1017 hg w103 hbox hb; have BK1017 := Aside0.mk (hbox); have GW1017 := kS HB hg; have GE1017 := kS HB hg; have NB995_1017 := kN BK995 hg; have NB1017_995 := kM BK995 hg; have NB998_1017 := kN BK998 hg; have NB1017_998 := kM BK998 hg; have NB1003_1017 := kN BK1003 hg; have NB1017_1003 := kM BK1003 hg; have NB1004_1017 := kN BK1004 hg; have NB1017_1004 := kM BK1004 hg; replace BK995 := kb BK995 hb; replace BK998 := kb BK998 hb; replace BK1003 := kb BK1003 hb; replace BK1004 := kb BK1004 hb; replace HB := kB HB hb; clear hb hbox hg; have hnb104 := NB1017_995.out; have hnc104 := NB995_1017.out; have hnb105 := NB1017_998.out; have hnc105 := NB998_1017.out; have hnb106 := NB1017_1003.out; have hnc106 := NB1003_1017.out; have hnb107 := NB1017_1004.out; have hnc107 := NB1004_1017.out; have hcz108_0 : w103.cell? ⟨gb1017, 0, none⟩ = some (.int .i64 0) := kc BK1017 0; have hcz108_1 : w103.cell? ⟨gb1017, 1, none⟩ = some (.int .i64 0) := kc BK1017 1; have hfz108_0 := blk_frozen BK1017.out 0; have hfz108_1 := blk_frozen BK1017.out 1))
          have n0_ : Aside0 (((w103.setCell ⟨gb1017, 0, none⟩ (.int .i64 t1014)).setCell ⟨gb1017, 1, none⟩ (.int .i64 t1015)).heap[gb995]? = some (.cells #[.int .i64 a0, .int .i64 a1] 62 (0, 0))) := ⟨kx BK995⟩
          have n1_ : Aside0 (((w103.setCell ⟨gb1017, 0, none⟩ (.int .i64 t1014)).setCell ⟨gb1017, 1, none⟩ (.int .i64 t1015)).heap[gb998]? = some (.cells #[.int .i64 t996, .int .i64 t997] 60 (0, 0))) := ⟨kx BK998⟩
          have n2_ : Aside0 (((w103.setCell ⟨gb1017, 0, none⟩ (.int .i64 t1014)).setCell ⟨gb1017, 1, none⟩ (.int .i64 t1015)).heap[gb1003]? = some (.cells #[.int .i64 t999, .int .i64 t1000] 62 (0, 0))) := ⟨kx BK1003⟩
          have n3_ : Aside0 (((w103.setCell ⟨gb1017, 0, none⟩ (.int .i64 t1014)).setCell ⟨gb1017, 1, none⟩ (.int .i64 t1015)).heap[gb1004]? = some (.cells #[.int .i64 t1001, .int .i64 t1002] 62 (0, 0))) := ⟨kx BK1004⟩
          have n4_ : Aside0 (((w103.setCell ⟨gb1017, 0, none⟩ (.int .i64 t1014)).setCell ⟨gb1017, 1, none⟩ (.int .i64 t1015)).heap[gb1017]? = some (.cells #[.int .i64 t1014, .int .i64 t1015] 60 (0, 0))) := ⟨by (with_reducible repeat (first | refine blk_drewN ?_ _ | refine blk_drew ?_ | refine blk_alloc ?_ _)); refine blk_put (cs := #[.int .i64 t1014, .int .i64 0]) ?_ 1 _ rfl; (with_reducible repeat (first | refine blk_drewN ?_ _ | refine blk_drew ?_ | refine blk_alloc ?_ _)); refine blk_put (cs := #[.int .i64 0, .int .i64 0]) ?_ 0 _ rfl; (with_reducible repeat (first | refine blk_drewN ?_ _ | refine blk_drew ?_ | refine blk_alloc ?_ _)); exact BK1017.out⟩
          have n5_ : Aside0 (Below w.heap.size w ((w103.setCell ⟨gb1017, 0, none⟩ (.int .i64 t1014)).setCell ⟨gb1017, 1, none⟩ (.int .i64 t1015))) := ⟨ky HB⟩
          (try clear BK995); (try clear BK998); (try clear BK1003); (try clear BK1004); (try clear BK1017); (try clear HB)
          generalize ((w103.setCell ⟨gb1017, 0, none⟩ (.int .i64 t1014)).setCell ⟨gb1017, 1, none⟩ (.int .i64 t1015)) = w109 at n0_ n1_ n2_ n3_ n4_ n5_ ⊢
          have BK995 := n0_; have BK998 := n1_; have BK1003 := n2_; have BK1004 := n3_; have BK1017 := n4_; have HB := n5_
          clear n0_ n1_ n2_ n3_ n4_ n5_
          replace BK995 := Aside0.mk (blk_drew BK995.out)
          replace BK998 := Aside0.mk (blk_drew BK998.out)
          replace BK1003 := Aside0.mk (blk_drew BK1003.out)
          replace BK1004 := Aside0.mk (blk_drew BK1004.out)
          replace BK1017 := Aside0.mk (blk_drew BK1017.out)
          replace HB := Aside0.mk (below_drew1 HB.out)
          refine start_ (n := 21) (S := fun w' => w'.cell? ⟨gb1017, 0, none⟩ = some (.int .i64 t1014) ∧ w'.cell? ⟨gb1017, 1, none⟩ = some (.int .i64 t1015) ∧ w'.cell? ⟨gb998, 0, none⟩ = some (.int .i64 t996) ∧ w'.cell? ⟨gb998, 1, none⟩ = some (.int .i64 t997) ∧ w'.cell? ⟨gb995, 0, none⟩ = some (.int .i64 a0) ∧ w'.cell? ⟨gb995, 1, none⟩ = some (.int .i64 a1)) (ds := []) #[O, O, O, O, O, O, O, O, O, O, O, O, O, O, O, O, O, O, O, O, O] (by kernel_rfl) rfl rfl ⟨kc BK1017 0, kc BK1017 1, kc BK998 0, kc BK998 1, kc BK995 0, kc BK995 1⟩ (fun hHeld => ?_); refine with_tabW cobweblaw03_GridHolds.tab9 cobweblaw03_GridHolds.bits9 (fun HT_ HW_ => ?_)
          generalize w109.drew = w110 at BK995 BK998 BK1003 BK1004 BK1017 HB hHeld ⊢
          refine one_ (i := 0) (N := some 81) #[T, O, O, O, O, O, O, O, O, O, O, O, O, O, O, O, O, O, O, O, O] rfl rfl (one_of HT_.out (by kernel_rfl)) (by decide) (fun K hK => ?_)
          refine goes_ Try.func38 (by kernel_rfl) rfl #[] (by rfl) rfl rfl (by (try simp only [List.map_toArray, List.map_cons, List.map_nil]); first | done | rfl | (simp only [List.length_drop, List.length_take]; rfl)) ?_
          with_reducible refine (cobweblaw03_alive.calls kj12  true _ A82.out).mono ?_
          rintro e w111 ⟨rfl, hb⟩
          refine ⟨_, rfl, ?_⟩
          replace BK995 := kb BK995 hb
          replace BK998 := kb BK998 hb
          replace BK1003 := kb BK1003 hb
          replace BK1004 := kb BK1004 hb
          replace BK1017 := kb BK1017 hb
          replace HB := kB HB hb
          (try clear hb); (try clear hb2); (try clear hk); (try clear hi)
          refine hK.out _ _ ⟨kc BK1017 0, kc BK1017 1, kc BK998 0, kc BK998 1, kc BK995 0, kc BK995 1⟩ (fun hHeld => ?_)
          clear hK K
          refine norm_ (a' := ?_) ?_ ?_; rotate_left; focus (show Act.put _ (some 81) _ = _; simp only [Act.put, s1, s2, s3, i64_w, i32_w]; rfl)
          refine pure_ (i := 1) (N := some 82) (v := ?_) (a' := ?_) #[T, T, O, O, O, O, O, O, O, O, O, O, O, O, O, O, O, O, O, O, O] rfl rfl (any_of HT_.out (by kernel_rfl)) (fun _ _ _ h => h) (Or.inl ⟨by rfl, ?_⟩) ?_ ?_; rotate_left; focus (intro w'; go_simp; with_reducible rfl)
          rotate_left; focus (simp only [Act.put, s1, s2, s3, i64_w, i32_w]; rfl)
          refine pure_ (i := 2) (N := some 83) (v := ?_) (a' := ?_) #[T, T, T, O, O, O, O, O, O, O, O, O, O, O, O, O, O, O, O, O, O] rfl rfl (any_of HT_.out (by kernel_rfl)) (fun _ _ _ h => h) (Or.inl ⟨by rfl, ?_⟩) ?_ ?_; rotate_left; focus (intro w'; go_simp; with_reducible rfl)
          rotate_left; focus (simp only [Act.put, s1, s2, s3, i64_w, i32_w]; rfl)
          refine pure_ (i := 3) (N := some 84) (v := ?_) (a' := ?_) #[T, T, T, T, O, O, O, O, O, O, O, O, O, O, O, O, O, O, O, O, O] rfl rfl (any_of HT_.out (by kernel_rfl)) (fun _ _ _ h => h) (Or.inl ⟨by rfl, ?_⟩) ?_ ?_; rotate_left; focus (intro w'; go_simp; with_reducible rfl)
          rotate_left; focus (simp only [Act.put, s1, s2, s3, i64_w, i32_w]; rfl)
          refine pure_ (i := 4) (N := some 85) (v := ?_) (a' := ?_) #[T, T, T, T, T, O, O, O, O, O, O, O, O, O, O, O, O, O, O, O, O] rfl rfl (any_of HT_.out (by kernel_rfl)) (fun _ _ _ h => h) (Or.inl ⟨by rfl, ?_⟩) ?_ ?_; rotate_left; focus (intro w'; go_simp; with_reducible rfl)
          rotate_left; focus (simp only [Act.put, s1, s2, s3, i64_w, i32_w]; rfl)
          refine take_ (i := 5) (N := some 86) (v := ?_) (a' := ?_) #[T, T, T, T, T, T, O, O, O, O, O, O, O, O, O, O, O, O, O, O, O] rfl rfl (take_ofW HT_.out HW_.out (by kernel_rfl)) (fun _ _ _ h => h) (Or.inl ⟨by rfl, ?_⟩) hHeld ?_ ?_; rotate_left; focus (rintro w' ⟨s0, s1, s2, s3, s4, s5⟩; go_simp; with_reducible rfl)
          rotate_left; focus (simp only [Act.put, s1, s2, s3, i64_w, i32_w]; rfl)
          refine take_ (i := 6) (N := some 87) (v := ?_) (a' := ?_) #[T, T, T, T, T, T, T, O, O, O, O, O, O, O, O, O, O, O, O, O, O] rfl rfl (take_ofW HT_.out HW_.out (by kernel_rfl)) (fun _ _ _ h => h) (Or.inl ⟨by rfl, ?_⟩) hHeld ?_ ?_; rotate_left; focus (rintro w' ⟨s0, s1, s2, s3, s4, s5⟩; go_simp; with_reducible rfl)
          rotate_left; focus (simp only [Act.put, s1, s2, s3, i64_w, i32_w]; rfl)
          refine pure_ (i := 7) (N := some 88) (v := ?_) (a' := ?_) #[T, T, T, T, T, T, T, T, O, O, O, O, O, O, O, O, O, O, O, O, O] rfl rfl (any_of HT_.out (by kernel_rfl)) (fun _ _ _ h => h) (Or.inl ⟨by rfl, ?_⟩) ?_ ?_; rotate_left; focus (intro w'; go_simp; with_reducible rfl)
          rotate_left; focus (simp only [Act.put, s1, s2, s3, i64_w, i32_w]; rfl)
          refine pure_ (i := 8) (N := some 89) (v := ?_) (a' := ?_) #[T, T, T, T, T, T, T, T, T, O, O, O, O, O, O, O, O, O, O, O, O] rfl rfl (any_of HT_.out (by kernel_rfl)) (fun _ _ _ h => h) (Or.inl ⟨by rfl, ?_⟩) ?_ ?_; rotate_left; focus (intro w'; go_simp; with_reducible rfl)
          rotate_left; focus (simp only [Act.put, s1, s2, s3, i64_w, i32_w]; rfl)
          refine pure_ (i := 9) (N := some 90) (v := ?_) (a' := ?_) #[T, T, T, T, T, T, T, T, T, T, O, O, O, O, O, O, O, O, O, O, O] rfl rfl (any_of HT_.out (by kernel_rfl)) (fun _ _ _ h => h) (Or.inl ⟨by rfl, ?_⟩) ?_ ?_; rotate_left; focus (intro w'; go_simp; with_reducible rfl)
          rotate_left; focus (simp only [Act.put, s1, s2, s3, i64_w, i32_w]; rfl)
          refine pure_ (i := 10) (N := some 91) (v := ?_) (a' := ?_) #[T, T, T, T, T, T, T, T, T, T, T, O, O, O, O, O, O, O, O, O, O] rfl rfl (any_of HT_.out (by kernel_rfl)) (fun _ _ _ h => h) (Or.inl ⟨by rfl, ?_⟩) ?_ ?_; rotate_left; focus (intro w'; go_simp; with_reducible rfl)
          rotate_left; focus (simp only [Act.put, s1, s2, s3, i64_w, i32_w]; rfl)
          refine pure_ (i := 11) (N := some 92) (v := ?_) (a' := ?_) #[T, T, T, T, T, T, T, T, T, T, T, T, O, O, O, O, O, O, O, O, O] rfl rfl (any_of HT_.out (by kernel_rfl)) (fun _ _ _ h => h) (Or.inl ⟨by rfl, ?_⟩) ?_ ?_; rotate_left; focus (intro w'; go_simp; with_reducible rfl)
          rotate_left; focus (simp only [Act.put, s1, s2, s3, i64_w, i32_w]; rfl)
          refine pure_ (i := 12) (N := some 93) (v := ?_) (a' := ?_) #[T, T, T, T, T, T, T, T, T, T, T, T, T, O, O, O, O, O, O, O, O] rfl rfl (any_of HT_.out (by kernel_rfl)) (fun _ _ _ h => h) (Or.inl ⟨by rfl, ?_⟩) ?_ ?_; rotate_left; focus (intro w'; go_simp; with_reducible rfl)
          rotate_left; focus (simp only [Act.put, s1, s2, s3, i64_w, i32_w]; rfl)
          refine pure_ (i := 14) (N := some 95) (v := ?_) (a' := ?_) #[T, T, T, T, T, T, T, T, T, T, T, T, T, O, T, O, O, O, O, O, O] rfl rfl (any_of HT_.out (by kernel_rfl)) (fun _ _ _ h => h) (Or.inl ⟨by rfl, ?_⟩) ?_ ?_; rotate_left; focus (intro w'; go_simp; with_reducible rfl)
          rotate_left; focus (simp only [Act.put, s1, s2, s3, i64_w, i32_w]; rfl)
          refine take_ (i := 13) (N := some 94) (v := ?_) (a' := ?_) #[T, T, T, T, T, T, T, T, T, T, T, T, T, T, T, O, O, O, O, O, O] rfl rfl (take_ofW HT_.out HW_.out (by kernel_rfl)) (fun _ _ _ h => h) (Or.inl ⟨by rfl, ?_⟩) hHeld ?_ ?_; rotate_left; focus (rintro w' ⟨s0, s1, s2, s3, s4, s5⟩; go_simp; with_reducible rfl)
          rotate_left; focus (simp only [Act.put, s1, s2, s3, i64_w, i32_w]; rfl)
          refine take_ (i := 16) (N := some 97) (v := ?_) (a' := ?_) #[T, T, T, T, T, T, T, T, T, T, T, T, T, T, T, O, T, O, O, O, O] rfl rfl (take_ofW HT_.out HW_.out (by kernel_rfl)) (fun _ _ _ h => h) (Or.inl ⟨by rfl, ?_⟩) hHeld ?_ ?_; rotate_left; focus (rintro w' ⟨s0, s1, s2, s3, s4, s5⟩; go_simp; with_reducible rfl)
          rotate_left; focus (simp only [Act.put, s1, s2, s3, i64_w, i32_w]; rfl)
          refine one_ (i := 15) (N := some 96) #[T, T, T, T, T, T, T, T, T, T, T, T, T, T, T, T, T, O, O, O, O] rfl rfl (one_of HT_.out (by kernel_rfl)) (by decide) (fun K hK => ?_)
          refine goes_ Try.func41 (by kernel_rfl) rfl #[.agg #[.int .i64 t996, .int .i64 t997], .int .i64 a2] (by rfl) rfl rfl (by (try simp only [List.map_toArray, List.map_cons, List.map_nil]); first | done | rfl | (simp only [List.length_drop, List.length_take]; rfl)) ?_
          with_reducible refine (grid_Center.calls t996 t997 a2 t1019 t1020 _ A99.out).mono ?_
          rintro e w112 ⟨rfl, hb⟩
          refine ⟨_, rfl, ?_⟩
          replace BK995 := kb BK995 hb
          replace BK998 := kb BK998 hb
          replace BK1003 := kb BK1003 hb
          replace BK1004 := kb BK1004 hb
          replace BK1017 := kb BK1017 hb
          replace HB := kB HB hb
          (try clear hb); (try clear hb2); (try clear hk); (try clear hi)
          refine hK.out _ _ ⟨kc BK1017 0, kc BK1017 1, kc BK998 0, kc BK998 1, kc BK995 0, kc BK995 1⟩ (fun hHeld => ?_)
          clear hK K
          refine norm_ (a' := ?_) ?_ ?_; rotate_left; focus (show Act.put _ (some 96) _ = _; simp only [Act.put, s1, s2, s3, i64_w, i32_w]; rfl)
          refine pure_ (i := 17) (N := some 98) (v := ?_) (a' := ?_) #[T, T, T, T, T, T, T, T, T, T, T, T, T, T, T, T, T, T, O, O, O] rfl rfl (any_of HT_.out (by kernel_rfl)) (fun _ _ _ h => h) (Or.inl ⟨by rfl, ?_⟩) ?_ ?_; rotate_left; focus (intro w'; go_simp; with_reducible rfl)
          rotate_left; focus (simp only [Act.put, s1, s2, s3, i64_w, i32_w]; rfl)
          refine pure_ (i := 18) (N := some 99) (v := ?_) (a' := ?_) #[T, T, T, T, T, T, T, T, T, T, T, T, T, T, T, T, T, T, T, O, O] rfl rfl (any_of HT_.out (by kernel_rfl)) (fun _ _ _ h => h) (Or.inl ⟨by rfl, ?_⟩) ?_ ?_; rotate_left; focus (intro w'; go_simp; with_reducible rfl)
          rotate_left; focus (simp only [Act.put, s1, s2, s3, i64_w, i32_w]; rfl)
          refine pure_ (i := 19) (N := some 100) (v := ?_) (a' := ?_) #[T, T, T, T, T, T, T, T, T, T, T, T, T, T, T, T, T, T, T, T, O] rfl rfl (any_of HT_.out (by kernel_rfl)) (fun _ _ _ h => h) (Or.inl ⟨by rfl, ?_⟩) ?_ ?_; rotate_left; focus (intro w'; go_simp; with_reducible rfl)
          rotate_left; focus (simp only [Act.put, s1, s2, s3, i64_w, i32_w]; rfl)
          refine pure_ (i := 20) (N := some 6) (v := ?_) (a' := ?_) #[T, T, T, T, T, T, T, T, T, T, T, T, T, T, T, T, T, T, T, T, T] rfl rfl (any_of HT_.out (by kernel_rfl)) (fun _ _ _ h => h) (Or.inl ⟨by rfl, ?_⟩) ?_ ?_; rotate_left; focus (intro w'; go_simp; with_reducible rfl)
          rotate_left; focus (simp only [Act.put, s1, s2, s3, i64_w, i32_w]; rfl)
          refine done_ (done_of HT_.out (by kernel_rfl)) ?_
          try go_wp2
          go_ret
          exact ⟨by first | rfl | (simp [errW_none, errW_some] <;> rfl) | (simp [*, errW_none, errW_some] <;> rfl), ky HB⟩
/-- THE ONE PURE STATEMENT of cobweblaw03_GridHolds: yours. -/
def cobweblaw03_GridHolds.Pure : Prop := ∀ (a0 : Int) (a1 : Int) (a2 : Int), (Lit.int .i64 a0).wf = true → (Lit.int .i64 a1).wf = true → (Lit.int .i64 a2).wf = true → ∃ k, cobweblaw03_GridHolds.f k a0 a1 a2 = some true
theorem cobweblaw03_GridHolds.walk (P : cobweblaw03_GridHolds.Pure) (a0 : Int) (a1 : Int) (a2 : Int) (w : World) (w0 : (Lit.int .i64 a0).wf = true) (w1 : (Lit.int .i64 a1).wf = true) (w2 : (Lit.int .i64 a2).wf = true) :
    Calls Try.prog 11 #[.int .i64 a0, .int .i64 a1, .int .i64 a2] w fun e w' => e = .returned (.bool true) ∧ Below w.heap.size w w' := by
  obtain ⟨k, h⟩ := P a0 a1 a2 w0 w1 w2
  refine (cobweblaw03_GridHolds.calls k a0 a1 a2 true w h).mono ?_
  rintro e w' ⟨rfl, hd⟩
  exact ⟨rfl, hd⟩

end Go.Proofs.Ytpjbniihdndlmab.Q
