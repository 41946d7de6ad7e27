-- Printed by wip/pp.sh (a session's own turning of the kit's print) for this seat.
import Derived.Test.YtpjbniihdndlmaaQx0
import Derived.Test.YtpjbniihdndlmaaQx6
import Derived.Test.YtpjbniihdndlmaaQx7
import Derived.Test.YtpjbniihdndlmaaQx27
namespace Go.Proofs.Ytpjbniihdndlmaa.Q
open Go.RowKit Go.Proofs.YtpjbniihdndlmaaW.PrintWords Go.Proofs.YtpjbniihdndlmaaW.PrintLast Go.Proofs.YtpjbniihdndlmaaW.PrintMore
open Go.Proofs.Ytpjbniihdndlmaa.H
attribute [local go_sem] hq_add64 hq_sub64 hq_not64 add64c_nn sub64c_nn sub64c_le
attribute [local go_sem] max2_int min2_int max_two min_two max_three min_three max_four min_four   -- for this text's walks alone
set_option linter.unusedVariables false
set_option linter.unusedSimpArgs false

/-! ### frac_Snap: function 40 -/
def frac_Snap.j0 : Nat → Int → Bool → Int → Int → Int → Int → Option (Int × Int × Bool)
  | 0, _, _, _, _, _, _ => none
  | k + 1, x1, x24, x744000, x744001, x744002, x744003 => if x24 = true then (some (0, 0, false)) else (if x1 = 0 then ((wide_Div.f k x744000 x744001 x744002 x744003).bind fun bt746 => ((frac_up.f k bt746.1 bt746.2.1 bt746.2.2.1 bt746.2.2.2.1 x744002 x744003).bind fun bt753 => (some (bt753.1, bt753.2, true)))) else ((wide_Of.f 1).bind fun bt755 => ((wide_Shl.f k bt755.1 bt755.2 x1).bind fun bt757 => ((frac_Floor.f k x744000 x744001 x744002 x744003).bind fun bt761 => ((wide_Div.f k bt761.1 bt761.2 bt757.1 bt757.2.1).bind fun bt763 => ((frac_up.f k bt763.1 bt763.2.1 bt763.2.2.1 bt763.2.2.2.1 bt757.1 bt757.2.1).bind fun bt770 => (some (bt770.1, bt770.2, true))))))))
def frac_Snap.f (k : Nat) (a0_0 : Int) (a0_1 : Int) (a0_2 : Int) (a0_3 : Int) (a1 : Int) : Option (Int × Int × Bool) := (frac_Right.f a0_0 a0_1 a0_2 a0_3).bind fun t745 => (if t745 = true then (if a1 < 0 then (frac_Snap.j0 k a1 true a0_0 a0_1 a0_2 a0_3) else (frac_Snap.j0 k a1 (decide (a1 > 100)) a0_0 a0_1 a0_2 a0_3)) else (frac_Snap.j0 k a1 true a0_0 a0_1 a0_2 a0_3))
theorem frac_Snap.mono_l : ∀ k, (∀ y0 y1 y2 y3 y4 y5, LeO (frac_Snap.j0 k y0 y1 y2 y3 y4 y5) (frac_Snap.j0 (k + 1) y0 y1 y2 y3 y4 y5))
  | 0 => fun _ _ _ _ _ _ r h => by simp [frac_Snap.j0] at h
  | k + 1 => by
    have ih0 := frac_Snap.mono_l k
    · intro y0 y1 y2 y3 y4 y5
      unfold frac_Snap.j0
      repeat' first
      | (with_reducible exact ih0 _ _ _ _ _ _)
      | (with_reducible exact frac_Floor.mono _ _ _ _ _)
      | (with_reducible exact frac_up.mono _ _ _ _ _ _ _)
      | (with_reducible exact wide_Div.mono _ _ _ _ _)
      | (with_reducible exact wide_Shl.mono _ _ _ _)
      | (with_reducible exact LeO.refl _)
      | (with_reducible exact LeO.none _)
      | (with_reducible refine LeO.ite ?_ ?_)
      | (with_reducible refine LeO.bind ?_ (fun _ => ?_))
      | exact ih0 _ _ _ _ _ _
      | exact frac_Floor.mono _ _ _ _ _
      | exact frac_up.mono _ _ _ _ _ _ _
      | exact wide_Div.mono _ _ _ _ _
      | exact wide_Shl.mono _ _ _ _
      | exact LeO.none _
      | refine LeO.ite ?_ ?_
      | refine LeO.bind ?_ (fun _ => ?_)
theorem frac_Snap.mono : ∀ a0 a1 a2 a3 a4 k, LeO (frac_Snap.f k a0 a1 a2 a3 a4) (frac_Snap.f (k + 1) a0 a1 a2 a3 a4) := by
  intro a0 a1 a2 a3 a4 k
  have ih0 := frac_Snap.mono_l k
  unfold frac_Snap.f
  repeat' first
      | (with_reducible exact ih0 _ _ _ _ _ _)
      | (with_reducible exact frac_Floor.mono _ _ _ _ _)
      | (with_reducible exact frac_up.mono _ _ _ _ _ _ _)
      | (with_reducible exact wide_Div.mono _ _ _ _ _)
      | (with_reducible exact wide_Shl.mono _ _ _ _)
      | (with_reducible exact LeO.refl _)
      | (with_reducible exact LeO.none _)
      | (with_reducible refine LeO.ite ?_ ?_)
      | (with_reducible refine LeO.bind ?_ (fun _ => ?_))
      | exact ih0 _ _ _ _ _ _
      | exact frac_Floor.mono _ _ _ _ _
      | exact frac_up.mono _ _ _ _ _ _ _
      | exact wide_Div.mono _ _ _ _ _
      | exact wide_Shl.mono _ _ _ _
      | exact LeO.none _
      | refine LeO.ite ?_ ?_
      | refine LeO.bind ?_ (fun _ => ?_)
def frac_Snap.T7 : Bool × List (List Nat × List Nat) := (true, [([], []), ([0], [0]), ([], []), ([1, 2, 1], [1, 2]), ([3], [3]), ([4], [4]), ([4], [4]), ([4], [4]), ([], []), ([], []), ([8, 5, 3, 0, 1, 2, 3, 4, 5, 8, 9], [5, 8]), ([9, 6, 10, 0, 1, 2, 3, 4, 5, 6, 8, 9, 10], [6, 9]), ([7, 11, 0, 1, 2, 3, 4, 5, 6, 7, 8, 9, 10, 11], [7])])
def frac_Snap.B7 : List Nat := [0, 1, 0, 7, 15, 31, 31, 31, 0, 0, 831, 1919, 4095]
theorem frac_Snap.tab7 : rtab .any (opsOf Try.f40 7) = frac_Snap.T7 := by kernel_rfl
theorem frac_Snap.bits7 : waitsOk frac_Snap.T7.2 frac_Snap.B7 = true := by kernel_rfl
set_option maxHeartbeats 8000000 in
set_option maxRecDepth 100000 in
theorem frac_Snap.calls (k : Nat) (a0_0 : Int) (a0_1 : Int) (a0_2 : Int) (a0_3 : Int) (a1 : Int) (r1 : Int) (r2 : Int) (r3 : Bool) (w : World) (h : frac_Snap.f k a0_0 a0_1 a0_2 a0_3 a1 = some (r1, r2, r3)) :
    Calls Try.prog 40 #[.agg #[.int .i64 a0_0, .int .u64 a0_1, .int .i64 a0_2, .int .u64 a0_3], .int .i64 a1] w fun e w' => e = .returned (.tuple #[.agg #[.int .i64 r1, .int .u64 r2], .bool r3]) ∧ Below w.heap.size w w' := by
  have hu62 := Try.underlying62
  have hu24 := Try.underlying24
  have HB := Aside0.mk (Below.refl w.heap.size w)
  have H : ((frac_Right.f a0_0 a0_1 a0_2 a0_3).bind fun t745 => (if t745 = true then (if a1 < 0 then (frac_Snap.j0 k a1 true a0_0 a0_1 a0_2 a0_3) else (frac_Snap.j0 k a1 (decide (a1 > 100)) a0_0 a0_1 a0_2 a0_3)) else (frac_Snap.j0 k a1 true a0_0 a0_1 a0_2 a0_3))) = some (r1, r2, r3) := h
  clear h
  have HC3 := Aside0.mk H
  clear H
  go_enter Try.func40, Try.ntmps40
  go_upto_region 1 with (first | ((with_reducible refine gate_dst (N := 2) rfl ?_); refine box_event ?hg (N := 2) ?hd (cs := #[.int .i64 a0_0, .int .u64 a0_1, .int .i64 a0_2, .int .u64 a0_3]) (t := 62) ?hr ?_; (case hd => rfl); (case hg => rfl); (case hr => first | (go_simp; done) | (go_simp; rfl)); intro gb743 hg w4 hbox hb; have BK743 := Aside0.mk (hbox); have GW743 := kS HB hg; have GE743 := kS HB hg; replace HB := kB HB hb; clear hb hbox hg) | ((with_reducible refine gate_dst (N := 4) rfl ?_); refine box_event ?hg (N := 4) ?hd (cs := #[.int .i64 0, .int .u64 0]) (t := 24) ?hr ?_; (case hd => rfl); (case hg => rfl); (case hr => first | (go_simp; done) | (go_simp; rfl)); intro gb744 hg w5 hbox hb; have BK744 := Aside0.mk (hbox); have GW744 := kS HB hg; have GE744 := kS HB hg; have NB743_744 := kN BK743 hg; have NB744_743 := kM BK743 hg; replace BK743 := kb BK743 hb; replace HB := kB HB hb; clear hb hbox hg))
  (try simp only [Act.put, s1, s2, s3])
  go_cut [24] (fun v24 wc => ∃ (kq : Nat) (x24_2 : Bool), v24 = .bool x24_2 ∧ Aside0 (frac_Snap.j0 kq a1 x24_2 a0_0 a0_1 a0_2 a0_3 = some (r1, r2, r3)) ∧ Aside0 (kq ≤ k) ∧ Aside0 (wc.heap[gb743]? = some (.cells #[.int .i64 a0_0, .int .u64 a0_1, .int .i64 a0_2, .int .u64 a0_3] 62 (0, 0))) ∧ Aside0 (wc.heap[gb744]? = some (.cells #[.int .i64 0, .int .u64 0] 24 (0, 0))) ∧ Aside0 (Below w.heap.size w wc))
  case first =>
    have H := HC3.out; clear HC3
    replace H := Option.bind_eq_some_iff.mp H
    obtain ⟨t745, A60, H⟩ := H
    replace H : (if t745 = true then (if a1 < 0 then (frac_Snap.j0 k a1 true a0_0 a0_1 a0_2 a0_3) else (frac_Snap.j0 k a1 (decide (a1 > 100)) a0_0 a0_1 a0_2 a0_3)) else (frac_Snap.j0 k a1 true a0_0 a0_1 a0_2 a0_3)) = some (r1, r2, r3) := H
    have A6 := Aside0.mk A60
    clear A60
    by_cases c7 : t745 = true
    rotate_left
    · replace c7 := Bool.eq_false_iff.mpr c7
      subst c7
      have H1 : (frac_Snap.j0 k a1 true a0_0 a0_1 a0_2 a0_3) = some (r1, r2, r3) := by rw [if_neg (show ¬ (false = true) by decide)] at H; exact H
      clear H; have H := H1; clear H1
      have H' := Aside0.mk H
      clear H; have hnb15 := NB743_744.out; have hnc15 := NB744_743.out
      have hcz16_0 : w5.cell? ⟨gb743, 0, none⟩ = some (.int .i64 a0_0) := kc BK743 0
      have hcz16_1 : w5.cell? ⟨gb743, 1, none⟩ = some (.int .u64 a0_1) := kc BK743 1
      have hcz16_2 : w5.cell? ⟨gb743, 2, none⟩ = some (.int .i64 a0_2) := kc BK743 2
      have hcz16_3 : w5.cell? ⟨gb743, 3, none⟩ = some (.int .u64 a0_3) := kc BK743 3
      have hfz16_0 := blk_frozen BK743.out 0
      have hfz16_1 := blk_frozen BK743.out 1
      have hfz16_2 := blk_frozen BK743.out 2
      have hfz16_3 := blk_frozen BK743.out 3
      go_wp2_with (first | ((with_reducible refine gate_callee (f := 49) rfl ?_); refine goesL_ (some 15) rfl rfl Try.func49 (by kernel_rfl) rfl #[.agg #[.int .i64 a0_0, .int .u64 a0_1, .int .i64 a0_2, .int .u64 a0_3]] rfl (by (try simp only [List.map_toArray, List.map_cons, List.map_nil]); first | done | rfl | (simp only [List.length_drop, List.length_take]; rfl)) ?_; (with_reducible refine (frac_Right.calls a0_0 a0_1 a0_2 a0_3 false _ A6.out).mono ?_); rintro e w17 ⟨rfl, hb⟩; refine ⟨_, rfl, ?_⟩; replace BK743 := kb BK743 hb; replace BK744 := kb BK744 hb; replace HB := kB HB hb; (try clear hb); (try clear hb2); (try clear hk); (try clear hi)))
      go_meet
      case rel => exact ⟨_, (true), (by first | rfl | (simp; done) | (simp [*]; done)), H', ⟨by first | omega | exact Nat.le_refl _⟩, ⟨kx BK743⟩, ⟨kx BK744⟩, ⟨ky HB⟩⟩
    subst c7
    have H1 : (if a1 < 0 then (frac_Snap.j0 k a1 true a0_0 a0_1 a0_2 a0_3) else (frac_Snap.j0 k a1 (decide (a1 > 100)) a0_0 a0_1 a0_2 a0_3)) = some (r1, r2, r3) := by rw [if_pos rfl] at H; exact H
    clear H; have H := H1; clear H1
    by_cases c8 : a1 < 0
    · rw [if_pos c8] at H
      have c8b0 : decide (a1 < 0) = true := decide_eq_true c8
      clear c8
      (first | rw [c8b0] | (simp only [i64_w, i32_w]; rw [c8b0]) | skip)
      have H' := Aside0.mk H
      clear H; have hnb9 := NB743_744.out; have hnc9 := NB744_743.out
      have hcz10_0 : w5.cell? ⟨gb743, 0, none⟩ = some (.int .i64 a0_0) := kc BK743 0
      have hcz10_1 : w5.cell? ⟨gb743, 1, none⟩ = some (.int .u64 a0_1) := kc BK743 1
      have hcz10_2 : w5.cell? ⟨gb743, 2, none⟩ = some (.int .i64 a0_2) := kc BK743 2
      have hcz10_3 : w5.cell? ⟨gb743, 3, none⟩ = some (.int .u64 a0_3) := kc BK743 3
      have hfz10_0 := blk_frozen BK743.out 0
      have hfz10_1 := blk_frozen BK743.out 1
      have hfz10_2 := blk_frozen BK743.out 2
      have hfz10_3 := blk_frozen BK743.out 3
      go_wp2_with (first | ((with_reducible refine gate_callee (f := 49) rfl ?_); refine goesL_ (some 15) rfl rfl Try.func49 (by kernel_rfl) rfl #[.agg #[.int .i64 a0_0, .int .u64 a0_1, .int .i64 a0_2, .int .u64 a0_3]] rfl (by (try simp only [List.map_toArray, List.map_cons, List.map_nil]); first | done | rfl | (simp only [List.length_drop, List.length_take]; rfl)) ?_; (with_reducible refine (frac_Right.calls a0_0 a0_1 a0_2 a0_3 true _ A6.out).mono ?_); rintro e w11 ⟨rfl, hb⟩; refine ⟨_, rfl, ?_⟩; replace BK743 := kb BK743 hb; replace BK744 := kb BK744 hb; replace HB := kB HB hb; (try clear hb); (try clear hb2); (try clear hk); (try clear hi)))
      go_meet
      case rel => exact ⟨_, (true), (by first | rfl | (simp; done) | (simp [*]; done)), H', ⟨by first | omega | exact Nat.le_refl _⟩, ⟨kx BK743⟩, ⟨kx BK744⟩, ⟨ky HB⟩⟩
    rw [if_neg c8] at H
    have c8b0 : decide (a1 < 0) = false := decide_eq_false c8
    clear c8
    (first | rw [c8b0] | (simp only [i64_w, i32_w]; rw [c8b0]) | skip)
    have H' := Aside0.mk H
    clear H; have hnb12 := NB743_744.out; have hnc12 := NB744_743.out
    have hcz13_0 : w5.cell? ⟨gb743, 0, none⟩ = some (.int .i64 a0_0) := kc BK743 0
    have hcz13_1 : w5.cell? ⟨gb743, 1, none⟩ = some (.int .u64 a0_1) := kc BK743 1
    have hcz13_2 : w5.cell? ⟨gb743, 2, none⟩ = some (.int .i64 a0_2) := kc BK743 2
    have hcz13_3 : w5.cell? ⟨gb743, 3, none⟩ = some (.int .u64 a0_3) := kc BK743 3
    have hfz13_0 := blk_frozen BK743.out 0
    have hfz13_1 := blk_frozen BK743.out 1
    have hfz13_2 := blk_frozen BK743.out 2
    have hfz13_3 := blk_frozen BK743.out 3
    go_wp2_with (first | ((with_reducible refine gate_callee (f := 49) rfl ?_); refine goesL_ (some 15) rfl rfl Try.func49 (by kernel_rfl) rfl #[.agg #[.int .i64 a0_0, .int .u64 a0_1, .int .i64 a0_2, .int .u64 a0_3]] rfl (by (try simp only [List.map_toArray, List.map_cons, List.map_nil]); first | done | rfl | (simp only [List.length_drop, List.length_take]; rfl)) ?_; (with_reducible refine (frac_Right.calls a0_0 a0_1 a0_2 a0_3 true _ A6.out).mono ?_); rintro e w14 ⟨rfl, hb⟩; refine ⟨_, rfl, ?_⟩; replace BK743 := kb BK743 hb; replace BK744 := kb BK744 hb; replace HB := kB HB hb; (try clear hb); (try clear hb2); (try clear hk); (try clear hi)))
    go_meet
    case rel => exact ⟨_, (decide (a1 > 100)), (by first | rfl | (simp; done) | (simp [*]; done)), H', ⟨by first | omega | exact Nat.le_refl _⟩, ⟨kx BK743⟩, ⟨kx BK744⟩, ⟨ky HB⟩⟩
  case rest =>
    clear HC3; try clear c1; try clear p2; try clear c4; try clear c7; try clear c8; try clear c8b0; try clear c9; try clear c12; try clear c15; try clear hcz10_0; try clear hcz10_1; try clear hcz10_2; try clear hcz10_3; try clear hcz13_0; try clear hcz13_1; try clear hcz13_2; try clear hcz13_3; try clear hcz16_0; try clear hcz16_1; try clear hcz16_2; try clear hcz16_3; try clear hfz10_0; try clear hfz10_1; try clear hfz10_2; try clear hfz10_3; try clear hfz13_0; try clear hfz13_1; try clear hfz13_2; try clear hfz13_3; try clear hfz16_0; try clear hfz16_1; try clear hfz16_2; try clear hfz16_3
    obtain ⟨kq, x24_2, rfl, HA, HJ2, BK743, BK744, HB⟩ := hcut
    cases kq with
    | zero => exact absurd HA.out (by simp [frac_Snap.j0])
    | succ kj2 =>
      have H := HA.out; clear HA
      simp only [frac_Snap.j0] at H
      by_cases c18 : x24_2 = true
      · subst c18
        have H1 : (some (0, 0, false)) = some (r1, r2, r3) := by rw [if_pos rfl] at H; exact H
        clear H; have H := H1; clear H1
        simp only [Option.some.injEq, Prod.mk.injEq] at H
        obtain ⟨rfl, rfl, rfl⟩ := H
        have hnb19 := NB744_743.out; have hnc19 := NB743_744.out
        have hcz20_0 : wc.cell? ⟨gb744, 0, none⟩ = some (.int .i64 0) := kc BK744 0
        have hcz20_1 : wc.cell? ⟨gb744, 1, none⟩ = some (.int .u64 0) := kc BK744 1
        have hfz20_0 := blk_frozen BK744.out 0
        have hfz20_1 := blk_frozen BK744.out 1
        go_wp2
        refine bodyPost_ret (results_ct rfl _ _ gb744 24 #[.int .i64 0, .int .u64 0] (0, 0) _ rfl (by (with_reducible repeat (first | refine blk_drewN ?_ _ | refine blk_drew ?_ | refine blk_alloc ?_ _)); refine blk_put (cs := #[.int .i64 0, .int .u64 0]) ?_ 1 _ rfl; (with_reducible repeat (first | refine blk_drewN ?_ _ | refine blk_drew ?_ | refine blk_alloc ?_ _)); refine blk_put (cs := #[.int .i64 0, .int .u64 0]) ?_ 0 _ rfl; (with_reducible repeat (first | refine blk_drewN ?_ _ | refine blk_drew ?_ | refine blk_alloc ?_ _)); exact BK744.out) Try.underlying24 rfl (by kernel_rfl)) rfl ?_
        exact ⟨by first | rfl | (simp [errW_none, errW_some] <;> rfl) | (simp [*, errW_none, errW_some] <;> rfl), ky HB⟩
      replace c18 := Bool.eq_false_iff.mpr c18
      subst c18
      have H1 : (if a1 = 0 then ((wide_Div.f kj2 a0_0 a0_1 a0_2 a0_3).bind fun bt746 => ((frac_up.f kj2 bt746.1 bt746.2.1 bt746.2.2.1 bt746.2.2.2.1 a0_2 a0_3).bind fun bt753 => (some (bt753.1, bt753.2, true)))) else ((wide_Of.f 1).bind fun bt755 => ((wide_Shl.f kj2 bt755.1 bt755.2 a1).bind fun bt757 => ((frac_Floor.f kj2 a0_0 a0_1 a0_2 a0_3).bind fun bt761 => ((wide_Div.f kj2 bt761.1 bt761.2 bt757.1 bt757.2.1).bind fun bt763 => ((frac_up.f kj2 bt763.1 bt763.2.1 bt763.2.2.1 bt763.2.2.2.1 bt757.1 bt757.2.1).bind fun bt770 => (some (bt770.1, bt770.2, true)))))))) = some (r1, r2, r3) := by rw [if_neg (show ¬ (false = true) by decide)] at H; exact H
      clear H; have H := H1; clear H1
      by_cases c21 : a1 = 0
      · rw [if_pos c21] at H
        have c21b0 : (a1 == 0) = true := beq_iff_eq.mpr c21
        have c21b1 : (a1 != 0) = false := bne_eq_false_iff_eq.mpr c21
        clear c21
        replace H := Option.bind_eq_some_iff.mp H
        obtain ⟨⟨t746, t747, t748, t749, t750⟩, A220, H⟩ := H
        replace H : ((frac_up.f kj2 t746 t747 t748 t749 a0_2 a0_3).bind fun bt753 => (some (bt753.1, bt753.2, true))) = some (r1, r2, r3) := H
        have A22 := Aside0.mk A220
        clear A220
        replace H := Option.bind_eq_some_iff.mp H
        obtain ⟨⟨t753, t754⟩, A230, H⟩ := H
        replace H : (some (t753, t754, true)) = some (r1, r2, r3) := H
        have A23 := Aside0.mk A230
        clear A230
        simp only [Option.some.injEq, Prod.mk.injEq] at H
        obtain ⟨rfl, rfl, rfl⟩ := H
        have hnb24 := NB743_744.out; have hnc24 := NB744_743.out
        have hcz25_0 : wc.cell? ⟨gb743, 0, none⟩ = some (.int .i64 a0_0) := kc BK743 0
        have hcz25_1 : wc.cell? ⟨gb743, 1, none⟩ = some (.int .u64 a0_1) := kc BK743 1
        have hcz25_2 : wc.cell? ⟨gb743, 2, none⟩ = some (.int .i64 a0_2) := kc BK743 2
        have hcz25_3 : wc.cell? ⟨gb743, 3, none⟩ = some (.int .u64 a0_3) := kc BK743 3
        have hfz25_0 := blk_frozen BK743.out 0
        have hfz25_1 := blk_frozen BK743.out 1
        have hfz25_2 := blk_frozen BK743.out 2
        have hfz25_3 := blk_frozen BK743.out 3
        go_wp2_with (first | ((with_reducible refine gate_callee (f := 27) rfl ?_); refine goesL_ (some 33) rfl rfl Try.func27 (by kernel_rfl) rfl #[.agg #[.int .i64 a0_0, .int .u64 a0_1], .agg #[.int .i64 a0_2, .int .u64 a0_3]] rfl (by (try simp only [List.map_toArray, List.map_cons, List.map_nil]); first | done | rfl | (simp only [List.length_drop, List.length_take]; rfl)) ?_; (with_reducible refine (wide_Div.calls kj2 a0_0 a0_1 a0_2 a0_3 t746 t747 t748 t749 t750 _ A22.out).mono ?_); rintro e w26 ⟨rfl, hb⟩; refine ⟨_, rfl, ?_⟩; replace BK743 := kb BK743 hb; replace BK744 := kb BK744 hb; replace HB := kB HB hb; (try clear hb); (try clear hb2); (try clear hk); (try clear hi)) | ((with_reducible refine gate_dst (N := 6) rfl ?_); refine box_event ?hg (N := 6) ?hd (cs := #[.int .i64 0, .int .u64 0]) (t := 24) ?hr ?_; (case hd => rfl); (case hg => rfl); (case hr => first | (go_simp; done) | (go_simp; rfl)); intro gb751 hg w27 hbox hb; have BK751 := Aside0.mk (hbox); have GW751 := kS HB hg; have GE751 := kS HB hg; have NB743_751 := kN BK743 hg; have NB751_743 := kM BK743 hg; have NB744_751 := kN BK744 hg; have NB751_744 := kM BK744 hg; replace BK743 := kb BK743 hb; replace BK744 := kb BK744 hb; replace HB := kB HB hb; clear hb hbox hg) | ((with_reducible refine gate_dst (N := 7) rfl ?_); refine box_event ?hg (N := 7) ?hd (cs := #[.int .i64 0, .int .u64 0]) (t := 24) ?hr ?_; (case hd => rfl); (case hg => rfl); (case hr => first | (go_simp; done) | (go_simp; rfl)); intro gb752 hg w28 hbox hb; have BK752 := Aside0.mk (hbox); have GW752 := kS HB hg; have GE752 := kS HB hg; have NB743_752 := kN BK743 hg; have NB752_743 := kM BK743 hg; have NB744_752 := kN BK744 hg; have NB752_744 := kM BK744 hg; have NB751_752 := kN BK751 hg; have NB752_751 := kM BK751 hg; replace BK743 := kb BK743 hb; replace BK744 := kb BK744 hb; replace BK751 := kb BK751 hb; replace HB := kB HB hb; clear hb hbox hg; have hnb29 := NB751_743.out; have hnc29 := NB743_751.out; have hnb30 := NB751_744.out; have hnc30 := NB744_751.out; have hnb31 := NB751_752.out; have hnc31 := NB752_751.out; have hcz32_0 : w28.cell? ⟨gb751, 0, none⟩ = some (.int .i64 0) := kc BK751 0; have hcz32_1 : w28.cell? ⟨gb751, 1, none⟩ = some (.int .u64 0) := kc BK751 1; have hfz32_0 := blk_frozen BK751.out 0; have hfz32_1 := blk_frozen BK751.out 1; have hnb33 := NB752_743.out; have hnc33 := NB743_752.out; have hnb34 := NB752_744.out; have hnc34 := NB744_752.out; have hcz35_0 : w28.cell? ⟨gb752, 0, none⟩ = some (.int .i64 0) := kc BK752 0; have hcz35_1 : w28.cell? ⟨gb752, 1, none⟩ = some (.int .u64 0) := kc BK752 1; have hfz35_0 := blk_frozen BK752.out 0; have hfz35_1 := blk_frozen BK752.out 1; have hcz36_0 : w28.cell? ⟨gb743, 0, none⟩ = some (.int .i64 a0_0) := kc BK743 0; have hcz36_1 : w28.cell? ⟨gb743, 1, none⟩ = some (.int .u64 a0_1) := kc BK743 1; have hcz36_2 : w28.cell? ⟨gb743, 2, none⟩ = some (.int .i64 a0_2) := kc BK743 2; have hcz36_3 : w28.cell? ⟨gb743, 3, none⟩ = some (.int .u64 a0_3) := kc BK743 3; have hfz36_0 := blk_frozen BK743.out 0; have hfz36_1 := blk_frozen BK743.out 1; have hfz36_2 := blk_frozen BK743.out 2; have hfz36_3 := blk_frozen BK743.out 3) | ((with_reducible refine gate_callee (f := 75) rfl ?_); refine goesL_ (some 41) rfl rfl Try.func75 (by kernel_rfl) rfl #[.agg #[.int .i64 t746, .int .u64 t747], .agg #[.int .i64 t748, .int .u64 t749], .agg #[.int .i64 a0_2, .int .u64 a0_3]] rfl (by (try simp only [List.map_toArray, List.map_cons, List.map_nil]); first | done | rfl | (simp only [List.length_drop, List.length_take]; rfl)) ?_; (with_reducible refine (frac_up.calls kj2 t746 t747 t748 t749 a0_2 a0_3 t753 t754 _ A23.out).mono ?_); rintro e w37 ⟨rfl, hb⟩; refine ⟨_, rfl, ?_⟩; have n0_ := kb BK743 hb; have n1_ := kb BK744 hb; have n2_ := Aside0.mk (blk_below (g := gb751) (o := .cells #[.int .i64 t746, .int .u64 t747] 24 (0, 0)) (by (with_reducible repeat (first | refine blk_drewN ?_ _ | refine blk_drew ?_ | refine blk_alloc ?_ _)); refine blk_far ?_ NB751_752.out _; (with_reducible repeat (first | refine blk_drewN ?_ _ | refine blk_drew ?_ | refine blk_alloc ?_ _)); refine blk_far ?_ NB751_752.out _; (with_reducible repeat (first | refine blk_drewN ?_ _ | refine blk_drew ?_ | refine blk_alloc ?_ _)); refine blk_put (cs := #[.int .i64 t746, .int .u64 0]) ?_ 1 _ rfl; (with_reducible repeat (first | refine blk_drewN ?_ _ | refine blk_drew ?_ | refine blk_alloc ?_ _)); refine blk_put (cs := #[.int .i64 0, .int .u64 0]) ?_ 0 _ rfl; (with_reducible repeat (first | refine blk_drewN ?_ _ | refine blk_drew ?_ | refine blk_alloc ?_ _)); exact BK751.out) hb); have n3_ := Aside0.mk (blk_below (g := gb752) (o := .cells #[.int .i64 t748, .int .u64 t749] 24 (0, 0)) (by (with_reducible repeat (first | refine blk_drewN ?_ _ | refine blk_drew ?_ | refine blk_alloc ?_ _)); refine blk_put (cs := #[.int .i64 t748, .int .u64 0]) ?_ 1 _ rfl; (with_reducible repeat (first | refine blk_drewN ?_ _ | refine blk_drew ?_ | refine blk_alloc ?_ _)); refine blk_put (cs := #[.int .i64 0, .int .u64 0]) ?_ 0 _ rfl; (with_reducible repeat (first | refine blk_drewN ?_ _ | refine blk_drew ?_ | refine blk_alloc ?_ _)); refine blk_far ?_ NB752_751.out _; (with_reducible repeat (first | refine blk_drewN ?_ _ | refine blk_drew ?_ | refine blk_alloc ?_ _)); refine blk_far ?_ NB752_751.out _; (with_reducible repeat (first | refine blk_drewN ?_ _ | refine blk_drew ?_ | refine blk_alloc ?_ _)); exact BK752.out) hb); have n4_ := kB HB hb; clear BK743; clear BK744; clear BK751; clear BK752; clear HB; have BK743 := n0_; have BK744 := n1_; have BK751 := n2_; have BK752 := n3_; have HB := n4_; clear n0_ n1_ n2_ n3_ n4_; (try clear hb); (try clear hb2); (try clear hk); (try clear hi); have hcz38_0 : w37.cell? ⟨gb744, 0, none⟩ = some (.int .i64 0) := kc BK744 0; have hcz38_1 : w37.cell? ⟨gb744, 1, none⟩ = some (.int .u64 0) := kc BK744 1; have hfz38_0 := blk_frozen BK744.out 0; have hfz38_1 := blk_frozen BK744.out 1))
        refine bodyPost_ret (results_ct rfl _ _ gb744 24 #[.int .i64 t753, .int .u64 t754] (0, 0) _ rfl (by (with_reducible repeat (first | refine blk_drewN ?_ _ | refine blk_drew ?_ | refine blk_alloc ?_ _)); refine blk_put (cs := #[.int .i64 t753, .int .u64 0]) ?_ 1 _ rfl; (with_reducible repeat (first | refine blk_drewN ?_ _ | refine blk_drew ?_ | refine blk_alloc ?_ _)); refine blk_put (cs := #[.int .i64 0, .int .u64 0]) ?_ 0 _ rfl; (with_reducible repeat (first | refine blk_drewN ?_ _ | refine blk_drew ?_ | refine blk_alloc ?_ _)); exact BK744.out) Try.underlying24 rfl (by kernel_rfl)) rfl ?_
        exact ⟨by first | rfl | (simp [errW_none, errW_some] <;> rfl) | (simp [*, errW_none, errW_some] <;> rfl), ky HB⟩
      rw [if_neg c21] at H
      have c21b0 : (a1 == 0) = false := beq_eq_false_iff_ne.mpr c21
      have c21b1 : (a1 != 0) = true := bne_iff_ne.mpr c21
      replace H := Option.bind_eq_some_iff.mp H
      obtain ⟨⟨t755, t756⟩, A390, H⟩ := H
      replace H : ((wide_Shl.f kj2 t755 t756 a1).bind fun bt757 => ((frac_Floor.f kj2 a0_0 a0_1 a0_2 a0_3).bind fun bt761 => ((wide_Div.f kj2 bt761.1 bt761.2 bt757.1 bt757.2.1).bind fun bt763 => ((frac_up.f kj2 bt763.1 bt763.2.1 bt763.2.2.1 bt763.2.2.2.1 bt757.1 bt757.2.1).bind fun bt770 => (some (bt770.1, bt770.2, true)))))) = some (r1, r2, r3) := H
      have A39 := Aside0.mk A390
      clear A390
      replace H := Option.bind_eq_some_iff.mp H
      obtain ⟨⟨t757, t758, t759⟩, A400, H⟩ := H
      replace H : ((frac_Floor.f kj2 a0_0 a0_1 a0_2 a0_3).bind fun bt761 => ((wide_Div.f kj2 bt761.1 bt761.2 t757 t758).bind fun bt763 => ((frac_up.f kj2 bt763.1 bt763.2.1 bt763.2.2.1 bt763.2.2.2.1 t757 t758).bind fun bt770 => (some (bt770.1, bt770.2, true))))) = some (r1, r2, r3) := H
      have A40 := Aside0.mk A400
      clear A400
      replace H := Option.bind_eq_some_iff.mp H
      obtain ⟨⟨t761, t762⟩, A410, H⟩ := H
      replace H : ((wide_Div.f kj2 t761 t762 t757 t758).bind fun bt763 => ((frac_up.f kj2 bt763.1 bt763.2.1 bt763.2.2.1 bt763.2.2.2.1 t757 t758).bind fun bt770 => (some (bt770.1, bt770.2, true)))) = some (r1, r2, r3) := H
      have A41 := Aside0.mk A410
      clear A410
      replace H := Option.bind_eq_some_iff.mp H
      obtain ⟨⟨t763, t764, t765, t766, t767⟩, A420, H⟩ := H
      replace H : ((frac_up.f kj2 t763 t764 t765 t766 t757 t758).bind fun bt770 => (some (bt770.1, bt770.2, true))) = some (r1, r2, r3) := H
      have A42 := Aside0.mk A420
      clear A420
      replace H := Option.bind_eq_some_iff.mp H
      obtain ⟨⟨t770, t771⟩, A430, H⟩ := H
      replace H : (some (t770, t771, true)) = some (r1, r2, r3) := H
      have A43 := Aside0.mk A430
      clear A430
      simp only [Option.some.injEq, Prod.mk.injEq] at H
      obtain ⟨rfl, rfl, rfl⟩ := H
      try go_wp2_with (first | ((with_reducible refine gate_callee (f := 32) rfl ?_); refine goesL_ (some 43) rfl rfl Try.func32 (by kernel_rfl) rfl #[.int .i64 1] rfl (by (try simp only [List.map_toArray, List.map_cons, List.map_nil]); first | done | rfl | (simp only [List.length_drop, List.length_take]; rfl)) ?_; (with_reducible refine (wide_Of.calls 1 t755 t756 _ A39.out).mono ?_); rintro e w44 ⟨rfl, hb⟩; refine ⟨_, rfl, ?_⟩; replace BK743 := kb BK743 hb; replace BK744 := kb BK744 hb; replace HB := kB HB hb; (try clear hb); (try clear hb2); (try clear hk); (try clear hi)) | ((with_reducible refine gate_callee (f := 22) rfl ?_); refine goesL_ (some 45) rfl rfl Try.func22 (by kernel_rfl) rfl #[.agg #[.int .i64 t755, .int .u64 t756], .int .i64 a1] rfl (by (try simp only [List.map_toArray, List.map_cons, List.map_nil]); first | done | rfl | (simp only [List.length_drop, List.length_take]; rfl)) ?_; (with_reducible refine (wide_Shl.calls kj2 t755 t756 a1 t757 t758 t759 _ A40.out).mono ?_); rintro e w45 ⟨rfl, hb⟩; refine ⟨_, rfl, ?_⟩; replace BK743 := kb BK743 hb; replace BK744 := kb BK744 hb; replace HB := kB HB hb; (try clear hb); (try clear hb2); (try clear hk); (try clear hi)) | ((with_reducible refine gate_dst (N := 9) rfl ?_); refine box_event ?hg (N := 9) ?hd (cs := #[.int .i64 0, .int .u64 0]) (t := 24) ?hr ?_; (case hd => rfl); (case hg => rfl); (case hr => first | (go_simp; done) | (go_simp; rfl)); intro gb760 hg w46 hbox hb; have BK760 := Aside0.mk (hbox); have GW760 := kS HB hg; have GE760 := kS HB hg; have NB743_760 := kN BK743 hg; have NB760_743 := kM BK743 hg; have NB744_760 := kN BK744 hg; have NB760_744 := kM BK744 hg; replace BK743 := kb BK743 hb; replace BK744 := kb BK744 hb; replace HB := kB HB hb; clear hb hbox hg; have hnb47 := NB760_743.out; have hnc47 := NB743_760.out; have hnb48 := NB760_744.out; have hnc48 := NB744_760.out; have hcz49_0 : w46.cell? ⟨gb760, 0, none⟩ = some (.int .i64 0) := kc BK760 0; have hcz49_1 : w46.cell? ⟨gb760, 1, none⟩ = some (.int .u64 0) := kc BK760 1; have hfz49_0 := blk_frozen BK760.out 0; have hfz49_1 := blk_frozen BK760.out 1))
      have n0_ : Aside0 (((w46.setCell ⟨gb760, 0, none⟩ (.int .i64 t757)).setCell ⟨gb760, 1, none⟩ (.int .u64 t758)).heap[gb743]? = some (.cells #[.int .i64 a0_0, .int .u64 a0_1, .int .i64 a0_2, .int .u64 a0_3] 62 (0, 0))) := ⟨kx BK743⟩
      have n1_ : Aside0 (((w46.setCell ⟨gb760, 0, none⟩ (.int .i64 t757)).setCell ⟨gb760, 1, none⟩ (.int .u64 t758)).heap[gb744]? = some (.cells #[.int .i64 0, .int .u64 0] 24 (0, 0))) := ⟨kx BK744⟩
      have n2_ : Aside0 (((w46.setCell ⟨gb760, 0, none⟩ (.int .i64 t757)).setCell ⟨gb760, 1, none⟩ (.int .u64 t758)).heap[gb760]? = some (.cells #[.int .i64 t757, .int .u64 t758] 24 (0, 0))) := ⟨by (with_reducible repeat (first | refine blk_drewN ?_ _ | refine blk_drew ?_ | refine blk_alloc ?_ _)); refine blk_put (cs := #[.int .i64 t757, .int .u64 0]) ?_ 1 _ rfl; (with_reducible repeat (first | refine blk_drewN ?_ _ | refine blk_drew ?_ | refine blk_alloc ?_ _)); refine blk_put (cs := #[.int .i64 0, .int .u64 0]) ?_ 0 _ rfl; (with_reducible repeat (first | refine blk_drewN ?_ _ | refine blk_drew ?_ | refine blk_alloc ?_ _)); exact BK760.out⟩
      have n3_ : Aside0 (Below w.heap.size w ((w46.setCell ⟨gb760, 0, none⟩ (.int .i64 t757)).setCell ⟨gb760, 1, none⟩ (.int .u64 t758))) := ⟨ky HB⟩
      (try clear BK743); (try clear BK744); (try clear BK760); (try clear HB)
      generalize ((w46.setCell ⟨gb760, 0, none⟩ (.int .i64 t757)).setCell ⟨gb760, 1, none⟩ (.int .u64 t758)) = w50 at n0_ n1_ n2_ n3_ ⊢
      have BK743 := n0_; have BK744 := n1_; have BK760 := n2_; have HB := n3_
      clear n0_ n1_ n2_ n3_
      replace BK743 := Aside0.mk (blk_drew BK743.out)
      replace BK744 := Aside0.mk (blk_drew BK744.out)
      replace BK760 := Aside0.mk (blk_drew BK760.out)
      replace HB := Aside0.mk (below_drew1 HB.out)
      refine start_ (n := 13) (S := fun w' => w'.cell? ⟨gb743, 0, none⟩ = some (.int .i64 a0_0) ∧ w'.cell? ⟨gb743, 1, none⟩ = some (.int .u64 a0_1) ∧ w'.cell? ⟨gb743, 2, none⟩ = some (.int .i64 a0_2) ∧ w'.cell? ⟨gb743, 3, none⟩ = some (.int .u64 a0_3) ∧ w'.cell? ⟨gb760, 0, none⟩ = some (.int .i64 t757) ∧ w'.cell? ⟨gb760, 1, none⟩ = some (.int .u64 t758)) (ds := []) #[O, O, O, O, O, O, O, O, O, O, O, O, O] (by kernel_rfl) rfl rfl ⟨kc BK743 0, kc BK743 1, kc BK743 2, kc BK743 3, kc BK760 0, kc BK760 1⟩ (fun hHeld => ?_); refine with_tabW frac_Snap.tab7 frac_Snap.bits7 (fun HT_ HW_ => ?_)
      generalize w50.drew = w51 at BK743 BK744 BK760 HB hHeld ⊢
      refine take_ (i := 0) (N := some 49) (v := ?_) (a' := ?_) #[T, O, O, O, O, O, O, O, O, O, O, O, O] rfl rfl (take_ofW HT_.out HW_.out (by kernel_rfl)) (fun _ _ _ h => h) (Or.inl ⟨by rfl, ?_⟩) hHeld ?_ ?_; rotate_left; focus (rintro w' ⟨s0, s1, s2, s3, s4, s5⟩; go_simp; with_reducible rfl)
      rotate_left; focus (simp only [Act.put, s1, s2, s3, i64_w, i32_w]; rfl)
      refine take_ (i := 2) (N := some 51) (v := ?_) (a' := ?_) #[T, O, T, O, O, O, O, O, O, O, O, O, O] rfl rfl (take_ofW HT_.out HW_.out (by kernel_rfl)) (fun _ _ _ h => h) (Or.inl ⟨by rfl, ?_⟩) hHeld ?_ ?_; rotate_left; focus (rintro w' ⟨s0, s1, s2, s3, s4, s5⟩; go_simp; with_reducible rfl)
      rotate_left; focus (simp only [Act.put, s1, s2, s3, i64_w, i32_w]; rfl)
      refine join_ (σ := Nat × Nat) 3 #[T, T, T, T, T, T, T, T, T, T, O, O, O] (fun s_ => [(50, .agg #[.int .i64 t761, .int .u64 t762]), (52, .tuple #[.agg #[.int .i64 t763, .int .u64 t764], .agg #[.int .i64 t765, .int .u64 t766], .bool t767]), (11, .pointer (some ⟨s_.1, 0, none⟩)), (12, .pointer (some ⟨s_.2, 0, none⟩)), (48, .tuple #[.agg #[.int .i64 t763, .int .u64 t764], .agg #[.int .i64 t765, .int .u64 t766], .bool t767]), (53, .agg #[.int .i64 t763, .int .u64 t764]), (54, .agg #[.int .i64 t765, .int .u64 t766]), (55, .bool t767)]) (fun s_ w' => (w'.cell? ⟨gb743, 0, none⟩ = some (.int .i64 a0_0) ∧ w'.cell? ⟨gb743, 1, none⟩ = some (.int .u64 a0_1) ∧ w'.cell? ⟨gb743, 2, none⟩ = some (.int .i64 a0_2) ∧ w'.cell? ⟨gb743, 3, none⟩ = some (.int .u64 a0_3) ∧ w'.cell? ⟨gb760, 0, none⟩ = some (.int .i64 t757) ∧ w'.cell? ⟨gb760, 1, none⟩ = some (.int .u64 t758)) ∧ (w'.heap[gb743]? = some (.cells #[.int .i64 a0_0, .int .u64 a0_1, .int .i64 a0_2, .int .u64 a0_3] 62 (0, 0))) ∧ (w'.heap[gb744]? = some (.cells #[.int .i64 0, .int .u64 0] 24 (0, 0))) ∧ (w'.heap[gb760]? = some (.cells #[.int .i64 t757, .int .u64 t758] 24 (0, 0))) ∧ (w'.heap[s_.1]? = some (.cells #[.int .i64 0, .int .u64 0] 24 (0, 0))) ∧ (w'.heap[s_.2]? = some (.cells #[.int .i64 0, .int .u64 0] 24 (0, 0))) ∧ (w.heap.size ≤ s_.1) ∧ (w.heap.size ≤ s_.1) ∧ (gb743 ≠ s_.1) ∧ (s_.1 ≠ gb743) ∧ (gb744 ≠ s_.1) ∧ (s_.1 ≠ gb744) ∧ (gb760 ≠ s_.1) ∧ (s_.1 ≠ gb760) ∧ (s_.2 ≠ s_.1) ∧ (s_.1 ≠ s_.2) ∧ (w.heap.size ≤ s_.2) ∧ (w.heap.size ≤ s_.2) ∧ (gb743 ≠ s_.2) ∧ (s_.2 ≠ gb743) ∧ (gb744 ≠ s_.2) ∧ (s_.2 ≠ gb744) ∧ (gb760 ≠ s_.2) ∧ (s_.2 ≠ gb760) ∧ (Below w.heap.size w w')) ?_ ?_
      rotate_left
      · intro hJ1_3_8_9
        refine join_ (σ := Nat) 4 #[T, T, T, T, T, T, T, T, T, O, O, O, O] (fun s_ => [(50, .agg #[.int .i64 t761, .int .u64 t762]), (52, .tuple #[.agg #[.int .i64 t763, .int .u64 t764], .agg #[.int .i64 t765, .int .u64 t766], .bool t767]), (11, .pointer (some ⟨s_, 0, none⟩)), (48, .tuple #[.agg #[.int .i64 t763, .int .u64 t764], .agg #[.int .i64 t765, .int .u64 t766], .bool t767]), (53, .agg #[.int .i64 t763, .int .u64 t764]), (54, .agg #[.int .i64 t765, .int .u64 t766]), (55, .bool t767)]) (fun s_ w' => (w'.cell? ⟨gb743, 0, none⟩ = some (.int .i64 a0_0) ∧ w'.cell? ⟨gb743, 1, none⟩ = some (.int .u64 a0_1) ∧ w'.cell? ⟨gb743, 2, none⟩ = some (.int .i64 a0_2) ∧ w'.cell? ⟨gb743, 3, none⟩ = some (.int .u64 a0_3) ∧ w'.cell? ⟨gb760, 0, none⟩ = some (.int .i64 t757) ∧ w'.cell? ⟨gb760, 1, none⟩ = some (.int .u64 t758)) ∧ (w'.heap[gb743]? = some (.cells #[.int .i64 a0_0, .int .u64 a0_1, .int .i64 a0_2, .int .u64 a0_3] 62 (0, 0))) ∧ (w'.heap[gb744]? = some (.cells #[.int .i64 0, .int .u64 0] 24 (0, 0))) ∧ (w'.heap[gb760]? = some (.cells #[.int .i64 t757, .int .u64 t758] 24 (0, 0))) ∧ (w'.heap[s_]? = some (.cells #[.int .i64 0, .int .u64 0] 24 (0, 0))) ∧ (w.heap.size ≤ s_) ∧ (w.heap.size ≤ s_) ∧ (gb743 ≠ s_) ∧ (s_ ≠ gb743) ∧ (gb744 ≠ s_) ∧ (s_ ≠ gb744) ∧ (gb760 ≠ s_) ∧ (s_ ≠ gb760) ∧ (Below w.heap.size w w')) ?_ ?_
        rotate_left
        · intro hJ1_3_8
          refine join_ (σ := Nat) 4 #[T, T, T, T, T, T, T, T, O, T, O, O, O] (fun s_ => [(50, .agg #[.int .i64 t761, .int .u64 t762]), (52, .tuple #[.agg #[.int .i64 t763, .int .u64 t764], .agg #[.int .i64 t765, .int .u64 t766], .bool t767]), (12, .pointer (some ⟨s_, 0, none⟩)), (48, .tuple #[.agg #[.int .i64 t763, .int .u64 t764], .agg #[.int .i64 t765, .int .u64 t766], .bool t767]), (53, .agg #[.int .i64 t763, .int .u64 t764]), (54, .agg #[.int .i64 t765, .int .u64 t766]), (55, .bool t767)]) (fun s_ w' => (w'.cell? ⟨gb743, 0, none⟩ = some (.int .i64 a0_0) ∧ w'.cell? ⟨gb743, 1, none⟩ = some (.int .u64 a0_1) ∧ w'.cell? ⟨gb743, 2, none⟩ = some (.int .i64 a0_2) ∧ w'.cell? ⟨gb743, 3, none⟩ = some (.int .u64 a0_3) ∧ w'.cell? ⟨gb760, 0, none⟩ = some (.int .i64 t757) ∧ w'.cell? ⟨gb760, 1, none⟩ = some (.int .u64 t758)) ∧ (w'.heap[gb743]? = some (.cells #[.int .i64 a0_0, .int .u64 a0_1, .int .i64 a0_2, .int .u64 a0_3] 62 (0, 0))) ∧ (w'.heap[gb744]? = some (.cells #[.int .i64 0, .int .u64 0] 24 (0, 0))) ∧ (w'.heap[gb760]? = some (.cells #[.int .i64 t757, .int .u64 t758] 24 (0, 0))) ∧ (w'.heap[s_]? = some (.cells #[.int .i64 0, .int .u64 0] 24 (0, 0))) ∧ (w.heap.size ≤ s_) ∧ (w.heap.size ≤ s_) ∧ (gb743 ≠ s_) ∧ (s_ ≠ gb743) ∧ (gb744 ≠ s_) ∧ (s_ ≠ gb744) ∧ (gb760 ≠ s_) ∧ (s_ ≠ gb760) ∧ (Below w.heap.size w w')) ?_ ?_
          rotate_left
          · intro hJ1_3_9
            refine join_ (σ := Nat × Nat) 8 #[T, T, T, O, O, O, O, O, T, T, O, O, O] (fun s_ => [(50, .agg #[.int .i64 t761, .int .u64 t762]), (11, .pointer (some ⟨s_.1, 0, none⟩)), (12, .pointer (some ⟨s_.2, 0, none⟩))]) (fun s_ w' => (w'.cell? ⟨gb743, 0, none⟩ = some (.int .i64 a0_0) ∧ w'.cell? ⟨gb743, 1, none⟩ = some (.int .u64 a0_1) ∧ w'.cell? ⟨gb743, 2, none⟩ = some (.int .i64 a0_2) ∧ w'.cell? ⟨gb743, 3, none⟩ = some (.int .u64 a0_3) ∧ w'.cell? ⟨gb760, 0, none⟩ = some (.int .i64 t757) ∧ w'.cell? ⟨gb760, 1, none⟩ = some (.int .u64 t758)) ∧ (w'.heap[gb743]? = some (.cells #[.int .i64 a0_0, .int .u64 a0_1, .int .i64 a0_2, .int .u64 a0_3] 62 (0, 0))) ∧ (w'.heap[gb744]? = some (.cells #[.int .i64 0, .int .u64 0] 24 (0, 0))) ∧ (w'.heap[gb760]? = some (.cells #[.int .i64 t757, .int .u64 t758] 24 (0, 0))) ∧ (w'.heap[s_.1]? = some (.cells #[.int .i64 0, .int .u64 0] 24 (0, 0))) ∧ (w'.heap[s_.2]? = some (.cells #[.int .i64 0, .int .u64 0] 24 (0, 0))) ∧ (w.heap.size ≤ s_.1) ∧ (w.heap.size ≤ s_.1) ∧ (gb743 ≠ s_.1) ∧ (s_.1 ≠ gb743) ∧ (gb744 ≠ s_.1) ∧ (s_.1 ≠ gb744) ∧ (gb760 ≠ s_.1) ∧ (s_.1 ≠ gb760) ∧ (s_.2 ≠ s_.1) ∧ (s_.1 ≠ s_.2) ∧ (w.heap.size ≤ s_.2) ∧ (w.heap.size ≤ s_.2) ∧ (gb743 ≠ s_.2) ∧ (s_.2 ≠ gb743) ∧ (gb744 ≠ s_.2) ∧ (s_.2 ≠ gb744) ∧ (gb760 ≠ s_.2) ∧ (s_.2 ≠ gb760) ∧ (Below w.heap.size w w')) ?_ ?_
            rotate_left
            · intro hJ1_8_9
              refine join_ (σ := Unit) 5 #[T, T, T, T, T, T, T, T, O, O, O, O, O] (fun s_ => [(50, .agg #[.int .i64 t761, .int .u64 t762]), (52, .tuple #[.agg #[.int .i64 t763, .int .u64 t764], .agg #[.int .i64 t765, .int .u64 t766], .bool t767]), (48, .tuple #[.agg #[.int .i64 t763, .int .u64 t764], .agg #[.int .i64 t765, .int .u64 t766], .bool t767]), (53, .agg #[.int .i64 t763, .int .u64 t764]), (54, .agg #[.int .i64 t765, .int .u64 t766]), (55, .bool t767)]) (fun s_ w' => (w'.cell? ⟨gb743, 0, none⟩ = some (.int .i64 a0_0) ∧ w'.cell? ⟨gb743, 1, none⟩ = some (.int .u64 a0_1) ∧ w'.cell? ⟨gb743, 2, none⟩ = some (.int .i64 a0_2) ∧ w'.cell? ⟨gb743, 3, none⟩ = some (.int .u64 a0_3) ∧ w'.cell? ⟨gb760, 0, none⟩ = some (.int .i64 t757) ∧ w'.cell? ⟨gb760, 1, none⟩ = some (.int .u64 t758)) ∧ (w'.heap[gb743]? = some (.cells #[.int .i64 a0_0, .int .u64 a0_1, .int .i64 a0_2, .int .u64 a0_3] 62 (0, 0))) ∧ (w'.heap[gb744]? = some (.cells #[.int .i64 0, .int .u64 0] 24 (0, 0))) ∧ (w'.heap[gb760]? = some (.cells #[.int .i64 t757, .int .u64 t758] 24 (0, 0))) ∧ (Below w.heap.size w w')) ?_ ?_
              rotate_left
              · intro hJ1_3
                refine join_ (σ := Nat) 9 #[T, T, T, O, O, O, O, O, T, O, O, O, O] (fun s_ => [(50, .agg #[.int .i64 t761, .int .u64 t762]), (11, .pointer (some ⟨s_, 0, none⟩))]) (fun s_ w' => (w'.cell? ⟨gb743, 0, none⟩ = some (.int .i64 a0_0) ∧ w'.cell? ⟨gb743, 1, none⟩ = some (.int .u64 a0_1) ∧ w'.cell? ⟨gb743, 2, none⟩ = some (.int .i64 a0_2) ∧ w'.cell? ⟨gb743, 3, none⟩ = some (.int .u64 a0_3) ∧ w'.cell? ⟨gb760, 0, none⟩ = some (.int .i64 t757) ∧ w'.cell? ⟨gb760, 1, none⟩ = some (.int .u64 t758)) ∧ (w'.heap[gb743]? = some (.cells #[.int .i64 a0_0, .int .u64 a0_1, .int .i64 a0_2, .int .u64 a0_3] 62 (0, 0))) ∧ (w'.heap[gb744]? = some (.cells #[.int .i64 0, .int .u64 0] 24 (0, 0))) ∧ (w'.heap[gb760]? = some (.cells #[.int .i64 t757, .int .u64 t758] 24 (0, 0))) ∧ (w'.heap[s_]? = some (.cells #[.int .i64 0, .int .u64 0] 24 (0, 0))) ∧ (w.heap.size ≤ s_) ∧ (w.heap.size ≤ s_) ∧ (gb743 ≠ s_) ∧ (s_ ≠ gb743) ∧ (gb744 ≠ s_) ∧ (s_ ≠ gb744) ∧ (gb760 ≠ s_) ∧ (s_ ≠ gb760) ∧ (Below w.heap.size w w')) ?_ ?_
                rotate_left
                · intro hJ1_8
                  refine join_ (σ := Nat) 9 #[T, T, T, O, O, O, O, O, O, T, O, O, O] (fun s_ => [(50, .agg #[.int .i64 t761, .int .u64 t762]), (12, .pointer (some ⟨s_, 0, none⟩))]) (fun s_ w' => (w'.cell? ⟨gb743, 0, none⟩ = some (.int .i64 a0_0) ∧ w'.cell? ⟨gb743, 1, none⟩ = some (.int .u64 a0_1) ∧ w'.cell? ⟨gb743, 2, none⟩ = some (.int .i64 a0_2) ∧ w'.cell? ⟨gb743, 3, none⟩ = some (.int .u64 a0_3) ∧ w'.cell? ⟨gb760, 0, none⟩ = some (.int .i64 t757) ∧ w'.cell? ⟨gb760, 1, none⟩ = some (.int .u64 t758)) ∧ (w'.heap[gb743]? = some (.cells #[.int .i64 a0_0, .int .u64 a0_1, .int .i64 a0_2, .int .u64 a0_3] 62 (0, 0))) ∧ (w'.heap[gb744]? = some (.cells #[.int .i64 0, .int .u64 0] 24 (0, 0))) ∧ (w'.heap[gb760]? = some (.cells #[.int .i64 t757, .int .u64 t758] 24 (0, 0))) ∧ (w'.heap[s_]? = some (.cells #[.int .i64 0, .int .u64 0] 24 (0, 0))) ∧ (w.heap.size ≤ s_) ∧ (w.heap.size ≤ s_) ∧ (gb743 ≠ s_) ∧ (s_ ≠ gb743) ∧ (gb744 ≠ s_) ∧ (s_ ≠ gb744) ∧ (gb760 ≠ s_) ∧ (s_ ≠ gb760) ∧ (Below w.heap.size w w')) ?_ ?_
                  rotate_left
                  · intro hJ1_9
                    refine join_ (σ := Nat × Nat) 9 #[T, O, T, O, O, O, O, O, T, T, O, O, O] (fun s_ => [(11, .pointer (some ⟨s_.1, 0, none⟩)), (12, .pointer (some ⟨s_.2, 0, none⟩))]) (fun s_ w' => (w'.cell? ⟨gb743, 0, none⟩ = some (.int .i64 a0_0) ∧ w'.cell? ⟨gb743, 1, none⟩ = some (.int .u64 a0_1) ∧ w'.cell? ⟨gb743, 2, none⟩ = some (.int .i64 a0_2) ∧ w'.cell? ⟨gb743, 3, none⟩ = some (.int .u64 a0_3) ∧ w'.cell? ⟨gb760, 0, none⟩ = some (.int .i64 t757) ∧ w'.cell? ⟨gb760, 1, none⟩ = some (.int .u64 t758)) ∧ (w'.heap[gb743]? = some (.cells #[.int .i64 a0_0, .int .u64 a0_1, .int .i64 a0_2, .int .u64 a0_3] 62 (0, 0))) ∧ (w'.heap[gb744]? = some (.cells #[.int .i64 0, .int .u64 0] 24 (0, 0))) ∧ (w'.heap[gb760]? = some (.cells #[.int .i64 t757, .int .u64 t758] 24 (0, 0))) ∧ (w'.heap[s_.1]? = some (.cells #[.int .i64 0, .int .u64 0] 24 (0, 0))) ∧ (w'.heap[s_.2]? = some (.cells #[.int .i64 0, .int .u64 0] 24 (0, 0))) ∧ (w.heap.size ≤ s_.1) ∧ (w.heap.size ≤ s_.1) ∧ (gb743 ≠ s_.1) ∧ (s_.1 ≠ gb743) ∧ (gb744 ≠ s_.1) ∧ (s_.1 ≠ gb744) ∧ (gb760 ≠ s_.1) ∧ (s_.1 ≠ gb760) ∧ (s_.2 ≠ s_.1) ∧ (s_.1 ≠ s_.2) ∧ (w.heap.size ≤ s_.2) ∧ (w.heap.size ≤ s_.2) ∧ (gb743 ≠ s_.2) ∧ (s_.2 ≠ gb743) ∧ (gb744 ≠ s_.2) ∧ (s_.2 ≠ gb744) ∧ (gb760 ≠ s_.2) ∧ (s_.2 ≠ gb760) ∧ (Below w.heap.size w w')) ?_ ?_
                    rotate_left
                    · intro hJ8_9
                      refine join_ (σ := Unit) 10 #[T, T, T, O, O, O, O, O, O, O, O, O, O] (fun s_ => [(50, .agg #[.int .i64 t761, .int .u64 t762])]) (fun s_ w' => (w'.cell? ⟨gb743, 0, none⟩ = some (.int .i64 a0_0) ∧ w'.cell? ⟨gb743, 1, none⟩ = some (.int .u64 a0_1) ∧ w'.cell? ⟨gb743, 2, none⟩ = some (.int .i64 a0_2) ∧ w'.cell? ⟨gb743, 3, none⟩ = some (.int .u64 a0_3) ∧ w'.cell? ⟨gb760, 0, none⟩ = some (.int .i64 t757) ∧ w'.cell? ⟨gb760, 1, none⟩ = some (.int .u64 t758)) ∧ (w'.heap[gb743]? = some (.cells #[.int .i64 a0_0, .int .u64 a0_1, .int .i64 a0_2, .int .u64 a0_3] 62 (0, 0))) ∧ (w'.heap[gb744]? = some (.cells #[.int .i64 0, .int .u64 0] 24 (0, 0))) ∧ (w'.heap[gb760]? = some (.cells #[.int .i64 t757, .int .u64 t758] 24 (0, 0))) ∧ (Below w.heap.size w w')) ?_ ?_
                      rotate_left
                      · intro hJ1
                        refine join_ (σ := Nat) 10 #[T, O, T, O, O, O, O, O, T, O, O, O, O] (fun s_ => [(11, .pointer (some ⟨s_, 0, none⟩))]) (fun s_ w' => (w'.cell? ⟨gb743, 0, none⟩ = some (.int .i64 a0_0) ∧ w'.cell? ⟨gb743, 1, none⟩ = some (.int .u64 a0_1) ∧ w'.cell? ⟨gb743, 2, none⟩ = some (.int .i64 a0_2) ∧ w'.cell? ⟨gb743, 3, none⟩ = some (.int .u64 a0_3) ∧ w'.cell? ⟨gb760, 0, none⟩ = some (.int .i64 t757) ∧ w'.cell? ⟨gb760, 1, none⟩ = some (.int .u64 t758)) ∧ (w'.heap[gb743]? = some (.cells #[.int .i64 a0_0, .int .u64 a0_1, .int .i64 a0_2, .int .u64 a0_3] 62 (0, 0))) ∧ (w'.heap[gb744]? = some (.cells #[.int .i64 0, .int .u64 0] 24 (0, 0))) ∧ (w'.heap[gb760]? = some (.cells #[.int .i64 t757, .int .u64 t758] 24 (0, 0))) ∧ (w'.heap[s_]? = some (.cells #[.int .i64 0, .int .u64 0] 24 (0, 0))) ∧ (w.heap.size ≤ s_) ∧ (w.heap.size ≤ s_) ∧ (gb743 ≠ s_) ∧ (s_ ≠ gb743) ∧ (gb744 ≠ s_) ∧ (s_ ≠ gb744) ∧ (gb760 ≠ s_) ∧ (s_ ≠ gb760) ∧ (Below w.heap.size w w')) ?_ ?_
                        rotate_left
                        · intro hJ8
                          refine join_ (σ := Nat) 10 #[T, O, T, O, O, O, O, O, O, T, O, O, O] (fun s_ => [(12, .pointer (some ⟨s_, 0, none⟩))]) (fun s_ w' => (w'.cell? ⟨gb743, 0, none⟩ = some (.int .i64 a0_0) ∧ w'.cell? ⟨gb743, 1, none⟩ = some (.int .u64 a0_1) ∧ w'.cell? ⟨gb743, 2, none⟩ = some (.int .i64 a0_2) ∧ w'.cell? ⟨gb743, 3, none⟩ = some (.int .u64 a0_3) ∧ w'.cell? ⟨gb760, 0, none⟩ = some (.int .i64 t757) ∧ w'.cell? ⟨gb760, 1, none⟩ = some (.int .u64 t758)) ∧ (w'.heap[gb743]? = some (.cells #[.int .i64 a0_0, .int .u64 a0_1, .int .i64 a0_2, .int .u64 a0_3] 62 (0, 0))) ∧ (w'.heap[gb744]? = some (.cells #[.int .i64 0, .int .u64 0] 24 (0, 0))) ∧ (w'.heap[gb760]? = some (.cells #[.int .i64 t757, .int .u64 t758] 24 (0, 0))) ∧ (w'.heap[s_]? = some (.cells #[.int .i64 0, .int .u64 0] 24 (0, 0))) ∧ (w.heap.size ≤ s_) ∧ (w.heap.size ≤ s_) ∧ (gb743 ≠ s_) ∧ (s_ ≠ gb743) ∧ (gb744 ≠ s_) ∧ (s_ ≠ gb744) ∧ (gb760 ≠ s_) ∧ (s_ ≠ gb760) ∧ (Below w.heap.size w w')) ?_ ?_
                          rotate_left
                          · intro hJ9
                            refine three_ (i := 1) (j := 8) (k := 9) (Ni := some 50) (Nj := some 11) (Nk := some 12) #[T, T, T, O, O, O, O, O, O, O, O, O, O] #[T, O, T, O, O, O, O, O, T, O, O, O, O] #[T, O, T, O, O, O, O, O, O, T, O, O, O] rfl rfl rfl rfl rfl rfl (three_of HT_.out (by kernel_rfl)) (by decide) (by decide) (by decide) (fun K hK => ?_) (fun K hK => ?_) (fun K hK => ?_)
                            · skip
                              refine goes_ Try.func42 (by kernel_rfl) rfl #[.agg #[.int .i64 a0_0, .int .u64 a0_1, .int .i64 a0_2, .int .u64 a0_3]] (by rfl) rfl rfl (by (try simp only [List.map_toArray, List.map_cons, List.map_nil]); first | done | rfl | (simp only [List.length_drop, List.length_take]; rfl)) ?_
                              with_reducible refine (frac_Floor.calls kj2 a0_0 a0_1 a0_2 a0_3 t761 t762 _ A41.out).mono ?_
                              rintro e w52 ⟨rfl, hb⟩
                              refine ⟨_, rfl, ?_⟩
                              replace BK743 := kb BK743 hb
                              replace BK744 := kb BK744 hb
                              replace BK760 := kb BK760 hb
                              replace HB := kB HB hb
                              (try clear hb); (try clear hb2); (try clear hk); (try clear hi)
                              refine hK.out _ _ ⟨kc BK743 0, kc BK743 1, kc BK743 2, kc BK743 3, kc BK760 0, kc BK760 1⟩ (fun hHeld => ?_)
                              clear hK K
                              refine norm_ (a' := ?_) ?_ ?_; rotate_left; focus (show Act.put _ (some 50) _ = _; simp only [Act.put, s1, s2, s3, i64_w, i32_w]; rfl)
                              exact norm_ (by first | (simp only [putAll, Act.put, s1, s2, s3]; done) | (simp only [putAll, Act.put, s1, s2, s3]; rfl)) (hJ1 () _ ⟨hHeld, (kx BK743), (kx BK744), (kx BK760), (ky HB)⟩)
                            · skip
                              refine box_step ?hg (N := 11) ?hd (cs := #[.int .i64 0, .int .u64 0]) (t := 24) ?hr ?_; (case hd => rfl); (case hg => rfl); (case hr => first | (go_simp; done) | (go_simp; rfl))
                              intro gb768 hg w52 hbox hb
                              have BK768 := Aside0.mk (hbox)
                              have GW768 := kS HB hg
                              have GE768 := kS HB hg
                              have NB743_768 := kN BK743 hg
                              have NB768_743 := kM BK743 hg
                              have NB744_768 := kN BK744 hg
                              have NB768_744 := kM BK744 hg
                              have NB760_768 := kN BK760 hg
                              have NB768_760 := kM BK760 hg
                              replace BK743 := kb BK743 hb
                              replace BK744 := kb BK744 hb
                              replace BK760 := kb BK760 hb
                              replace HB := kB HB hb
                              clear hb hbox hg
                              refine hK.out _ _ ⟨kc BK743 0, kc BK743 1, kc BK743 2, kc BK743 3, kc BK760 0, kc BK760 1⟩ (fun hHeld => ?_)
                              clear hK K
                              refine norm_ (a' := ?_) ?_ ?_; rotate_left; focus (show Act.put _ (some 11) _ = _; simp only [Act.put, s1, s2, s3, i64_w, i32_w]; rfl)
                              exact norm_ (by first | (simp only [putAll, Act.put, s1, s2, s3]; done) | (simp only [putAll, Act.put, s1, s2, s3]; rfl)) (hJ8 (gb768) _ ⟨hHeld, (kx BK743), (kx BK744), (kx BK760), (kx BK768), GW768.out, GE768.out, NB743_768.out, NB768_743.out, NB744_768.out, NB768_744.out, NB760_768.out, NB768_760.out, (ky HB)⟩)
                            · skip
                              refine box_step ?hg (N := 12) ?hd (cs := #[.int .i64 0, .int .u64 0]) (t := 24) ?hr ?_; (case hd => rfl); (case hg => rfl); (case hr => first | (go_simp; done) | (go_simp; rfl))
                              intro gb769 hg w52 hbox hb
                              have BK769 := Aside0.mk (hbox)
                              have GW769 := kS HB hg
                              have GE769 := kS HB hg
                              have NB743_769 := kN BK743 hg
                              have NB769_743 := kM BK743 hg
                              have NB744_769 := kN BK744 hg
                              have NB769_744 := kM BK744 hg
                              have NB760_769 := kN BK760 hg
                              have NB769_760 := kM BK760 hg
                              replace BK743 := kb BK743 hb
                              replace BK744 := kb BK744 hb
                              replace BK760 := kb BK760 hb
                              replace HB := kB HB hb
                              clear hb hbox hg
                              refine hK.out _ _ ⟨kc BK743 0, kc BK743 1, kc BK743 2, kc BK743 3, kc BK760 0, kc BK760 1⟩ (fun hHeld => ?_)
                              clear hK K
                              refine norm_ (a' := ?_) ?_ ?_; rotate_left; focus (show Act.put _ (some 12) _ = _; simp only [Act.put, s1, s2, s3, i64_w, i32_w]; rfl)
                              exact norm_ (by first | (simp only [putAll, Act.put, s1, s2, s3]; done) | (simp only [putAll, Act.put, s1, s2, s3]; rfl)) (hJ9 (gb769) _ ⟨hHeld, (kx BK743), (kx BK744), (kx BK760), (kx BK769), GW769.out, GE769.out, NB743_769.out, NB769_743.out, NB744_769.out, NB769_744.out, NB760_769.out, NB769_760.out, (ky HB)⟩)
                          · skip
                            rintro gb769 w53 ⟨hS_, h0_, h1_, h2_, h3_, h4_, h5_, h6_, h7_, h8_, h9_, h10_, h11_, h12_⟩
                            clear BK743 BK744 BK760 HB
                            have BK743 := A0 h0_; have BK744 := A0 h1_; have BK760 := A0 h2_; have BK769 := A0 h3_; have GW769 := A0 h4_; have GE769 := A0 h5_; have NB743_769 := A0 h6_; have NB769_743 := A0 h7_; have NB744_769 := A0 h8_; have NB769_744 := A0 h9_; have NB760_769 := A0 h10_; have NB769_760 := A0 h11_; have HB := A0 h12_
                            clear h0_ h1_ h2_ h3_ h4_ h5_ h6_ h7_ h8_ h9_ h10_ h11_ h12_
                            have hHeld := hS_
                            refine norm_ (a' := ?_) ?_ ?_; rotate_left; focus (simp only [putAll, Act.put, s1, s2, s3]; rfl)
                            refine two_ (i := 1) (j := 8) (Ni := some 50) (Nj := some 11) #[T, T, T, O, O, O, O, O, O, T, O, O, O] #[T, O, T, O, O, O, O, O, T, T, O, O, O] rfl rfl rfl rfl (two_of HT_.out (by kernel_rfl)) (by decide) (by decide) (fun K hK => ?_) (fun K hK => ?_)
                            · skip
                              refine goes_ Try.func42 (by kernel_rfl) rfl #[.agg #[.int .i64 a0_0, .int .u64 a0_1, .int .i64 a0_2, .int .u64 a0_3]] (by rfl) rfl rfl (by (try simp only [List.map_toArray, List.map_cons, List.map_nil]); first | done | rfl | (simp only [List.length_drop, List.length_take]; rfl)) ?_
                              with_reducible refine (frac_Floor.calls kj2 a0_0 a0_1 a0_2 a0_3 t761 t762 _ A41.out).mono ?_
                              rintro e w54 ⟨rfl, hb⟩
                              refine ⟨_, rfl, ?_⟩
                              replace BK743 := kb BK743 hb
                              replace BK744 := kb BK744 hb
                              replace BK760 := kb BK760 hb
                              replace BK769 := kb BK769 hb
                              replace HB := kB HB hb
                              (try clear hb); (try clear hb2); (try clear hk); (try clear hi)
                              refine hK.out _ _ ⟨kc BK743 0, kc BK743 1, kc BK743 2, kc BK743 3, kc BK760 0, kc BK760 1⟩ (fun hHeld => ?_)
                              clear hK K
                              refine norm_ (a' := ?_) ?_ ?_; rotate_left; focus (show Act.put _ (some 50) _ = _; simp only [Act.put, s1, s2, s3, i64_w, i32_w]; rfl)
                              exact norm_ (by first | (simp only [putAll, Act.put, s1, s2, s3]; done) | (simp only [putAll, Act.put, s1, s2, s3]; rfl)) (hJ1_9 (gb769) _ ⟨hHeld, (kx BK743), (kx BK744), (kx BK760), (kx BK769), GW769.out, GE769.out, NB743_769.out, NB769_743.out, NB744_769.out, NB769_744.out, NB760_769.out, NB769_760.out, (ky HB)⟩)
                            · skip
                              refine box_step ?hg (N := 11) ?hd (cs := #[.int .i64 0, .int .u64 0]) (t := 24) ?hr ?_; (case hd => rfl); (case hg => rfl); (case hr => first | (go_simp; done) | (go_simp; rfl))
                              intro gb768 hg w54 hbox hb
                              have BK768 := Aside0.mk (hbox)
                              have GW768 := kS HB hg
                              have GE768 := kS HB hg
                              have NB743_768 := kN BK743 hg
                              have NB768_743 := kM BK743 hg
                              have NB744_768 := kN BK744 hg
                              have NB768_744 := kM BK744 hg
                              have NB760_768 := kN BK760 hg
                              have NB768_760 := kM BK760 hg
                              have NB769_768 := kN BK769 hg
                              have NB768_769 := kM BK769 hg
                              replace BK743 := kb BK743 hb
                              replace BK744 := kb BK744 hb
                              replace BK760 := kb BK760 hb
                              replace BK769 := kb BK769 hb
                              replace HB := kB HB hb
                              clear hb hbox hg
                              refine hK.out _ _ ⟨kc BK743 0, kc BK743 1, kc BK743 2, kc BK743 3, kc BK760 0, kc BK760 1⟩ (fun hHeld => ?_)
                              clear hK K
                              refine norm_ (a' := ?_) ?_ ?_; rotate_left; focus (show Act.put _ (some 11) _ = _; simp only [Act.put, s1, s2, s3, i64_w, i32_w]; rfl)
                              exact norm_ (by first | (simp only [putAll, Act.put, s1, s2, s3]; done) | (simp only [putAll, Act.put, s1, s2, s3]; rfl)) (hJ8_9 (gb768, gb769) _ ⟨hHeld, (kx BK743), (kx BK744), (kx BK760), (kx BK768), (kx BK769), GW768.out, GE768.out, NB743_768.out, NB768_743.out, NB744_768.out, NB768_744.out, NB760_768.out, NB768_760.out, NB769_768.out, NB768_769.out, GW769.out, GE769.out, NB743_769.out, NB769_743.out, NB744_769.out, NB769_744.out, NB760_769.out, NB769_760.out, (ky HB)⟩)
                        · skip
                          rintro gb768 w53 ⟨hS_, h0_, h1_, h2_, h3_, h4_, h5_, h6_, h7_, h8_, h9_, h10_, h11_, h12_⟩
                          clear BK743 BK744 BK760 HB
                          have BK743 := A0 h0_; have BK744 := A0 h1_; have BK760 := A0 h2_; have BK768 := A0 h3_; have GW768 := A0 h4_; have GE768 := A0 h5_; have NB743_768 := A0 h6_; have NB768_743 := A0 h7_; have NB744_768 := A0 h8_; have NB768_744 := A0 h9_; have NB760_768 := A0 h10_; have NB768_760 := A0 h11_; have HB := A0 h12_
                          clear h0_ h1_ h2_ h3_ h4_ h5_ h6_ h7_ h8_ h9_ h10_ h11_ h12_
                          have hHeld := hS_
                          refine norm_ (a' := ?_) ?_ ?_; rotate_left; focus (simp only [putAll, Act.put, s1, s2, s3]; rfl)
                          refine two_ (i := 1) (j := 9) (Ni := some 50) (Nj := some 12) #[T, T, T, O, O, O, O, O, T, O, O, O, O] #[T, O, T, O, O, O, O, O, T, T, O, O, O] rfl rfl rfl rfl (two_of HT_.out (by kernel_rfl)) (by decide) (by decide) (fun K hK => ?_) (fun K hK => ?_)
                          · skip
                            refine goes_ Try.func42 (by kernel_rfl) rfl #[.agg #[.int .i64 a0_0, .int .u64 a0_1, .int .i64 a0_2, .int .u64 a0_3]] (by rfl) rfl rfl (by (try simp only [List.map_toArray, List.map_cons, List.map_nil]); first | done | rfl | (simp only [List.length_drop, List.length_take]; rfl)) ?_
                            with_reducible refine (frac_Floor.calls kj2 a0_0 a0_1 a0_2 a0_3 t761 t762 _ A41.out).mono ?_
                            rintro e w54 ⟨rfl, hb⟩
                            refine ⟨_, rfl, ?_⟩
                            replace BK743 := kb BK743 hb
                            replace BK744 := kb BK744 hb
                            replace BK760 := kb BK760 hb
                            replace BK768 := kb BK768 hb
                            replace HB := kB HB hb
                            (try clear hb); (try clear hb2); (try clear hk); (try clear hi)
                            refine hK.out _ _ ⟨kc BK743 0, kc BK743 1, kc BK743 2, kc BK743 3, kc BK760 0, kc BK760 1⟩ (fun hHeld => ?_)
                            clear hK K
                            refine norm_ (a' := ?_) ?_ ?_; rotate_left; focus (show Act.put _ (some 50) _ = _; simp only [Act.put, s1, s2, s3, i64_w, i32_w]; rfl)
                            exact norm_ (by first | (simp only [putAll, Act.put, s1, s2, s3]; done) | (simp only [putAll, Act.put, s1, s2, s3]; rfl)) (hJ1_8 (gb768) _ ⟨hHeld, (kx BK743), (kx BK744), (kx BK760), (kx BK768), GW768.out, GE768.out, NB743_768.out, NB768_743.out, NB744_768.out, NB768_744.out, NB760_768.out, NB768_760.out, (ky HB)⟩)
                          · skip
                            refine box_step ?hg (N := 12) ?hd (cs := #[.int .i64 0, .int .u64 0]) (t := 24) ?hr ?_; (case hd => rfl); (case hg => rfl); (case hr => first | (go_simp; done) | (go_simp; rfl))
                            intro gb769 hg w54 hbox hb
                            have BK769 := Aside0.mk (hbox)
                            have GW769 := kS HB hg
                            have GE769 := kS HB hg
                            have NB743_769 := kN BK743 hg
                            have NB769_743 := kM BK743 hg
                            have NB744_769 := kN BK744 hg
                            have NB769_744 := kM BK744 hg
                            have NB760_769 := kN BK760 hg
                            have NB769_760 := kM BK760 hg
                            have NB768_769 := kN BK768 hg
                            have NB769_768 := kM BK768 hg
                            replace BK743 := kb BK743 hb
                            replace BK744 := kb BK744 hb
                            replace BK760 := kb BK760 hb
                            replace BK768 := kb BK768 hb
                            replace HB := kB HB hb
                            clear hb hbox hg
                            refine hK.out _ _ ⟨kc BK743 0, kc BK743 1, kc BK743 2, kc BK743 3, kc BK760 0, kc BK760 1⟩ (fun hHeld => ?_)
                            clear hK K
                            refine norm_ (a' := ?_) ?_ ?_; rotate_left; focus (show Act.put _ (some 12) _ = _; simp only [Act.put, s1, s2, s3, i64_w, i32_w]; rfl)
                            exact norm_ (by first | (simp only [putAll, Act.put, s1, s2, s3]; done) | (simp only [putAll, Act.put, s1, s2, s3]; rfl)) (hJ8_9 (gb768, gb769) _ ⟨hHeld, (kx BK743), (kx BK744), (kx BK760), (kx BK768), (kx BK769), GW768.out, GE768.out, NB743_768.out, NB768_743.out, NB744_768.out, NB768_744.out, NB760_768.out, NB768_760.out, NB769_768.out, NB768_769.out, GW769.out, GE769.out, NB743_769.out, NB769_743.out, NB744_769.out, NB769_744.out, NB760_769.out, NB769_760.out, (ky HB)⟩)
                      · skip
                        rintro _ w53 ⟨hS_, h0_, h1_, h2_, h3_⟩
                        clear BK743 BK744 BK760 HB
                        have BK743 := A0 h0_; have BK744 := A0 h1_; have BK760 := A0 h2_; have HB := A0 h3_
                        clear h0_ h1_ h2_ h3_
                        have hHeld := hS_
                        refine norm_ (a' := ?_) ?_ ?_; rotate_left; focus (simp only [putAll, Act.put, s1, s2, s3]; rfl)
                        refine three_ (i := 3) (j := 8) (k := 9) (Ni := some 52) (Nj := some 11) (Nk := some 12) #[T, T, T, T, O, O, O, O, O, O, O, O, O] #[T, T, T, O, O, O, O, O, T, O, O, O, O] #[T, T, T, O, O, O, O, O, O, T, O, O, O] rfl rfl rfl rfl rfl rfl (three_of HT_.out (by kernel_rfl)) (by decide) (by decide) (by decide) (fun K hK => ?_) (fun K hK => ?_) (fun K hK => ?_)
                        · skip
                          refine goes_ Try.func27 (by kernel_rfl) rfl #[.agg #[.int .i64 t761, .int .u64 t762], .agg #[.int .i64 t757, .int .u64 t758]] (by rfl) rfl rfl (by (try simp only [List.map_toArray, List.map_cons, List.map_nil]); first | done | rfl | (simp only [List.length_drop, List.length_take]; rfl)) ?_
                          with_reducible refine (wide_Div.calls kj2 t761 t762 t757 t758 t763 t764 t765 t766 t767 _ A42.out).mono ?_
                          rintro e w54 ⟨rfl, hb⟩
                          refine ⟨_, rfl, ?_⟩
                          replace BK743 := kb BK743 hb
                          replace BK744 := kb BK744 hb
                          replace BK760 := kb BK760 hb
                          replace HB := kB HB hb
                          (try clear hb); (try clear hb2); (try clear hk); (try clear hi)
                          refine hK.out _ _ ⟨kc BK743 0, kc BK743 1, kc BK743 2, kc BK743 3, kc BK760 0, kc BK760 1⟩ (fun hHeld => ?_)
                          clear hK K
                          refine norm_ (a' := ?_) ?_ ?_; rotate_left; focus (show Act.put _ (some 52) _ = _; simp only [Act.put, s1, s2, s3, i64_w, i32_w]; rfl)
                          refine pure_ (i := 4) (N := some 48) (v := ?_) (a' := ?_) #[T, T, T, T, T, O, O, O, O, O, O, O, O] rfl rfl (any_of HT_.out (by kernel_rfl)) (fun _ _ _ h => h) (Or.inl ⟨by rfl, ?_⟩) ?_ ?_; rotate_left; focus (intro w'; go_simp; with_reducible rfl)
                          rotate_left; focus (simp only [Act.put, s1, s2, s3, i64_w, i32_w]; rfl)
                          refine pure_ (i := 5) (N := some 53) (v := ?_) (a' := ?_) #[T, T, T, T, T, T, O, O, O, O, O, O, O] rfl rfl (any_of HT_.out (by kernel_rfl)) (fun _ _ _ h => h) (Or.inl ⟨by rfl, ?_⟩) ?_ ?_; rotate_left; focus (intro w'; go_simp; with_reducible rfl)
                          rotate_left; focus (simp only [Act.put, s1, s2, s3, i64_w, i32_w]; rfl)
                          refine pure_ (i := 6) (N := some 54) (v := ?_) (a' := ?_) #[T, T, T, T, T, T, T, O, O, O, O, O, O] rfl rfl (any_of HT_.out (by kernel_rfl)) (fun _ _ _ h => h) (Or.inl ⟨by rfl, ?_⟩) ?_ ?_; rotate_left; focus (intro w'; go_simp; with_reducible rfl)
                          rotate_left; focus (simp only [Act.put, s1, s2, s3, i64_w, i32_w]; rfl)
                          refine pure_ (i := 7) (N := some 55) (v := ?_) (a' := ?_) #[T, T, T, T, T, T, T, T, O, O, O, O, O] rfl rfl (any_of HT_.out (by kernel_rfl)) (fun _ _ _ h => h) (Or.inl ⟨by rfl, ?_⟩) ?_ ?_; rotate_left; focus (intro w'; go_simp; with_reducible rfl)
                          rotate_left; focus (simp only [Act.put, s1, s2, s3, i64_w, i32_w]; rfl)
                          exact norm_ (by first | (simp only [putAll, Act.put, s1, s2, s3]; done) | (simp only [putAll, Act.put, s1, s2, s3]; rfl)) (hJ1_3 () _ ⟨hHeld, (kx BK743), (kx BK744), (kx BK760), (ky HB)⟩)
                        · skip
                          refine box_step ?hg (N := 11) ?hd (cs := #[.int .i64 0, .int .u64 0]) (t := 24) ?hr ?_; (case hd => rfl); (case hg => rfl); (case hr => first | (go_simp; done) | (go_simp; rfl))
                          intro gb768 hg w54 hbox hb
                          have BK768 := Aside0.mk (hbox)
                          have GW768 := kS HB hg
                          have GE768 := kS HB hg
                          have NB743_768 := kN BK743 hg
                          have NB768_743 := kM BK743 hg
                          have NB744_768 := kN BK744 hg
                          have NB768_744 := kM BK744 hg
                          have NB760_768 := kN BK760 hg
                          have NB768_760 := kM BK760 hg
                          replace BK743 := kb BK743 hb
                          replace BK744 := kb BK744 hb
                          replace BK760 := kb BK760 hb
                          replace HB := kB HB hb
                          clear hb hbox hg
                          refine hK.out _ _ ⟨kc BK743 0, kc BK743 1, kc BK743 2, kc BK743 3, kc BK760 0, kc BK760 1⟩ (fun hHeld => ?_)
                          clear hK K
                          refine norm_ (a' := ?_) ?_ ?_; rotate_left; focus (show Act.put _ (some 11) _ = _; simp only [Act.put, s1, s2, s3, i64_w, i32_w]; rfl)
                          exact norm_ (by first | (simp only [putAll, Act.put, s1, s2, s3]; done) | (simp only [putAll, Act.put, s1, s2, s3]; rfl)) (hJ1_8 (gb768) _ ⟨hHeld, (kx BK743), (kx BK744), (kx BK760), (kx BK768), GW768.out, GE768.out, NB743_768.out, NB768_743.out, NB744_768.out, NB768_744.out, NB760_768.out, NB768_760.out, (ky HB)⟩)
                        · skip
                          refine box_step ?hg (N := 12) ?hd (cs := #[.int .i64 0, .int .u64 0]) (t := 24) ?hr ?_; (case hd => rfl); (case hg => rfl); (case hr => first | (go_simp; done) | (go_simp; rfl))
                          intro gb769 hg w54 hbox hb
                          have BK769 := Aside0.mk (hbox)
                          have GW769 := kS HB hg
                          have GE769 := kS HB hg
                          have NB743_769 := kN BK743 hg
                          have NB769_743 := kM BK743 hg
                          have NB744_769 := kN BK744 hg
                          have NB769_744 := kM BK744 hg
                          have NB760_769 := kN BK760 hg
                          have NB769_760 := kM BK760 hg
                          replace BK743 := kb BK743 hb
                          replace BK744 := kb BK744 hb
                          replace BK760 := kb BK760 hb
                          replace HB := kB HB hb
                          clear hb hbox hg
                          refine hK.out _ _ ⟨kc BK743 0, kc BK743 1, kc BK743 2, kc BK743 3, kc BK760 0, kc BK760 1⟩ (fun hHeld => ?_)
                          clear hK K
                          refine norm_ (a' := ?_) ?_ ?_; rotate_left; focus (show Act.put _ (some 12) _ = _; simp only [Act.put, s1, s2, s3, i64_w, i32_w]; rfl)
                          exact norm_ (by first | (simp only [putAll, Act.put, s1, s2, s3]; done) | (simp only [putAll, Act.put, s1, s2, s3]; rfl)) (hJ1_9 (gb769) _ ⟨hHeld, (kx BK743), (kx BK744), (kx BK760), (kx BK769), GW769.out, GE769.out, NB743_769.out, NB769_743.out, NB744_769.out, NB769_744.out, NB760_769.out, NB769_760.out, (ky HB)⟩)
                    · skip
                      rintro ⟨gb768, gb769⟩ w54 ⟨hS_, h0_, h1_, h2_, h3_, h4_, h5_, h6_, h7_, h8_, h9_, h10_, h11_, h12_, h13_, h14_, h15_, h16_, h17_, h18_, h19_, h20_, h21_, h22_, h23_⟩
                      clear BK743 BK744 BK760 HB
                      have BK743 := A0 h0_; have BK744 := A0 h1_; have BK760 := A0 h2_; have BK768 := A0 h3_; have BK769 := A0 h4_; have GW768 := A0 h5_; have GE768 := A0 h6_; have NB743_768 := A0 h7_; have NB768_743 := A0 h8_; have NB744_768 := A0 h9_; have NB768_744 := A0 h10_; have NB760_768 := A0 h11_; have NB768_760 := A0 h12_; have NB769_768 := A0 h13_; have NB768_769 := A0 h14_; have GW769 := A0 h15_; have GE769 := A0 h16_; have NB743_769 := A0 h17_; have NB769_743 := A0 h18_; have NB744_769 := A0 h19_; have NB769_744 := A0 h20_; have NB760_769 := A0 h21_; have NB769_760 := A0 h22_; have HB := A0 h23_
                      clear h0_ h1_ h2_ h3_ h4_ h5_ h6_ h7_ h8_ h9_ h10_ h11_ h12_ h13_ h14_ h15_ h16_ h17_ h18_ h19_ h20_ h21_ h22_ h23_
                      have hHeld := hS_
                      refine norm_ (a' := ?_) ?_ ?_; rotate_left; focus (simp only [putAll, Act.put, s1, s2, s3]; rfl)
                      refine one_ (i := 1) (N := some 50) #[T, T, T, O, O, O, O, O, T, T, O, O, O] rfl rfl (one_of HT_.out (by kernel_rfl)) (by decide) (fun K hK => ?_)
                      refine goes_ Try.func42 (by kernel_rfl) rfl #[.agg #[.int .i64 a0_0, .int .u64 a0_1, .int .i64 a0_2, .int .u64 a0_3]] (by rfl) rfl rfl (by (try simp only [List.map_toArray, List.map_cons, List.map_nil]); first | done | rfl | (simp only [List.length_drop, List.length_take]; rfl)) ?_
                      with_reducible refine (frac_Floor.calls kj2 a0_0 a0_1 a0_2 a0_3 t761 t762 _ A41.out).mono ?_
                      rintro e w55 ⟨rfl, hb⟩
                      refine ⟨_, rfl, ?_⟩
                      replace BK743 := kb BK743 hb
                      replace BK744 := kb BK744 hb
                      replace BK760 := kb BK760 hb
                      replace BK768 := kb BK768 hb
                      replace BK769 := kb BK769 hb
                      replace HB := kB HB hb
                      (try clear hb); (try clear hb2); (try clear hk); (try clear hi)
                      refine hK.out _ _ ⟨kc BK743 0, kc BK743 1, kc BK743 2, kc BK743 3, kc BK760 0, kc BK760 1⟩ (fun hHeld => ?_)
                      clear hK K
                      refine norm_ (a' := ?_) ?_ ?_; rotate_left; focus (show Act.put _ (some 50) _ = _; simp only [Act.put, s1, s2, s3, i64_w, i32_w]; rfl)
                      exact norm_ (by first | (simp only [putAll, Act.put, s1, s2, s3]; done) | (simp only [putAll, Act.put, s1, s2, s3]; rfl)) (hJ1_8_9 (gb768, gb769) _ ⟨hHeld, (kx BK743), (kx BK744), (kx BK760), (kx BK768), (kx BK769), GW768.out, GE768.out, NB743_768.out, NB768_743.out, NB744_768.out, NB768_744.out, NB760_768.out, NB768_760.out, NB769_768.out, NB768_769.out, GW769.out, GE769.out, NB743_769.out, NB769_743.out, NB744_769.out, NB769_744.out, NB760_769.out, NB769_760.out, (ky HB)⟩)
                  · skip
                    rintro gb769 w54 ⟨hS_, h0_, h1_, h2_, h3_, h4_, h5_, h6_, h7_, h8_, h9_, h10_, h11_, h12_⟩
                    clear BK743 BK744 BK760 HB
                    have BK743 := A0 h0_; have BK744 := A0 h1_; have BK760 := A0 h2_; have BK769 := A0 h3_; have GW769 := A0 h4_; have GE769 := A0 h5_; have NB743_769 := A0 h6_; have NB769_743 := A0 h7_; have NB744_769 := A0 h8_; have NB769_744 := A0 h9_; have NB760_769 := A0 h10_; have NB769_760 := A0 h11_; have HB := A0 h12_
                    clear h0_ h1_ h2_ h3_ h4_ h5_ h6_ h7_ h8_ h9_ h10_ h11_ h12_
                    have hHeld := hS_
                    refine norm_ (a' := ?_) ?_ ?_; rotate_left; focus (simp only [putAll, Act.put, s1, s2, s3]; rfl)
                    refine two_ (i := 3) (j := 8) (Ni := some 52) (Nj := some 11) #[T, T, T, T, O, O, O, O, O, T, O, O, O] #[T, T, T, O, O, O, O, O, T, T, O, O, O] rfl rfl rfl rfl (two_of HT_.out (by kernel_rfl)) (by decide) (by decide) (fun K hK => ?_) (fun K hK => ?_)
                    · skip
                      refine goes_ Try.func27 (by kernel_rfl) rfl #[.agg #[.int .i64 t761, .int .u64 t762], .agg #[.int .i64 t757, .int .u64 t758]] (by rfl) rfl rfl (by (try simp only [List.map_toArray, List.map_cons, List.map_nil]); first | done | rfl | (simp only [List.length_drop, List.length_take]; rfl)) ?_
                      with_reducible refine (wide_Div.calls kj2 t761 t762 t757 t758 t763 t764 t765 t766 t767 _ A42.out).mono ?_
                      rintro e w55 ⟨rfl, hb⟩
                      refine ⟨_, rfl, ?_⟩
                      replace BK743 := kb BK743 hb
                      replace BK744 := kb BK744 hb
                      replace BK760 := kb BK760 hb
                      replace BK769 := kb BK769 hb
                      replace HB := kB HB hb
                      (try clear hb); (try clear hb2); (try clear hk); (try clear hi)
                      refine hK.out _ _ ⟨kc BK743 0, kc BK743 1, kc BK743 2, kc BK743 3, kc BK760 0, kc BK760 1⟩ (fun hHeld => ?_)
                      clear hK K
                      refine norm_ (a' := ?_) ?_ ?_; rotate_left; focus (show Act.put _ (some 52) _ = _; simp only [Act.put, s1, s2, s3, i64_w, i32_w]; rfl)
                      refine pure_ (i := 4) (N := some 48) (v := ?_) (a' := ?_) #[T, T, T, T, T, O, O, O, O, T, O, O, O] rfl rfl (any_of HT_.out (by kernel_rfl)) (fun _ _ _ h => h) (Or.inl ⟨by rfl, ?_⟩) ?_ ?_; rotate_left; focus (intro w'; go_simp; with_reducible rfl)
                      rotate_left; focus (simp only [Act.put, s1, s2, s3, i64_w, i32_w]; rfl)
                      refine pure_ (i := 5) (N := some 53) (v := ?_) (a' := ?_) #[T, T, T, T, T, T, O, O, O, T, O, O, O] rfl rfl (any_of HT_.out (by kernel_rfl)) (fun _ _ _ h => h) (Or.inl ⟨by rfl, ?_⟩) ?_ ?_; rotate_left; focus (intro w'; go_simp; with_reducible rfl)
                      rotate_left; focus (simp only [Act.put, s1, s2, s3, i64_w, i32_w]; rfl)
                      refine pure_ (i := 6) (N := some 54) (v := ?_) (a' := ?_) #[T, T, T, T, T, T, T, O, O, T, O, O, O] rfl rfl (any_of HT_.out (by kernel_rfl)) (fun _ _ _ h => h) (Or.inl ⟨by rfl, ?_⟩) ?_ ?_; rotate_left; focus (intro w'; go_simp; with_reducible rfl)
                      rotate_left; focus (simp only [Act.put, s1, s2, s3, i64_w, i32_w]; rfl)
                      refine pure_ (i := 7) (N := some 55) (v := ?_) (a' := ?_) #[T, T, T, T, T, T, T, T, O, T, O, O, O] rfl rfl (any_of HT_.out (by kernel_rfl)) (fun _ _ _ h => h) (Or.inl ⟨by rfl, ?_⟩) ?_ ?_; rotate_left; focus (intro w'; go_simp; with_reducible rfl)
                      rotate_left; focus (simp only [Act.put, s1, s2, s3, i64_w, i32_w]; rfl)
                      exact norm_ (by first | (simp only [putAll, Act.put, s1, s2, s3]; done) | (simp only [putAll, Act.put, s1, s2, s3]; rfl)) (hJ1_3_9 (gb769) _ ⟨hHeld, (kx BK743), (kx BK744), (kx BK760), (kx BK769), GW769.out, GE769.out, NB743_769.out, NB769_743.out, NB744_769.out, NB769_744.out, NB760_769.out, NB769_760.out, (ky HB)⟩)
                    · skip
                      refine box_step ?hg (N := 11) ?hd (cs := #[.int .i64 0, .int .u64 0]) (t := 24) ?hr ?_; (case hd => rfl); (case hg => rfl); (case hr => first | (go_simp; done) | (go_simp; rfl))
                      intro gb768 hg w55 hbox hb
                      have BK768 := Aside0.mk (hbox)
                      have GW768 := kS HB hg
                      have GE768 := kS HB hg
                      have NB743_768 := kN BK743 hg
                      have NB768_743 := kM BK743 hg
                      have NB744_768 := kN BK744 hg
                      have NB768_744 := kM BK744 hg
                      have NB760_768 := kN BK760 hg
                      have NB768_760 := kM BK760 hg
                      have NB769_768 := kN BK769 hg
                      have NB768_769 := kM BK769 hg
                      replace BK743 := kb BK743 hb
                      replace BK744 := kb BK744 hb
                      replace BK760 := kb BK760 hb
                      replace BK769 := kb BK769 hb
                      replace HB := kB HB hb
                      clear hb hbox hg
                      refine hK.out _ _ ⟨kc BK743 0, kc BK743 1, kc BK743 2, kc BK743 3, kc BK760 0, kc BK760 1⟩ (fun hHeld => ?_)
                      clear hK K
                      refine norm_ (a' := ?_) ?_ ?_; rotate_left; focus (show Act.put _ (some 11) _ = _; simp only [Act.put, s1, s2, s3, i64_w, i32_w]; rfl)
                      exact norm_ (by first | (simp only [putAll, Act.put, s1, s2, s3]; done) | (simp only [putAll, Act.put, s1, s2, s3]; rfl)) (hJ1_8_9 (gb768, gb769) _ ⟨hHeld, (kx BK743), (kx BK744), (kx BK760), (kx BK768), (kx BK769), GW768.out, GE768.out, NB743_768.out, NB768_743.out, NB744_768.out, NB768_744.out, NB760_768.out, NB768_760.out, NB769_768.out, NB768_769.out, GW769.out, GE769.out, NB743_769.out, NB769_743.out, NB744_769.out, NB769_744.out, NB760_769.out, NB769_760.out, (ky HB)⟩)
                · skip
                  rintro gb768 w54 ⟨hS_, h0_, h1_, h2_, h3_, h4_, h5_, h6_, h7_, h8_, h9_, h10_, h11_, h12_⟩
                  clear BK743 BK744 BK760 HB
                  have BK743 := A0 h0_; have BK744 := A0 h1_; have BK760 := A0 h2_; have BK768 := A0 h3_; have GW768 := A0 h4_; have GE768 := A0 h5_; have NB743_768 := A0 h6_; have NB768_743 := A0 h7_; have NB744_768 := A0 h8_; have NB768_744 := A0 h9_; have NB760_768 := A0 h10_; have NB768_760 := A0 h11_; have HB := A0 h12_
                  clear h0_ h1_ h2_ h3_ h4_ h5_ h6_ h7_ h8_ h9_ h10_ h11_ h12_
                  have hHeld := hS_
                  refine norm_ (a' := ?_) ?_ ?_; rotate_left; focus (simp only [putAll, Act.put, s1, s2, s3]; rfl)
                  refine two_ (i := 3) (j := 9) (Ni := some 52) (Nj := some 12) #[T, T, T, T, O, O, O, O, T, O, O, O, O] #[T, T, T, O, O, O, O, O, T, T, O, O, O] rfl rfl rfl rfl (two_of HT_.out (by kernel_rfl)) (by decide) (by decide) (fun K hK => ?_) (fun K hK => ?_)
                  · skip
                    refine goes_ Try.func27 (by kernel_rfl) rfl #[.agg #[.int .i64 t761, .int .u64 t762], .agg #[.int .i64 t757, .int .u64 t758]] (by rfl) rfl rfl (by (try simp only [List.map_toArray, List.map_cons, List.map_nil]); first | done | rfl | (simp only [List.length_drop, List.length_take]; rfl)) ?_
                    with_reducible refine (wide_Div.calls kj2 t761 t762 t757 t758 t763 t764 t765 t766 t767 _ A42.out).mono ?_
                    rintro e w55 ⟨rfl, hb⟩
                    refine ⟨_, rfl, ?_⟩
                    replace BK743 := kb BK743 hb
                    replace BK744 := kb BK744 hb
                    replace BK760 := kb BK760 hb
                    replace BK768 := kb BK768 hb
                    replace HB := kB HB hb
                    (try clear hb); (try clear hb2); (try clear hk); (try clear hi)
                    refine hK.out _ _ ⟨kc BK743 0, kc BK743 1, kc BK743 2, kc BK743 3, kc BK760 0, kc BK760 1⟩ (fun hHeld => ?_)
                    clear hK K
                    refine norm_ (a' := ?_) ?_ ?_; rotate_left; focus (show Act.put _ (some 52) _ = _; simp only [Act.put, s1, s2, s3, i64_w, i32_w]; rfl)
                    refine pure_ (i := 4) (N := some 48) (v := ?_) (a' := ?_) #[T, T, T, T, T, O, O, O, T, O, O, O, O] rfl rfl (any_of HT_.out (by kernel_rfl)) (fun _ _ _ h => h) (Or.inl ⟨by rfl, ?_⟩) ?_ ?_; rotate_left; focus (intro w'; go_simp; with_reducible rfl)
                    rotate_left; focus (simp only [Act.put, s1, s2, s3, i64_w, i32_w]; rfl)
                    refine pure_ (i := 5) (N := some 53) (v := ?_) (a' := ?_) #[T, T, T, T, T, T, O, O, T, O, O, O, O] rfl rfl (any_of HT_.out (by kernel_rfl)) (fun _ _ _ h => h) (Or.inl ⟨by rfl, ?_⟩) ?_ ?_; rotate_left; focus (intro w'; go_simp; with_reducible rfl)
                    rotate_left; focus (simp only [Act.put, s1, s2, s3, i64_w, i32_w]; rfl)
                    refine pure_ (i := 6) (N := some 54) (v := ?_) (a' := ?_) #[T, T, T, T, T, T, T, O, T, O, O, O, O] rfl rfl (any_of HT_.out (by kernel_rfl)) (fun _ _ _ h => h) (Or.inl ⟨by rfl, ?_⟩) ?_ ?_; rotate_left; focus (intro w'; go_simp; with_reducible rfl)
                    rotate_left; focus (simp only [Act.put, s1, s2, s3, i64_w, i32_w]; rfl)
                    refine pure_ (i := 7) (N := some 55) (v := ?_) (a' := ?_) #[T, T, T, T, T, T, T, T, T, O, O, O, O] rfl rfl (any_of HT_.out (by kernel_rfl)) (fun _ _ _ h => h) (Or.inl ⟨by rfl, ?_⟩) ?_ ?_; rotate_left; focus (intro w'; go_simp; with_reducible rfl)
                    rotate_left; focus (simp only [Act.put, s1, s2, s3, i64_w, i32_w]; rfl)
                    exact norm_ (by first | (simp only [putAll, Act.put, s1, s2, s3]; done) | (simp only [putAll, Act.put, s1, s2, s3]; rfl)) (hJ1_3_8 (gb768) _ ⟨hHeld, (kx BK743), (kx BK744), (kx BK760), (kx BK768), GW768.out, GE768.out, NB743_768.out, NB768_743.out, NB744_768.out, NB768_744.out, NB760_768.out, NB768_760.out, (ky HB)⟩)
                  · skip
                    refine box_step ?hg (N := 12) ?hd (cs := #[.int .i64 0, .int .u64 0]) (t := 24) ?hr ?_; (case hd => rfl); (case hg => rfl); (case hr => first | (go_simp; done) | (go_simp; rfl))
                    intro gb769 hg w55 hbox hb
                    have BK769 := Aside0.mk (hbox)
                    have GW769 := kS HB hg
                    have GE769 := kS HB hg
                    have NB743_769 := kN BK743 hg
                    have NB769_743 := kM BK743 hg
                    have NB744_769 := kN BK744 hg
                    have NB769_744 := kM BK744 hg
                    have NB760_769 := kN BK760 hg
                    have NB769_760 := kM BK760 hg
                    have NB768_769 := kN BK768 hg
                    have NB769_768 := kM BK768 hg
                    replace BK743 := kb BK743 hb
                    replace BK744 := kb BK744 hb
                    replace BK760 := kb BK760 hb
                    replace BK768 := kb BK768 hb
                    replace HB := kB HB hb
                    clear hb hbox hg
                    refine hK.out _ _ ⟨kc BK743 0, kc BK743 1, kc BK743 2, kc BK743 3, kc BK760 0, kc BK760 1⟩ (fun hHeld => ?_)
                    clear hK K
                    refine norm_ (a' := ?_) ?_ ?_; rotate_left; focus (show Act.put _ (some 12) _ = _; simp only [Act.put, s1, s2, s3, i64_w, i32_w]; rfl)
                    exact norm_ (by first | (simp only [putAll, Act.put, s1, s2, s3]; done) | (simp only [putAll, Act.put, s1, s2, s3]; rfl)) (hJ1_8_9 (gb768, gb769) _ ⟨hHeld, (kx BK743), (kx BK744), (kx BK760), (kx BK768), (kx BK769), GW768.out, GE768.out, NB743_768.out, NB768_743.out, NB744_768.out, NB768_744.out, NB760_768.out, NB768_760.out, NB769_768.out, NB768_769.out, GW769.out, GE769.out, NB743_769.out, NB769_743.out, NB744_769.out, NB769_744.out, NB760_769.out, NB769_760.out, (ky HB)⟩)
              · skip
                rintro _ w54 ⟨hS_, h0_, h1_, h2_, h3_⟩
                clear BK743 BK744 BK760 HB
                have BK743 := A0 h0_; have BK744 := A0 h1_; have BK760 := A0 h2_; have HB := A0 h3_
                clear h0_ h1_ h2_ h3_
                have hHeld := hS_
                refine norm_ (a' := ?_) ?_ ?_; rotate_left; focus (simp only [putAll, Act.put, s1, s2, s3]; rfl)
                refine two_ (i := 8) (j := 9) (Ni := some 11) (Nj := some 12) #[T, T, T, T, T, T, T, T, T, O, O, O, O] #[T, T, T, T, T, T, T, T, O, T, O, O, O] rfl rfl rfl rfl (two_of HT_.out (by kernel_rfl)) (by decide) (by decide) (fun K hK => ?_) (fun K hK => ?_)
                · skip
                  refine box_step ?hg (N := 11) ?hd (cs := #[.int .i64 0, .int .u64 0]) (t := 24) ?hr ?_; (case hd => rfl); (case hg => rfl); (case hr => first | (go_simp; done) | (go_simp; rfl))
                  intro gb768 hg w55 hbox hb
                  have BK768 := Aside0.mk (hbox)
                  have GW768 := kS HB hg
                  have GE768 := kS HB hg
                  have NB743_768 := kN BK743 hg
                  have NB768_743 := kM BK743 hg
                  have NB744_768 := kN BK744 hg
                  have NB768_744 := kM BK744 hg
                  have NB760_768 := kN BK760 hg
                  have NB768_760 := kM BK760 hg
                  replace BK743 := kb BK743 hb
                  replace BK744 := kb BK744 hb
                  replace BK760 := kb BK760 hb
                  replace HB := kB HB hb
                  clear hb hbox hg
                  refine hK.out _ _ ⟨kc BK743 0, kc BK743 1, kc BK743 2, kc BK743 3, kc BK760 0, kc BK760 1⟩ (fun hHeld => ?_)
                  clear hK K
                  refine norm_ (a' := ?_) ?_ ?_; rotate_left; focus (show Act.put _ (some 11) _ = _; simp only [Act.put, s1, s2, s3, i64_w, i32_w]; rfl)
                  exact norm_ (by first | (simp only [putAll, Act.put, s1, s2, s3]; done) | (simp only [putAll, Act.put, s1, s2, s3]; rfl)) (hJ1_3_8 (gb768) _ ⟨hHeld, (kx BK743), (kx BK744), (kx BK760), (kx BK768), GW768.out, GE768.out, NB743_768.out, NB768_743.out, NB744_768.out, NB768_744.out, NB760_768.out, NB768_760.out, (ky HB)⟩)
                · skip
                  refine box_step ?hg (N := 12) ?hd (cs := #[.int .i64 0, .int .u64 0]) (t := 24) ?hr ?_; (case hd => rfl); (case hg => rfl); (case hr => first | (go_simp; done) | (go_simp; rfl))
                  intro gb769 hg w55 hbox hb
                  have BK769 := Aside0.mk (hbox)
                  have GW769 := kS HB hg
                  have GE769 := kS HB hg
                  have NB743_769 := kN BK743 hg
                  have NB769_743 := kM BK743 hg
                  have NB744_769 := kN BK744 hg
                  have NB769_744 := kM BK744 hg
                  have NB760_769 := kN BK760 hg
                  have NB769_760 := kM BK760 hg
                  replace BK743 := kb BK743 hb
                  replace BK744 := kb BK744 hb
                  replace BK760 := kb BK760 hb
                  replace HB := kB HB hb
                  clear hb hbox hg
                  refine hK.out _ _ ⟨kc BK743 0, kc BK743 1, kc BK743 2, kc BK743 3, kc BK760 0, kc BK760 1⟩ (fun hHeld => ?_)
                  clear hK K
                  refine norm_ (a' := ?_) ?_ ?_; rotate_left; focus (show Act.put _ (some 12) _ = _; simp only [Act.put, s1, s2, s3, i64_w, i32_w]; rfl)
                  exact norm_ (by first | (simp only [putAll, Act.put, s1, s2, s3]; done) | (simp only [putAll, Act.put, s1, s2, s3]; rfl)) (hJ1_3_9 (gb769) _ ⟨hHeld, (kx BK743), (kx BK744), (kx BK760), (kx BK769), GW769.out, GE769.out, NB743_769.out, NB769_743.out, NB744_769.out, NB769_744.out, NB760_769.out, NB769_760.out, (ky HB)⟩)
            · skip
              rintro ⟨gb768, gb769⟩ w55 ⟨hS_, h0_, h1_, h2_, h3_, h4_, h5_, h6_, h7_, h8_, h9_, h10_, h11_, h12_, h13_, h14_, h15_, h16_, h17_, h18_, h19_, h20_, h21_, h22_, h23_⟩
              clear BK743 BK744 BK760 HB
              have BK743 := A0 h0_; have BK744 := A0 h1_; have BK760 := A0 h2_; have BK768 := A0 h3_; have BK769 := A0 h4_; have GW768 := A0 h5_; have GE768 := A0 h6_; have NB743_768 := A0 h7_; have NB768_743 := A0 h8_; have NB744_768 := A0 h9_; have NB768_744 := A0 h10_; have NB760_768 := A0 h11_; have NB768_760 := A0 h12_; have NB769_768 := A0 h13_; have NB768_769 := A0 h14_; have GW769 := A0 h15_; have GE769 := A0 h16_; have NB743_769 := A0 h17_; have NB769_743 := A0 h18_; have NB744_769 := A0 h19_; have NB769_744 := A0 h20_; have NB760_769 := A0 h21_; have NB769_760 := A0 h22_; have HB := A0 h23_
              clear h0_ h1_ h2_ h3_ h4_ h5_ h6_ h7_ h8_ h9_ h10_ h11_ h12_ h13_ h14_ h15_ h16_ h17_ h18_ h19_ h20_ h21_ h22_ h23_
              have hHeld := hS_
              refine norm_ (a' := ?_) ?_ ?_; rotate_left; focus (simp only [putAll, Act.put, s1, s2, s3]; rfl)
              refine one_ (i := 3) (N := some 52) #[T, T, T, T, O, O, O, O, T, T, O, O, O] rfl rfl (one_of HT_.out (by kernel_rfl)) (by decide) (fun K hK => ?_)
              refine goes_ Try.func27 (by kernel_rfl) rfl #[.agg #[.int .i64 t761, .int .u64 t762], .agg #[.int .i64 t757, .int .u64 t758]] (by rfl) rfl rfl (by (try simp only [List.map_toArray, List.map_cons, List.map_nil]); first | done | rfl | (simp only [List.length_drop, List.length_take]; rfl)) ?_
              with_reducible refine (wide_Div.calls kj2 t761 t762 t757 t758 t763 t764 t765 t766 t767 _ A42.out).mono ?_
              rintro e w56 ⟨rfl, hb⟩
              refine ⟨_, rfl, ?_⟩
              replace BK743 := kb BK743 hb
              replace BK744 := kb BK744 hb
              replace BK760 := kb BK760 hb
              replace BK768 := kb BK768 hb
              replace BK769 := kb BK769 hb
              replace HB := kB HB hb
              (try clear hb); (try clear hb2); (try clear hk); (try clear hi)
              refine hK.out _ _ ⟨kc BK743 0, kc BK743 1, kc BK743 2, kc BK743 3, kc BK760 0, kc BK760 1⟩ (fun hHeld => ?_)
              clear hK K
              refine norm_ (a' := ?_) ?_ ?_; rotate_left; focus (show Act.put _ (some 52) _ = _; simp only [Act.put, s1, s2, s3, i64_w, i32_w]; rfl)
              refine pure_ (i := 4) (N := some 48) (v := ?_) (a' := ?_) #[T, T, T, T, T, O, O, O, T, T, O, O, O] rfl rfl (any_of HT_.out (by kernel_rfl)) (fun _ _ _ h => h) (Or.inl ⟨by rfl, ?_⟩) ?_ ?_; rotate_left; focus (intro w'; go_simp; with_reducible rfl)
              rotate_left; focus (simp only [Act.put, s1, s2, s3, i64_w, i32_w]; rfl)
              refine pure_ (i := 5) (N := some 53) (v := ?_) (a' := ?_) #[T, T, T, T, T, T, O, O, T, T, O, O, O] rfl rfl (any_of HT_.out (by kernel_rfl)) (fun _ _ _ h => h) (Or.inl ⟨by rfl, ?_⟩) ?_ ?_; rotate_left; focus (intro w'; go_simp; with_reducible rfl)
              rotate_left; focus (simp only [Act.put, s1, s2, s3, i64_w, i32_w]; rfl)
              refine pure_ (i := 6) (N := some 54) (v := ?_) (a' := ?_) #[T, T, T, T, T, T, T, O, T, T, O, O, O] rfl rfl (any_of HT_.out (by kernel_rfl)) (fun _ _ _ h => h) (Or.inl ⟨by rfl, ?_⟩) ?_ ?_; rotate_left; focus (intro w'; go_simp; with_reducible rfl)
              rotate_left; focus (simp only [Act.put, s1, s2, s3, i64_w, i32_w]; rfl)
              refine pure_ (i := 7) (N := some 55) (v := ?_) (a' := ?_) #[T, T, T, T, T, T, T, T, T, T, O, O, O] rfl rfl (any_of HT_.out (by kernel_rfl)) (fun _ _ _ h => h) (Or.inl ⟨by rfl, ?_⟩) ?_ ?_; rotate_left; focus (intro w'; go_simp; with_reducible rfl)
              rotate_left; focus (simp only [Act.put, s1, s2, s3, i64_w, i32_w]; rfl)
              exact norm_ (by first | (simp only [putAll, Act.put, s1, s2, s3]; done) | (simp only [putAll, Act.put, s1, s2, s3]; rfl)) (hJ1_3_8_9 (gb768, gb769) _ ⟨hHeld, (kx BK743), (kx BK744), (kx BK760), (kx BK768), (kx BK769), GW768.out, GE768.out, NB743_768.out, NB768_743.out, NB744_768.out, NB768_744.out, NB760_768.out, NB768_760.out, NB769_768.out, NB768_769.out, GW769.out, GE769.out, NB743_769.out, NB769_743.out, NB744_769.out, NB769_744.out, NB760_769.out, NB769_760.out, (ky HB)⟩)
          · skip
            rintro gb769 w55 ⟨hS_, h0_, h1_, h2_, h3_, h4_, h5_, h6_, h7_, h8_, h9_, h10_, h11_, h12_⟩
            clear BK743 BK744 BK760 HB
            have BK743 := A0 h0_; have BK744 := A0 h1_; have BK760 := A0 h2_; have BK769 := A0 h3_; have GW769 := A0 h4_; have GE769 := A0 h5_; have NB743_769 := A0 h6_; have NB769_743 := A0 h7_; have NB744_769 := A0 h8_; have NB769_744 := A0 h9_; have NB760_769 := A0 h10_; have NB769_760 := A0 h11_; have HB := A0 h12_
            clear h0_ h1_ h2_ h3_ h4_ h5_ h6_ h7_ h8_ h9_ h10_ h11_ h12_
            have hHeld := hS_
            refine norm_ (a' := ?_) ?_ ?_; rotate_left; focus (simp only [putAll, Act.put, s1, s2, s3]; rfl)
            refine one_ (i := 8) (N := some 11) #[T, T, T, T, T, T, T, T, T, T, O, O, O] rfl rfl (one_of HT_.out (by kernel_rfl)) (by decide) (fun K hK => ?_)
            refine box_step ?hg (N := 11) ?hd (cs := #[.int .i64 0, .int .u64 0]) (t := 24) ?hr ?_; (case hd => rfl); (case hg => rfl); (case hr => first | (go_simp; done) | (go_simp; rfl))
            intro gb768 hg w56 hbox hb
            have BK768 := Aside0.mk (hbox)
            have GW768 := kS HB hg
            have GE768 := kS HB hg
            have NB743_768 := kN BK743 hg
            have NB768_743 := kM BK743 hg
            have NB744_768 := kN BK744 hg
            have NB768_744 := kM BK744 hg
            have NB760_768 := kN BK760 hg
            have NB768_760 := kM BK760 hg
            have NB769_768 := kN BK769 hg
            have NB768_769 := kM BK769 hg
            replace BK743 := kb BK743 hb
            replace BK744 := kb BK744 hb
            replace BK760 := kb BK760 hb
            replace BK769 := kb BK769 hb
            replace HB := kB HB hb
            clear hb hbox hg
            refine hK.out _ _ ⟨kc BK743 0, kc BK743 1, kc BK743 2, kc BK743 3, kc BK760 0, kc BK760 1⟩ (fun hHeld => ?_)
            clear hK K
            refine norm_ (a' := ?_) ?_ ?_; rotate_left; focus (show Act.put _ (some 11) _ = _; simp only [Act.put, s1, s2, s3, i64_w, i32_w]; rfl)
            exact norm_ (by first | (simp only [putAll, Act.put, s1, s2, s3]; done) | (simp only [putAll, Act.put, s1, s2, s3]; rfl)) (hJ1_3_8_9 (gb768, gb769) _ ⟨hHeld, (kx BK743), (kx BK744), (kx BK760), (kx BK768), (kx BK769), GW768.out, GE768.out, NB743_768.out, NB768_743.out, NB744_768.out, NB768_744.out, NB760_768.out, NB768_760.out, NB769_768.out, NB768_769.out, GW769.out, GE769.out, NB743_769.out, NB769_743.out, NB744_769.out, NB769_744.out, NB760_769.out, NB769_760.out, (ky HB)⟩)
        · skip
          rintro gb768 w55 ⟨hS_, h0_, h1_, h2_, h3_, h4_, h5_, h6_, h7_, h8_, h9_, h10_, h11_, h12_⟩
          clear BK743 BK744 BK760 HB
          have BK743 := A0 h0_; have BK744 := A0 h1_; have BK760 := A0 h2_; have BK768 := A0 h3_; have GW768 := A0 h4_; have GE768 := A0 h5_; have NB743_768 := A0 h6_; have NB768_743 := A0 h7_; have NB744_768 := A0 h8_; have NB768_744 := A0 h9_; have NB760_768 := A0 h10_; have NB768_760 := A0 h11_; have HB := A0 h12_
          clear h0_ h1_ h2_ h3_ h4_ h5_ h6_ h7_ h8_ h9_ h10_ h11_ h12_
          have hHeld := hS_
          refine norm_ (a' := ?_) ?_ ?_; rotate_left; focus (simp only [putAll, Act.put, s1, s2, s3]; rfl)
          refine one_ (i := 9) (N := some 12) #[T, T, T, T, T, T, T, T, T, T, O, O, O] rfl rfl (one_of HT_.out (by kernel_rfl)) (by decide) (fun K hK => ?_)
          refine box_step ?hg (N := 12) ?hd (cs := #[.int .i64 0, .int .u64 0]) (t := 24) ?hr ?_; (case hd => rfl); (case hg => rfl); (case hr => first | (go_simp; done) | (go_simp; rfl))
          intro gb769 hg w56 hbox hb
          have BK769 := Aside0.mk (hbox)
          have GW769 := kS HB hg
          have GE769 := kS HB hg
          have NB743_769 := kN BK743 hg
          have NB769_743 := kM BK743 hg
          have NB744_769 := kN BK744 hg
          have NB769_744 := kM BK744 hg
          have NB760_769 := kN BK760 hg
          have NB769_760 := kM BK760 hg
          have NB768_769 := kN BK768 hg
          have NB769_768 := kM BK768 hg
          replace BK743 := kb BK743 hb
          replace BK744 := kb BK744 hb
          replace BK760 := kb BK760 hb
          replace BK768 := kb BK768 hb
          replace HB := kB HB hb
          clear hb hbox hg
          refine hK.out _ _ ⟨kc BK743 0, kc BK743 1, kc BK743 2, kc BK743 3, kc BK760 0, kc BK760 1⟩ (fun hHeld => ?_)
          clear hK K
          refine norm_ (a' := ?_) ?_ ?_; rotate_left; focus (show Act.put _ (some 12) _ = _; simp only [Act.put, s1, s2, s3, i64_w, i32_w]; rfl)
          exact norm_ (by first | (simp only [putAll, Act.put, s1, s2, s3]; done) | (simp only [putAll, Act.put, s1, s2, s3]; rfl)) (hJ1_3_8_9 (gb768, gb769) _ ⟨hHeld, (kx BK743), (kx BK744), (kx BK760), (kx BK768), (kx BK769), GW768.out, GE768.out, NB743_768.out, NB768_743.out, NB744_768.out, NB768_744.out, NB760_768.out, NB768_760.out, NB769_768.out, NB768_769.out, GW769.out, GE769.out, NB743_769.out, NB769_743.out, NB744_769.out, NB769_744.out, NB760_769.out, NB769_760.out, (ky HB)⟩)
      rintro ⟨gb768, gb769⟩ w56 ⟨hS_, h0_, h1_, h2_, h3_, h4_, h5_, h6_, h7_, h8_, h9_, h10_, h11_, h12_, h13_, h14_, h15_, h16_, h17_, h18_, h19_, h20_, h21_, h22_, h23_⟩
      clear BK743 BK744 BK760 HB
      have BK743 := A0 h0_; have BK744 := A0 h1_; have BK760 := A0 h2_; have BK768 := A0 h3_; have BK769 := A0 h4_; have GW768 := A0 h5_; have GE768 := A0 h6_; have NB743_768 := A0 h7_; have NB768_743 := A0 h8_; have NB744_768 := A0 h9_; have NB768_744 := A0 h10_; have NB760_768 := A0 h11_; have NB768_760 := A0 h12_; have NB769_768 := A0 h13_; have NB768_769 := A0 h14_; have GW769 := A0 h15_; have GE769 := A0 h16_; have NB743_769 := A0 h17_; have NB769_743 := A0 h18_; have NB744_769 := A0 h19_; have NB769_744 := A0 h20_; have NB760_769 := A0 h21_; have NB769_760 := A0 h22_; have HB := A0 h23_
      clear h0_ h1_ h2_ h3_ h4_ h5_ h6_ h7_ h8_ h9_ h10_ h11_ h12_ h13_ h14_ h15_ h16_ h17_ h18_ h19_ h20_ h21_ h22_ h23_
      have hHeld := hS_
      refine norm_ (a' := ?_) ?_ ?_; rotate_left; focus (simp only [putAll, Act.put, s1, s2, s3]; rfl)
      refine one_ (i := 10) (N := none) #[T, T, T, T, T, T, T, T, T, T, T, O, O] rfl rfl (one_of HT_.out (by kernel_rfl)) (by decide) (fun K hK => ?_)
      have hs57 : w56.cell? ⟨gb768, 0, none⟩ = some (.int .i64 0) := kc BK768 0
      have hfs57 := blk_frozen BK768.out 0
      have hns57_0 := NB743_768.out; have hns57_1 := NB744_768.out; have hns57_2 := NB760_768.out; have hns57_4 := NB769_768.out; have hms57_0 := NB768_743.out; have hms57_1 := NB768_744.out; have hms57_2 := NB768_760.out; have hms57_4 := NB768_769.out
      have hs58 : w56.cell? ⟨gb768, 1, none⟩ = some (.int .u64 0) := kc BK768 1
      have hfs58 := blk_frozen BK768.out 1
      have hns58_0 := NB743_768.out; have hns58_1 := NB744_768.out; have hns58_2 := NB760_768.out; have hns58_4 := NB769_768.out; have hms58_0 := NB768_743.out; have hms58_1 := NB768_744.out; have hms58_2 := NB768_760.out; have hms58_4 := NB768_769.out
      refine skip_ (w1 := ?_) (by rfl) rfl ?_ ?_
      rotate_left
      · go_simp
        rfl
      refine hK.out _ _ ⟨((cell_far (p := ⟨gb768, _, none⟩) NB743_768.out _).trans (((cell_far (p := ⟨gb768, _, none⟩) NB743_768.out _).trans (hHeld.1)))), ((cell_far (p := ⟨gb768, _, none⟩) NB743_768.out _).trans (((cell_far (p := ⟨gb768, _, none⟩) NB743_768.out _).trans (hHeld.2.1)))), ((cell_far (p := ⟨gb768, _, none⟩) NB743_768.out _).trans (((cell_far (p := ⟨gb768, _, none⟩) NB743_768.out _).trans (hHeld.2.2.1)))), ((cell_far (p := ⟨gb768, _, none⟩) NB743_768.out _).trans (((cell_far (p := ⟨gb768, _, none⟩) NB743_768.out _).trans (hHeld.2.2.2.1)))), ((cell_far (p := ⟨gb768, _, none⟩) NB760_768.out _).trans (((cell_far (p := ⟨gb768, _, none⟩) NB760_768.out _).trans (hHeld.2.2.2.2.1)))), ((cell_far (p := ⟨gb768, _, none⟩) NB760_768.out _).trans (((cell_far (p := ⟨gb768, _, none⟩) NB760_768.out _).trans (hHeld.2.2.2.2.2))))⟩ (fun hHeld => ?_)
      clear hK K
      refine one_ (i := 11) (N := none) #[T, T, T, T, T, T, T, T, T, T, T, T, O] rfl rfl (one_of HT_.out (by kernel_rfl)) (by decide) (fun K hK => ?_)
      have hs59 : w56.cell? ⟨gb769, 0, none⟩ = some (.int .i64 0) := kc BK769 0
      have hfs59 := blk_frozen BK769.out 0
      have hns59_0 := NB743_769.out; have hns59_1 := NB744_769.out; have hns59_2 := NB760_769.out; have hns59_3 := NB768_769.out; have hms59_0 := NB769_743.out; have hms59_1 := NB769_744.out; have hms59_2 := NB769_760.out; have hms59_3 := NB769_768.out
      have hs60 : w56.cell? ⟨gb769, 1, none⟩ = some (.int .u64 0) := kc BK769 1
      have hfs60 := blk_frozen BK769.out 1
      have hns60_0 := NB743_769.out; have hns60_1 := NB744_769.out; have hns60_2 := NB760_769.out; have hns60_3 := NB768_769.out; have hms60_0 := NB769_743.out; have hms60_1 := NB769_744.out; have hms60_2 := NB769_760.out; have hms60_3 := NB769_768.out
      refine skip_ (w1 := ?_) (by rfl) rfl ?_ ?_
      rotate_left
      · go_simp
        rfl
      refine hK.out _ _ ⟨((cell_far (p := ⟨gb769, _, none⟩) NB743_769.out _).trans (((cell_far (p := ⟨gb769, _, none⟩) NB743_769.out _).trans (hHeld.1)))), ((cell_far (p := ⟨gb769, _, none⟩) NB743_769.out _).trans (((cell_far (p := ⟨gb769, _, none⟩) NB743_769.out _).trans (hHeld.2.1)))), ((cell_far (p := ⟨gb769, _, none⟩) NB743_769.out _).trans (((cell_far (p := ⟨gb769, _, none⟩) NB743_769.out _).trans (hHeld.2.2.1)))), ((cell_far (p := ⟨gb769, _, none⟩) NB743_769.out _).trans (((cell_far (p := ⟨gb769, _, none⟩) NB743_769.out _).trans (hHeld.2.2.2.1)))), ((cell_far (p := ⟨gb769, _, none⟩) NB760_769.out _).trans (((cell_far (p := ⟨gb769, _, none⟩) NB760_769.out _).trans (hHeld.2.2.2.2.1)))), ((cell_far (p := ⟨gb769, _, none⟩) NB760_769.out _).trans (((cell_far (p := ⟨gb769, _, none⟩) NB760_769.out _).trans (hHeld.2.2.2.2.2))))⟩ (fun hHeld => ?_)
      clear hK K
      refine pure_ (i := 12) (N := some 13) (v := ?_) (a' := ?_) #[T, T, T, T, T, T, T, T, T, T, T, T, T] rfl rfl (any_of HT_.out (by kernel_rfl)) (fun _ _ _ h => h) (Or.inl ⟨by rfl, ?_⟩) ?_ ?_; rotate_left; focus (intro w'; go_simp; with_reducible rfl)
      rotate_left; focus (simp only [Act.put, s1, s2, s3, i64_w, i32_w]; rfl)
      refine done_ (done_of HT_.out (by kernel_rfl)) ?_
      have hnb61 := NB768_743.out; have hnc61 := NB743_768.out; have hnb62 := NB768_744.out; have hnc62 := NB744_768.out; have hnb63 := NB768_760.out; have hnc63 := NB760_768.out; have hnb64 := NB768_769.out; have hnc64 := NB769_768.out
      have hcz65_0 : w56.cell? ⟨gb768, 0, none⟩ = some (.int .i64 0) := kc BK768 0
      have hcz65_1 : w56.cell? ⟨gb768, 1, none⟩ = some (.int .u64 0) := kc BK768 1
      have hfz65_0 := blk_frozen BK768.out 0
      have hfz65_1 := blk_frozen BK768.out 1
      have hnb66 := NB769_743.out; have hnc66 := NB743_769.out; have hnb67 := NB769_744.out; have hnc67 := NB744_769.out; have hnb68 := NB769_760.out; have hnc68 := NB760_769.out
      have hcz69_0 : w56.cell? ⟨gb769, 0, none⟩ = some (.int .i64 0) := kc BK769 0
      have hcz69_1 : w56.cell? ⟨gb769, 1, none⟩ = some (.int .u64 0) := kc BK769 1
      have hfz69_0 := blk_frozen BK769.out 0
      have hfz69_1 := blk_frozen BK769.out 1
      have hcz70_0 : w56.cell? ⟨gb760, 0, none⟩ = some (.int .i64 t757) := kc BK760 0
      have hcz70_1 : w56.cell? ⟨gb760, 1, none⟩ = some (.int .u64 t758) := kc BK760 1
      have hfz70_0 := blk_frozen BK760.out 0
      have hfz70_1 := blk_frozen BK760.out 1
      try go_wp2_with (first | ((with_reducible refine gate_callee (f := 75) rfl ?_); refine goesL_ (some 59) rfl rfl Try.func75 (by kernel_rfl) rfl #[.agg #[.int .i64 t763, .int .u64 t764], .agg #[.int .i64 t765, .int .u64 t766], .agg #[.int .i64 t757, .int .u64 t758]] rfl (by (try simp only [List.map_toArray, List.map_cons, List.map_nil]); first | done | rfl | (simp only [List.length_drop, List.length_take]; rfl)) ?_; (with_reducible refine (frac_up.calls kj2 t763 t764 t765 t766 t757 t758 t770 t771 _ A43.out).mono ?_); rintro e w71 ⟨rfl, hb⟩; refine ⟨_, rfl, ?_⟩; have n0_ := kb BK743 hb; have n1_ := kb BK744 hb; have n2_ := kb BK760 hb; have n3_ := Aside0.mk (blk_below (g := gb768) (o := .cells #[.int .i64 t763, .int .u64 t764] 24 (0, 0)) (by (with_reducible repeat (first | refine blk_drewN ?_ _ | refine blk_drew ?_ | refine blk_alloc ?_ _)); refine blk_far ?_ NB768_769.out _; (with_reducible repeat (first | refine blk_drewN ?_ _ | refine blk_drew ?_ | refine blk_alloc ?_ _)); refine blk_far ?_ NB768_769.out _; (with_reducible repeat (first | refine blk_drewN ?_ _ | refine blk_drew ?_ | refine blk_alloc ?_ _)); refine blk_put (cs := #[.int .i64 t763, .int .u64 0]) ?_ 1 _ rfl; (with_reducible repeat (first | refine blk_drewN ?_ _ | refine blk_drew ?_ | refine blk_alloc ?_ _)); refine blk_put (cs := #[.int .i64 0, .int .u64 0]) ?_ 0 _ rfl; (with_reducible repeat (first | refine blk_drewN ?_ _ | refine blk_drew ?_ | refine blk_alloc ?_ _)); exact BK768.out) hb); have n4_ := Aside0.mk (blk_below (g := gb769) (o := .cells #[.int .i64 t765, .int .u64 t766] 24 (0, 0)) (by (with_reducible repeat (first | refine blk_drewN ?_ _ | refine blk_drew ?_ | refine blk_alloc ?_ _)); refine blk_put (cs := #[.int .i64 t765, .int .u64 0]) ?_ 1 _ rfl; (with_reducible repeat (first | refine blk_drewN ?_ _ | refine blk_drew ?_ | refine blk_alloc ?_ _)); refine blk_put (cs := #[.int .i64 0, .int .u64 0]) ?_ 0 _ rfl; (with_reducible repeat (first | refine blk_drewN ?_ _ | refine blk_drew ?_ | refine blk_alloc ?_ _)); refine blk_far ?_ NB769_768.out _; (with_reducible repeat (first | refine blk_drewN ?_ _ | refine blk_drew ?_ | refine blk_alloc ?_ _)); refine blk_far ?_ NB769_768.out _; (with_reducible repeat (first | refine blk_drewN ?_ _ | refine blk_drew ?_ | refine blk_alloc ?_ _)); exact BK769.out) hb); have n5_ := kB HB hb; clear BK743; clear BK744; clear BK760; clear BK768; clear BK769; clear HB; have BK743 := n0_; have BK744 := n1_; have BK760 := n2_; have BK768 := n3_; have BK769 := n4_; have HB := n5_; clear n0_ n1_ n2_ n3_ n4_ n5_; (try clear hb); (try clear hb2); (try clear hk); (try clear hi); have hnb72 := NB744_743.out; have hnc72 := NB743_744.out; have hcz73_0 : w71.cell? ⟨gb744, 0, none⟩ = some (.int .i64 0) := kc BK744 0; have hcz73_1 : w71.cell? ⟨gb744, 1, none⟩ = some (.int .u64 0) := kc BK744 1; have hfz73_0 := blk_frozen BK744.out 0; have hfz73_1 := blk_frozen BK744.out 1))
      refine bodyPost_ret (results_ct rfl _ _ gb744 24 #[.int .i64 t770, .int .u64 t771] (0, 0) _ rfl (by (with_reducible repeat (first | refine blk_drewN ?_ _ | refine blk_drew ?_ | refine blk_alloc ?_ _)); refine blk_put (cs := #[.int .i64 t770, .int .u64 0]) ?_ 1 _ rfl; (with_reducible repeat (first | refine blk_drewN ?_ _ | refine blk_drew ?_ | refine blk_alloc ?_ _)); refine blk_put (cs := #[.int .i64 0, .int .u64 0]) ?_ 0 _ rfl; (with_reducible repeat (first | refine blk_drewN ?_ _ | refine blk_drew ?_ | refine blk_alloc ?_ _)); exact BK744.out) Try.underlying24 rfl (by kernel_rfl)) rfl ?_
      exact ⟨by first | rfl | (simp [errW_none, errW_some] <;> rfl) | (simp [*, errW_none, errW_some] <;> rfl), ky HB⟩

end Go.Proofs.Ytpjbniihdndlmaa.Q
