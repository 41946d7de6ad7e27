-- Printed by wip/pp.sh (a session's own turning of the kit's print) for this seat.
import Derived.Test.YtpjbniihdndlmabQx0
import Derived.Test.YtpjbniihdndlmabQx5
import Derived.Test.YtpjbniihdndlmabQx6
import Derived.Test.YtpjbniihdndlmabQx7
namespace Go.Proofs.Ytpjbniihdndlmab.Q
open Go.RowKit Go.Proofs.YtpjbniihdndlmabW.PrintWords Go.Proofs.YtpjbniihdndlmabW.PrintLast Go.Proofs.YtpjbniihdndlmabW.PrintMore
open Go.Proofs.Ytpjbniihdndlmab.H
attribute [local go_sem] hq_add64 hq_sub64 hq_not64 add64c_nn sub64c_nn sub64c_le
attribute [local go_sem] max2_int min2_int max_two min_two max_three min_three max_four min_four   -- for this text's walks alone
set_option linter.unusedVariables false
set_option linter.unusedSimpArgs false

/-! ### frac_Snap: function 26 -/
def frac_Snap.j0 : Nat → Int → Bool → Int → Int → Int → Int → Option (Int × Int × Bool)
  | 0, _, _, _, _, _, _ => none
  | k + 1, x1, x24, x259000, x259001, x259002, x259003 => if x24 = true then (some (0, 0, false)) else (if x1 = 0 then ((wide_Div.f k x259000 x259001 x259002 x259003).bind fun bt261 => ((frac_up.f k bt261.1 bt261.2.1 bt261.2.2.1 bt261.2.2.2.1 x259002 x259003).bind fun bt268 => (some (bt268.1, bt268.2, true)))) else ((wide_Of.f 1).bind fun bt270 => ((wide_Shl.f k bt270.1 bt270.2 x1).bind fun bt272 => ((frac_Floor.f k x259000 x259001 x259002 x259003).bind fun bt276 => ((wide_Div.f k bt276.1 bt276.2 bt272.1 bt272.2.1).bind fun bt278 => ((frac_up.f k bt278.1 bt278.2.1 bt278.2.2.1 bt278.2.2.2.1 bt272.1 bt272.2.1).bind fun bt285 => (some (bt285.1, bt285.2, true))))))))
def frac_Snap.f (k : Nat) (a0_0 : Int) (a0_1 : Int) (a0_2 : Int) (a0_3 : Int) (a1 : Int) : Option (Int × Int × Bool) := (frac_Right.f a0_0 a0_1 a0_2 a0_3).bind fun t260 => (if t260 = true then (if a1 < 0 then (frac_Snap.j0 k a1 true a0_0 a0_1 a0_2 a0_3) else (frac_Snap.j0 k a1 (decide (a1 > 100)) a0_0 a0_1 a0_2 a0_3)) else (frac_Snap.j0 k a1 true a0_0 a0_1 a0_2 a0_3))
theorem frac_Snap.mono_l : ∀ k, (∀ y0 y1 y2 y3 y4 y5, LeO (frac_Snap.j0 k y0 y1 y2 y3 y4 y5) (frac_Snap.j0 (k + 1) y0 y1 y2 y3 y4 y5))
  | 0 => fun _ _ _ _ _ _ r h => by simp [frac_Snap.j0] at h
  | k + 1 => by
    have ih0 := frac_Snap.mono_l k
    · intro y0 y1 y2 y3 y4 y5
      unfold frac_Snap.j0
      repeat' first
      | (with_reducible exact ih0 _ _ _ _ _ _)
      | (with_reducible exact frac_Floor.mono _ _ _ _ _)
      | (with_reducible exact frac_up.mono _ _ _ _ _ _ _)
      | (with_reducible exact wide_Div.mono _ _ _ _ _)
      | (with_reducible exact wide_Shl.mono _ _ _ _)
      | (with_reducible exact LeO.refl _)
      | (with_reducible exact LeO.none _)
      | (with_reducible refine LeO.ite ?_ ?_)
      | (with_reducible refine LeO.bind ?_ (fun _ => ?_))
      | exact ih0 _ _ _ _ _ _
      | exact frac_Floor.mono _ _ _ _ _
      | exact frac_up.mono _ _ _ _ _ _ _
      | exact wide_Div.mono _ _ _ _ _
      | exact wide_Shl.mono _ _ _ _
      | exact LeO.none _
      | refine LeO.ite ?_ ?_
      | refine LeO.bind ?_ (fun _ => ?_)
theorem frac_Snap.mono : ∀ a0 a1 a2 a3 a4 k, LeO (frac_Snap.f k a0 a1 a2 a3 a4) (frac_Snap.f (k + 1) a0 a1 a2 a3 a4) := by
  intro a0 a1 a2 a3 a4 k
  have ih0 := frac_Snap.mono_l k
  unfold frac_Snap.f
  repeat' first
      | (with_reducible exact ih0 _ _ _ _ _ _)
      | (with_reducible exact frac_Floor.mono _ _ _ _ _)
      | (with_reducible exact frac_up.mono _ _ _ _ _ _ _)
      | (with_reducible exact wide_Div.mono _ _ _ _ _)
      | (with_reducible exact wide_Shl.mono _ _ _ _)
      | (with_reducible exact LeO.refl _)
      | (with_reducible exact LeO.none _)
      | (with_reducible refine LeO.ite ?_ ?_)
      | (with_reducible refine LeO.bind ?_ (fun _ => ?_))
      | exact ih0 _ _ _ _ _ _
      | exact frac_Floor.mono _ _ _ _ _
      | exact frac_up.mono _ _ _ _ _ _ _
      | exact wide_Div.mono _ _ _ _ _
      | exact wide_Shl.mono _ _ _ _
      | exact LeO.none _
      | refine LeO.ite ?_ ?_
      | refine LeO.bind ?_ (fun _ => ?_)
def frac_Snap.T7 : Bool × List (List Nat × List Nat) := (true, [([], []), ([0], [0]), ([], []), ([1, 2, 1], [1, 2]), ([3], [3]), ([4], [4]), ([4], [4]), ([4], [4]), ([], []), ([], []), ([8, 5, 3, 0, 1, 2, 3, 4, 5, 8, 9], [5, 8]), ([9, 6, 10, 0, 1, 2, 3, 4, 5, 6, 8, 9, 10], [6, 9]), ([7, 11, 0, 1, 2, 3, 4, 5, 6, 7, 8, 9, 10, 11], [7])])
def frac_Snap.B7 : List Nat := [0, 1, 0, 7, 15, 31, 31, 31, 0, 0, 831, 1919, 4095]
theorem frac_Snap.tab7 : rtab .any (opsOf Try.f26 7) = frac_Snap.T7 := by kernel_rfl
theorem frac_Snap.bits7 : waitsOk frac_Snap.T7.2 frac_Snap.B7 = true := by kernel_rfl
set_option maxHeartbeats 8000000 in
set_option maxRecDepth 100000 in
theorem frac_Snap.calls (k : Nat) (a0_0 : Int) (a0_1 : Int) (a0_2 : Int) (a0_3 : Int) (a1 : Int) (r1 : Int) (r2 : Int) (r3 : Bool) (w : World) (h : frac_Snap.f k a0_0 a0_1 a0_2 a0_3 a1 = some (r1, r2, r3)) :
    Calls Try.prog 26 #[.agg #[.int .i64 a0_0, .int .u64 a0_1, .int .i64 a0_2, .int .u64 a0_3], .int .i64 a1] w fun e w' => e = .returned (.tuple #[.agg #[.int .i64 r1, .int .u64 r2], .bool r3]) ∧ Below w.heap.size w w' := by
  have hu26 := Try.underlying26
  have hu24 := Try.underlying24
  have HB := Aside0.mk (Below.refl w.heap.size w)
  have H : ((frac_Right.f a0_0 a0_1 a0_2 a0_3).bind fun t260 => (if t260 = true then (if a1 < 0 then (frac_Snap.j0 k a1 true a0_0 a0_1 a0_2 a0_3) else (frac_Snap.j0 k a1 (decide (a1 > 100)) a0_0 a0_1 a0_2 a0_3)) else (frac_Snap.j0 k a1 true a0_0 a0_1 a0_2 a0_3))) = some (r1, r2, r3) := h
  clear h
  have HC3 := Aside0.mk H
  clear H
  go_enter Try.func26, Try.ntmps26
  go_upto_region 1 with (first | ((with_reducible refine gate_dst (N := 2) rfl ?_); refine box_event ?hg (N := 2) ?hd (cs := #[.int .i64 a0_0, .int .u64 a0_1, .int .i64 a0_2, .int .u64 a0_3]) (t := 26) ?hr ?_; (case hd => rfl); (case hg => rfl); (case hr => first | (go_simp; done) | (go_simp; rfl)); intro gb258 hg w4 hbox hb; have BK258 := Aside0.mk (hbox); have GW258 := kS HB hg; have GE258 := kS HB hg; replace HB := kB HB hb; clear hb hbox hg) | ((with_reducible refine gate_dst (N := 4) rfl ?_); refine box_event ?hg (N := 4) ?hd (cs := #[.int .i64 0, .int .u64 0]) (t := 24) ?hr ?_; (case hd => rfl); (case hg => rfl); (case hr => first | (go_simp; done) | (go_simp; rfl)); intro gb259 hg w5 hbox hb; have BK259 := Aside0.mk (hbox); have GW259 := kS HB hg; have GE259 := kS HB hg; have NB258_259 := kN BK258 hg; have NB259_258 := kM BK258 hg; replace BK258 := kb BK258 hb; replace HB := kB HB hb; clear hb hbox hg))
  (try simp only [Act.put, s1, s2, s3])
  go_cut [24] (fun v24 wc => ∃ (kq : Nat) (x24_2 : Bool), v24 = .bool x24_2 ∧ Aside0 (frac_Snap.j0 kq a1 x24_2 a0_0 a0_1 a0_2 a0_3 = some (r1, r2, r3)) ∧ Aside0 (kq ≤ k) ∧ Aside0 (wc.heap[gb258]? = some (.cells #[.int .i64 a0_0, .int .u64 a0_1, .int .i64 a0_2, .int .u64 a0_3] 26 (0, 0))) ∧ Aside0 (wc.heap[gb259]? = some (.cells #[.int .i64 0, .int .u64 0] 24 (0, 0))) ∧ Aside0 (Below w.heap.size w wc))
  case first =>
    have H := HC3.out; clear HC3
    replace H := Option.bind_eq_some_iff.mp H
    obtain ⟨t260, A60, H⟩ := H
    replace H : (if t260 = true then (if a1 < 0 then (frac_Snap.j0 k a1 true a0_0 a0_1 a0_2 a0_3) else (frac_Snap.j0 k a1 (decide (a1 > 100)) a0_0 a0_1 a0_2 a0_3)) else (frac_Snap.j0 k a1 true a0_0 a0_1 a0_2 a0_3)) = some (r1, r2, r3) := H
    have A6 := Aside0.mk A60
    clear A60
    by_cases c7 : t260 = true
    rotate_left
    · replace c7 := Bool.eq_false_iff.mpr c7
      subst c7
      have H1 : (frac_Snap.j0 k a1 true a0_0 a0_1 a0_2 a0_3) = some (r1, r2, r3) := by rw [if_neg (show ¬ (false = true) by decide)] at H; exact H
      clear H; have H := H1; clear H1
      have H' := Aside0.mk H
      clear H; have hnb15 := NB258_259.out; have hnc15 := NB259_258.out
      have hcz16_0 : w5.cell? ⟨gb258, 0, none⟩ = some (.int .i64 a0_0) := kc BK258 0
      have hcz16_1 : w5.cell? ⟨gb258, 1, none⟩ = some (.int .u64 a0_1) := kc BK258 1
      have hcz16_2 : w5.cell? ⟨gb258, 2, none⟩ = some (.int .i64 a0_2) := kc BK258 2
      have hcz16_3 : w5.cell? ⟨gb258, 3, none⟩ = some (.int .u64 a0_3) := kc BK258 3
      have hfz16_0 := blk_frozen BK258.out 0
      have hfz16_1 := blk_frozen BK258.out 1
      have hfz16_2 := blk_frozen BK258.out 2
      have hfz16_3 := blk_frozen BK258.out 3
      go_wp2_with (first | ((with_reducible refine gate_callee (f := 20) rfl ?_); refine goesL_ (some 15) rfl rfl Try.func20 (by kernel_rfl) rfl #[.agg #[.int .i64 a0_0, .int .u64 a0_1, .int .i64 a0_2, .int .u64 a0_3]] rfl (by (try simp only [List.map_toArray, List.map_cons, List.map_nil]); first | done | rfl | (simp only [List.length_drop, List.length_take]; rfl)) ?_; (with_reducible refine (frac_Right.calls a0_0 a0_1 a0_2 a0_3 false _ A6.out).mono ?_); rintro e w17 ⟨rfl, hb⟩; refine ⟨_, rfl, ?_⟩; replace BK258 := kb BK258 hb; replace BK259 := kb BK259 hb; replace HB := kB HB hb; (try clear hb); (try clear hb2); (try clear hk); (try clear hi)))
      go_meet
      case rel => exact ⟨_, (true), (by first | rfl | (simp; done) | (simp [*]; done)), H', ⟨by first | omega | exact Nat.le_refl _⟩, ⟨kx BK258⟩, ⟨kx BK259⟩, ⟨ky HB⟩⟩
    subst c7
    have H1 : (if a1 < 0 then (frac_Snap.j0 k a1 true a0_0 a0_1 a0_2 a0_3) else (frac_Snap.j0 k a1 (decide (a1 > 100)) a0_0 a0_1 a0_2 a0_3)) = some (r1, r2, r3) := by rw [if_pos rfl] at H; exact H
    clear H; have H := H1; clear H1
    by_cases c8 : a1 < 0
    · rw [if_pos c8] at H
      have c8b0 : decide (a1 < 0) = true := decide_eq_true c8
      clear c8
      (first | rw [c8b0] | (simp only [i64_w, i32_w]; rw [c8b0]) | skip)
      have H' := Aside0.mk H
      clear H; have hnb9 := NB258_259.out; have hnc9 := NB259_258.out
      have hcz10_0 : w5.cell? ⟨gb258, 0, none⟩ = some (.int .i64 a0_0) := kc BK258 0
      have hcz10_1 : w5.cell? ⟨gb258, 1, none⟩ = some (.int .u64 a0_1) := kc BK258 1
      have hcz10_2 : w5.cell? ⟨gb258, 2, none⟩ = some (.int .i64 a0_2) := kc BK258 2
      have hcz10_3 : w5.cell? ⟨gb258, 3, none⟩ = some (.int .u64 a0_3) := kc BK258 3
      have hfz10_0 := blk_frozen BK258.out 0
      have hfz10_1 := blk_frozen BK258.out 1
      have hfz10_2 := blk_frozen BK258.out 2
      have hfz10_3 := blk_frozen BK258.out 3
      go_wp2_with (first | ((with_reducible refine gate_callee (f := 20) rfl ?_); refine goesL_ (some 15) rfl rfl Try.func20 (by kernel_rfl) rfl #[.agg #[.int .i64 a0_0, .int .u64 a0_1, .int .i64 a0_2, .int .u64 a0_3]] rfl (by (try simp only [List.map_toArray, List.map_cons, List.map_nil]); first | done | rfl | (simp only [List.length_drop, List.length_take]; rfl)) ?_; (with_reducible refine (frac_Right.calls a0_0 a0_1 a0_2 a0_3 true _ A6.out).mono ?_); rintro e w11 ⟨rfl, hb⟩; refine ⟨_, rfl, ?_⟩; replace BK258 := kb BK258 hb; replace BK259 := kb BK259 hb; replace HB := kB HB hb; (try clear hb); (try clear hb2); (try clear hk); (try clear hi)))
      go_meet
      case rel => exact ⟨_, (true), (by first | rfl | (simp; done) | (simp [*]; done)), H', ⟨by first | omega | exact Nat.le_refl _⟩, ⟨kx BK258⟩, ⟨kx BK259⟩, ⟨ky HB⟩⟩
    rw [if_neg c8] at H
    have c8b0 : decide (a1 < 0) = false := decide_eq_false c8
    clear c8
    (first | rw [c8b0] | (simp only [i64_w, i32_w]; rw [c8b0]) | skip)
    have H' := Aside0.mk H
    clear H; have hnb12 := NB258_259.out; have hnc12 := NB259_258.out
    have hcz13_0 : w5.cell? ⟨gb258, 0, none⟩ = some (.int .i64 a0_0) := kc BK258 0
    have hcz13_1 : w5.cell? ⟨gb258, 1, none⟩ = some (.int .u64 a0_1) := kc BK258 1
    have hcz13_2 : w5.cell? ⟨gb258, 2, none⟩ = some (.int .i64 a0_2) := kc BK258 2
    have hcz13_3 : w5.cell? ⟨gb258, 3, none⟩ = some (.int .u64 a0_3) := kc BK258 3
    have hfz13_0 := blk_frozen BK258.out 0
    have hfz13_1 := blk_frozen BK258.out 1
    have hfz13_2 := blk_frozen BK258.out 2
    have hfz13_3 := blk_frozen BK258.out 3
    go_wp2_with (first | ((with_reducible refine gate_callee (f := 20) rfl ?_); refine goesL_ (some 15) rfl rfl Try.func20 (by kernel_rfl) rfl #[.agg #[.int .i64 a0_0, .int .u64 a0_1, .int .i64 a0_2, .int .u64 a0_3]] rfl (by (try simp only [List.map_toArray, List.map_cons, List.map_nil]); first | done | rfl | (simp only [List.length_drop, List.length_take]; rfl)) ?_; (with_reducible refine (frac_Right.calls a0_0 a0_1 a0_2 a0_3 true _ A6.out).mono ?_); rintro e w14 ⟨rfl, hb⟩; refine ⟨_, rfl, ?_⟩; replace BK258 := kb BK258 hb; replace BK259 := kb BK259 hb; replace HB := kB HB hb; (try clear hb); (try clear hb2); (try clear hk); (try clear hi)))
    go_meet
    case rel => exact ⟨_, (decide (a1 > 100)), (by first | rfl | (simp; done) | (simp [*]; done)), H', ⟨by first | omega | exact Nat.le_refl _⟩, ⟨kx BK258⟩, ⟨kx BK259⟩, ⟨ky HB⟩⟩
  case rest =>
    clear HC3; try clear c1; try clear c2; try clear p2; try clear c7; try clear c8; try clear c8b0; try clear c9; try clear c12; try clear c15; try clear hcz10_0; try clear hcz10_1; try clear hcz10_2; try clear hcz10_3; try clear hcz13_0; try clear hcz13_1; try clear hcz13_2; try clear hcz13_3; try clear hcz16_0; try clear hcz16_1; try clear hcz16_2; try clear hcz16_3; try clear hfz10_0; try clear hfz10_1; try clear hfz10_2; try clear hfz10_3; try clear hfz13_0; try clear hfz13_1; try clear hfz13_2; try clear hfz13_3; try clear hfz16_0; try clear hfz16_1; try clear hfz16_2; try clear hfz16_3
    obtain ⟨kq, x24_2, rfl, HA, HJ2, BK258, BK259, HB⟩ := hcut
    cases kq with
    | zero => exact absurd HA.out (by simp [frac_Snap.j0])
    | succ kj2 =>
      have H := HA.out; clear HA
      simp only [frac_Snap.j0] at H
      by_cases c18 : x24_2 = true
      · subst c18
        have H1 : (some (0, 0, false)) = some (r1, r2, r3) := by rw [if_pos rfl] at H; exact H
        clear H; have H := H1; clear H1
        simp only [Option.some.injEq, Prod.mk.injEq] at H
        obtain ⟨rfl, rfl, rfl⟩ := H
        have hnb19 := NB259_258.out; have hnc19 := NB258_259.out
        have hcz20_0 : wc.cell? ⟨gb259, 0, none⟩ = some (.int .i64 0) := kc BK259 0
        have hcz20_1 : wc.cell? ⟨gb259, 1, none⟩ = some (.int .u64 0) := kc BK259 1
        have hfz20_0 := blk_frozen BK259.out 0
        have hfz20_1 := blk_frozen BK259.out 1
        go_wp2
        refine bodyPost_ret (results_ct rfl _ _ gb259 24 #[.int .i64 0, .int .u64 0] (0, 0) _ rfl (by (with_reducible repeat (first | refine blk_drewN ?_ _ | refine blk_drew ?_ | refine blk_alloc ?_ _)); refine blk_put (cs := #[.int .i64 0, .int .u64 0]) ?_ 1 _ rfl; (with_reducible repeat (first | refine blk_drewN ?_ _ | refine blk_drew ?_ | refine blk_alloc ?_ _)); refine blk_put (cs := #[.int .i64 0, .int .u64 0]) ?_ 0 _ rfl; (with_reducible repeat (first | refine blk_drewN ?_ _ | refine blk_drew ?_ | refine blk_alloc ?_ _)); exact BK259.out) Try.underlying24 rfl (by kernel_rfl)) rfl ?_
        exact ⟨by first | rfl | (simp [errW_none, errW_some] <;> rfl) | (simp [*, errW_none, errW_some] <;> rfl), ky HB⟩
      replace c18 := Bool.eq_false_iff.mpr c18
      subst c18
      have H1 : (if a1 = 0 then ((wide_Div.f kj2 a0_0 a0_1 a0_2 a0_3).bind fun bt261 => ((frac_up.f kj2 bt261.1 bt261.2.1 bt261.2.2.1 bt261.2.2.2.1 a0_2 a0_3).bind fun bt268 => (some (bt268.1, bt268.2, true)))) else ((wide_Of.f 1).bind fun bt270 => ((wide_Shl.f kj2 bt270.1 bt270.2 a1).bind fun bt272 => ((frac_Floor.f kj2 a0_0 a0_1 a0_2 a0_3).bind fun bt276 => ((wide_Div.f kj2 bt276.1 bt276.2 bt272.1 bt272.2.1).bind fun bt278 => ((frac_up.f kj2 bt278.1 bt278.2.1 bt278.2.2.1 bt278.2.2.2.1 bt272.1 bt272.2.1).bind fun bt285 => (some (bt285.1, bt285.2, true)))))))) = some (r1, r2, r3) := by rw [if_neg (show ¬ (false = true) by decide)] at H; exact H
      clear H; have H := H1; clear H1
      by_cases c21 : a1 = 0
      · rw [if_pos c21] at H
        have c21b0 : (a1 == 0) = true := beq_iff_eq.mpr c21
        have c21b1 : (a1 != 0) = false := bne_eq_false_iff_eq.mpr c21
        clear c21
        replace H := Option.bind_eq_some_iff.mp H
        obtain ⟨⟨t261, t262, t263, t264, t265⟩, A220, H⟩ := H
        replace H : ((frac_up.f kj2 t261 t262 t263 t264 a0_2 a0_3).bind fun bt268 => (some (bt268.1, bt268.2, true))) = some (r1, r2, r3) := H
        have A22 := Aside0.mk A220
        clear A220
        replace H := Option.bind_eq_some_iff.mp H
        obtain ⟨⟨t268, t269⟩, A230, H⟩ := H
        replace H : (some (t268, t269, true)) = some (r1, r2, r3) := H
        have A23 := Aside0.mk A230
        clear A230
        simp only [Option.some.injEq, Prod.mk.injEq] at H
        obtain ⟨rfl, rfl, rfl⟩ := H
        have hnb24 := NB258_259.out; have hnc24 := NB259_258.out
        have hcz25_0 : wc.cell? ⟨gb258, 0, none⟩ = some (.int .i64 a0_0) := kc BK258 0
        have hcz25_1 : wc.cell? ⟨gb258, 1, none⟩ = some (.int .u64 a0_1) := kc BK258 1
        have hcz25_2 : wc.cell? ⟨gb258, 2, none⟩ = some (.int .i64 a0_2) := kc BK258 2
        have hcz25_3 : wc.cell? ⟨gb258, 3, none⟩ = some (.int .u64 a0_3) := kc BK258 3
        have hfz25_0 := blk_frozen BK258.out 0
        have hfz25_1 := blk_frozen BK258.out 1
        have hfz25_2 := blk_frozen BK258.out 2
        have hfz25_3 := blk_frozen BK258.out 3
        go_wp2_with (first | ((with_reducible refine gate_callee (f := 49) rfl ?_); refine goesL_ (some 33) rfl rfl Try.func49 (by kernel_rfl) rfl #[.agg #[.int .i64 a0_0, .int .u64 a0_1], .agg #[.int .i64 a0_2, .int .u64 a0_3]] rfl (by (try simp only [List.map_toArray, List.map_cons, List.map_nil]); first | done | rfl | (simp only [List.length_drop, List.length_take]; rfl)) ?_; (with_reducible refine (wide_Div.calls kj2 a0_0 a0_1 a0_2 a0_3 t261 t262 t263 t264 t265 _ A22.out).mono ?_); rintro e w26 ⟨rfl, hb⟩; refine ⟨_, rfl, ?_⟩; replace BK258 := kb BK258 hb; replace BK259 := kb BK259 hb; replace HB := kB HB hb; (try clear hb); (try clear hb2); (try clear hk); (try clear hi)) | ((with_reducible refine gate_dst (N := 6) rfl ?_); refine box_event ?hg (N := 6) ?hd (cs := #[.int .i64 0, .int .u64 0]) (t := 24) ?hr ?_; (case hd => rfl); (case hg => rfl); (case hr => first | (go_simp; done) | (go_simp; rfl)); intro gb266 hg w27 hbox hb; have BK266 := Aside0.mk (hbox); have GW266 := kS HB hg; have GE266 := kS HB hg; have NB258_266 := kN BK258 hg; have NB266_258 := kM BK258 hg; have NB259_266 := kN BK259 hg; have NB266_259 := kM BK259 hg; replace BK258 := kb BK258 hb; replace BK259 := kb BK259 hb; replace HB := kB HB hb; clear hb hbox hg) | ((with_reducible refine gate_dst (N := 7) rfl ?_); refine box_event ?hg (N := 7) ?hd (cs := #[.int .i64 0, .int .u64 0]) (t := 24) ?hr ?_; (case hd => rfl); (case hg => rfl); (case hr => first | (go_simp; done) | (go_simp; rfl)); intro gb267 hg w28 hbox hb; have BK267 := Aside0.mk (hbox); have GW267 := kS HB hg; have GE267 := kS HB hg; have NB258_267 := kN BK258 hg; have NB267_258 := kM BK258 hg; have NB259_267 := kN BK259 hg; have NB267_259 := kM BK259 hg; have NB266_267 := kN BK266 hg; have NB267_266 := kM BK266 hg; replace BK258 := kb BK258 hb; replace BK259 := kb BK259 hb; replace BK266 := kb BK266 hb; replace HB := kB HB hb; clear hb hbox hg; have hnb29 := NB266_258.out; have hnc29 := NB258_266.out; have hnb30 := NB266_259.out; have hnc30 := NB259_266.out; have hnb31 := NB266_267.out; have hnc31 := NB267_266.out; have hcz32_0 : w28.cell? ⟨gb266, 0, none⟩ = some (.int .i64 0) := kc BK266 0; have hcz32_1 : w28.cell? ⟨gb266, 1, none⟩ = some (.int .u64 0) := kc BK266 1; have hfz32_0 := blk_frozen BK266.out 0; have hfz32_1 := blk_frozen BK266.out 1; have hnb33 := NB267_258.out; have hnc33 := NB258_267.out; have hnb34 := NB267_259.out; have hnc34 := NB259_267.out; have hcz35_0 : w28.cell? ⟨gb267, 0, none⟩ = some (.int .i64 0) := kc BK267 0; have hcz35_1 : w28.cell? ⟨gb267, 1, none⟩ = some (.int .u64 0) := kc BK267 1; have hfz35_0 := blk_frozen BK267.out 0; have hfz35_1 := blk_frozen BK267.out 1; have hcz36_0 : w28.cell? ⟨gb258, 0, none⟩ = some (.int .i64 a0_0) := kc BK258 0; have hcz36_1 : w28.cell? ⟨gb258, 1, none⟩ = some (.int .u64 a0_1) := kc BK258 1; have hcz36_2 : w28.cell? ⟨gb258, 2, none⟩ = some (.int .i64 a0_2) := kc BK258 2; have hcz36_3 : w28.cell? ⟨gb258, 3, none⟩ = some (.int .u64 a0_3) := kc BK258 3; have hfz36_0 := blk_frozen BK258.out 0; have hfz36_1 := blk_frozen BK258.out 1; have hfz36_2 := blk_frozen BK258.out 2; have hfz36_3 := blk_frozen BK258.out 3) | ((with_reducible refine gate_callee (f := 57) rfl ?_); refine goesL_ (some 41) rfl rfl Try.func57 (by kernel_rfl) rfl #[.agg #[.int .i64 t261, .int .u64 t262], .agg #[.int .i64 t263, .int .u64 t264], .agg #[.int .i64 a0_2, .int .u64 a0_3]] rfl (by (try simp only [List.map_toArray, List.map_cons, List.map_nil]); first | done | rfl | (simp only [List.length_drop, List.length_take]; rfl)) ?_; (with_reducible refine (frac_up.calls kj2 t261 t262 t263 t264 a0_2 a0_3 t268 t269 _ A23.out).mono ?_); rintro e w37 ⟨rfl, hb⟩; refine ⟨_, rfl, ?_⟩; have n0_ := kb BK258 hb; have n1_ := kb BK259 hb; have n2_ := Aside0.mk (blk_below (g := gb266) (o := .cells #[.int .i64 t261, .int .u64 t262] 24 (0, 0)) (by (with_reducible repeat (first | refine blk_drewN ?_ _ | refine blk_drew ?_ | refine blk_alloc ?_ _)); refine blk_far ?_ NB266_267.out _; (with_reducible repeat (first | refine blk_drewN ?_ _ | refine blk_drew ?_ | refine blk_alloc ?_ _)); refine blk_far ?_ NB266_267.out _; (with_reducible repeat (first | refine blk_drewN ?_ _ | refine blk_drew ?_ | refine blk_alloc ?_ _)); refine blk_put (cs := #[.int .i64 t261, .int .u64 0]) ?_ 1 _ rfl; (with_reducible repeat (first | refine blk_drewN ?_ _ | refine blk_drew ?_ | refine blk_alloc ?_ _)); refine blk_put (cs := #[.int .i64 0, .int .u64 0]) ?_ 0 _ rfl; (with_reducible repeat (first | refine blk_drewN ?_ _ | refine blk_drew ?_ | refine blk_alloc ?_ _)); exact BK266.out) hb); have n3_ := Aside0.mk (blk_below (g := gb267) (o := .cells #[.int .i64 t263, .int .u64 t264] 24 (0, 0)) (by (with_reducible repeat (first | refine blk_drewN ?_ _ | refine blk_drew ?_ | refine blk_alloc ?_ _)); refine blk_put (cs := #[.int .i64 t263, .int .u64 0]) ?_ 1 _ rfl; (with_reducible repeat (first | refine blk_drewN ?_ _ | refine blk_drew ?_ | refine blk_alloc ?_ _)); refine blk_put (cs := #[.int .i64 0, .int .u64 0]) ?_ 0 _ rfl; (with_reducible repeat (first | refine blk_drewN ?_ _ | refine blk_drew ?_ | refine blk_alloc ?_ _)); refine blk_far ?_ NB267_266.out _; (with_reducible repeat (first | refine blk_drewN ?_ _ | refine blk_drew ?_ | refine blk_alloc ?_ _)); refine blk_far ?_ NB267_266.out _; (with_reducible repeat (first | refine blk_drewN ?_ _ | refine blk_drew ?_ | refine blk_alloc ?_ _)); exact BK267.out) hb); have n4_ := kB HB hb; clear BK258; clear BK259; clear BK266; clear BK267; clear HB; have BK258 := n0_; have BK259 := n1_; have BK266 := n2_; have BK267 := n3_; have HB := n4_; clear n0_ n1_ n2_ n3_ n4_; (try clear hb); (try clear hb2); (try clear hk); (try clear hi); have hcz38_0 : w37.cell? ⟨gb259, 0, none⟩ = some (.int .i64 0) := kc BK259 0; have hcz38_1 : w37.cell? ⟨gb259, 1, none⟩ = some (.int .u64 0) := kc BK259 1; have hfz38_0 := blk_frozen BK259.out 0; have hfz38_1 := blk_frozen BK259.out 1))
        refine bodyPost_ret (results_ct rfl _ _ gb259 24 #[.int .i64 t268, .int .u64 t269] (0, 0) _ rfl (by (with_reducible repeat (first | refine blk_drewN ?_ _ | refine blk_drew ?_ | refine blk_alloc ?_ _)); refine blk_put (cs := #[.int .i64 t268, .int .u64 0]) ?_ 1 _ rfl; (with_reducible repeat (first | refine blk_drewN ?_ _ | refine blk_drew ?_ | refine blk_alloc ?_ _)); refine blk_put (cs := #[.int .i64 0, .int .u64 0]) ?_ 0 _ rfl; (with_reducible repeat (first | refine blk_drewN ?_ _ | refine blk_drew ?_ | refine blk_alloc ?_ _)); exact BK259.out) Try.underlying24 rfl (by kernel_rfl)) rfl ?_
        exact ⟨by first | rfl | (simp [errW_none, errW_some] <;> rfl) | (simp [*, errW_none, errW_some] <;> rfl), ky HB⟩
      rw [if_neg c21] at H
      have c21b0 : (a1 == 0) = false := beq_eq_false_iff_ne.mpr c21
      have c21b1 : (a1 != 0) = true := bne_iff_ne.mpr c21
      replace H := Option.bind_eq_some_iff.mp H
      obtain ⟨⟨t270, t271⟩, A390, H⟩ := H
      replace H : ((wide_Shl.f kj2 t270 t271 a1).bind fun bt272 => ((frac_Floor.f kj2 a0_0 a0_1 a0_2 a0_3).bind fun bt276 => ((wide_Div.f kj2 bt276.1 bt276.2 bt272.1 bt272.2.1).bind fun bt278 => ((frac_up.f kj2 bt278.1 bt278.2.1 bt278.2.2.1 bt278.2.2.2.1 bt272.1 bt272.2.1).bind fun bt285 => (some (bt285.1, bt285.2, true)))))) = some (r1, r2, r3) := H
      have A39 := Aside0.mk A390
      clear A390
      replace H := Option.bind_eq_some_iff.mp H
      obtain ⟨⟨t272, t273, t274⟩, A400, H⟩ := H
      replace H : ((frac_Floor.f kj2 a0_0 a0_1 a0_2 a0_3).bind fun bt276 => ((wide_Div.f kj2 bt276.1 bt276.2 t272 t273).bind fun bt278 => ((frac_up.f kj2 bt278.1 bt278.2.1 bt278.2.2.1 bt278.2.2.2.1 t272 t273).bind fun bt285 => (some (bt285.1, bt285.2, true))))) = some (r1, r2, r3) := H
      have A40 := Aside0.mk A400
      clear A400
      replace H := Option.bind_eq_some_iff.mp H
      obtain ⟨⟨t276, t277⟩, A410, H⟩ := H
      replace H : ((wide_Div.f kj2 t276 t277 t272 t273).bind fun bt278 => ((frac_up.f kj2 bt278.1 bt278.2.1 bt278.2.2.1 bt278.2.2.2.1 t272 t273).bind fun bt285 => (some (bt285.1, bt285.2, true)))) = some (r1, r2, r3) := H
      have A41 := Aside0.mk A410
      clear A410
      replace H := Option.bind_eq_some_iff.mp H
      obtain ⟨⟨t278, t279, t280, t281, t282⟩, A420, H⟩ := H
      replace H : ((frac_up.f kj2 t278 t279 t280 t281 t272 t273).bind fun bt285 => (some (bt285.1, bt285.2, true))) = some (r1, r2, r3) := H
      have A42 := Aside0.mk A420
      clear A420
      replace H := Option.bind_eq_some_iff.mp H
      obtain ⟨⟨t285, t286⟩, A430, H⟩ := H
      replace H : (some (t285, t286, true)) = some (r1, r2, r3) := H
      have A43 := Aside0.mk A430
      clear A430
      simp only [Option.some.injEq, Prod.mk.injEq] at H
      obtain ⟨rfl, rfl, rfl⟩ := H
      try go_wp2_with (first | ((with_reducible refine gate_callee (f := 24) rfl ?_); refine goesL_ (some 43) rfl rfl Try.func24 (by kernel_rfl) rfl #[.int .i64 1] rfl (by (try simp only [List.map_toArray, List.map_cons, List.map_nil]); first | done | rfl | (simp only [List.length_drop, List.length_take]; rfl)) ?_; (with_reducible refine (wide_Of.calls 1 t270 t271 _ A39.out).mono ?_); rintro e w44 ⟨rfl, hb⟩; refine ⟨_, rfl, ?_⟩; replace BK258 := kb BK258 hb; replace BK259 := kb BK259 hb; replace HB := kB HB hb; (try clear hb); (try clear hb2); (try clear hk); (try clear hi)) | ((with_reducible refine gate_callee (f := 28) rfl ?_); refine goesL_ (some 45) rfl rfl Try.func28 (by kernel_rfl) rfl #[.agg #[.int .i64 t270, .int .u64 t271], .int .i64 a1] rfl (by (try simp only [List.map_toArray, List.map_cons, List.map_nil]); first | done | rfl | (simp only [List.length_drop, List.length_take]; rfl)) ?_; (with_reducible refine (wide_Shl.calls kj2 t270 t271 a1 t272 t273 t274 _ A40.out).mono ?_); rintro e w45 ⟨rfl, hb⟩; refine ⟨_, rfl, ?_⟩; replace BK258 := kb BK258 hb; replace BK259 := kb BK259 hb; replace HB := kB HB hb; (try clear hb); (try clear hb2); (try clear hk); (try clear hi)) | ((with_reducible refine gate_dst (N := 9) rfl ?_); refine box_event ?hg (N := 9) ?hd (cs := #[.int .i64 0, .int .u64 0]) (t := 24) ?hr ?_; (case hd => rfl); (case hg => rfl); (case hr => first | (go_simp; done) | (go_simp; rfl)); intro gb275 hg w46 hbox hb; have BK275 := Aside0.mk (hbox); have GW275 := kS HB hg; have GE275 := kS HB hg; have NB258_275 := kN BK258 hg; have NB275_258 := kM BK258 hg; have NB259_275 := kN BK259 hg; have NB275_259 := kM BK259 hg; replace BK258 := kb BK258 hb; replace BK259 := kb BK259 hb; replace HB := kB HB hb; clear hb hbox hg; have hnb47 := NB275_258.out; have hnc47 := NB258_275.out; have hnb48 := NB275_259.out; have hnc48 := NB259_275.out; have hcz49_0 : w46.cell? ⟨gb275, 0, none⟩ = some (.int .i64 0) := kc BK275 0; have hcz49_1 : w46.cell? ⟨gb275, 1, none⟩ = some (.int .u64 0) := kc BK275 1; have hfz49_0 := blk_frozen BK275.out 0; have hfz49_1 := blk_frozen BK275.out 1))
      have n0_ : Aside0 (((w46.setCell ⟨gb275, 0, none⟩ (.int .i64 t272)).setCell ⟨gb275, 1, none⟩ (.int .u64 t273)).heap[gb258]? = some (.cells #[.int .i64 a0_0, .int .u64 a0_1, .int .i64 a0_2, .int .u64 a0_3] 26 (0, 0))) := ⟨kx BK258⟩
      have n1_ : Aside0 (((w46.setCell ⟨gb275, 0, none⟩ (.int .i64 t272)).setCell ⟨gb275, 1, none⟩ (.int .u64 t273)).heap[gb259]? = some (.cells #[.int .i64 0, .int .u64 0] 24 (0, 0))) := ⟨kx BK259⟩
      have n2_ : Aside0 (((w46.setCell ⟨gb275, 0, none⟩ (.int .i64 t272)).setCell ⟨gb275, 1, none⟩ (.int .u64 t273)).heap[gb275]? = some (.cells #[.int .i64 t272, .int .u64 t273] 24 (0, 0))) := ⟨by (with_reducible repeat (first | refine blk_drewN ?_ _ | refine blk_drew ?_ | refine blk_alloc ?_ _)); refine blk_put (cs := #[.int .i64 t272, .int .u64 0]) ?_ 1 _ rfl; (with_reducible repeat (first | refine blk_drewN ?_ _ | refine blk_drew ?_ | refine blk_alloc ?_ _)); refine blk_put (cs := #[.int .i64 0, .int .u64 0]) ?_ 0 _ rfl; (with_reducible repeat (first | refine blk_drewN ?_ _ | refine blk_drew ?_ | refine blk_alloc ?_ _)); exact BK275.out⟩
      have n3_ : Aside0 (Below w.heap.size w ((w46.setCell ⟨gb275, 0, none⟩ (.int .i64 t272)).setCell ⟨gb275, 1, none⟩ (.int .u64 t273))) := ⟨ky HB⟩
      (try clear BK258); (try clear BK259); (try clear BK275); (try clear HB)
      generalize ((w46.setCell ⟨gb275, 0, none⟩ (.int .i64 t272)).setCell ⟨gb275, 1, none⟩ (.int .u64 t273)) = w50 at n0_ n1_ n2_ n3_ ⊢
      have BK258 := n0_; have BK259 := n1_; have BK275 := n2_; have HB := n3_
      clear n0_ n1_ n2_ n3_
      replace BK258 := Aside0.mk (blk_drew BK258.out)
      replace BK259 := Aside0.mk (blk_drew BK259.out)
      replace BK275 := Aside0.mk (blk_drew BK275.out)
      replace HB := Aside0.mk (below_drew1 HB.out)
      refine start_ (n := 13) (S := fun w' => w'.cell? ⟨gb258, 0, none⟩ = some (.int .i64 a0_0) ∧ w'.cell? ⟨gb258, 1, none⟩ = some (.int .u64 a0_1) ∧ w'.cell? ⟨gb258, 2, none⟩ = some (.int .i64 a0_2) ∧ w'.cell? ⟨gb258, 3, none⟩ = some (.int .u64 a0_3) ∧ w'.cell? ⟨gb275, 0, none⟩ = some (.int .i64 t272) ∧ w'.cell? ⟨gb275, 1, none⟩ = some (.int .u64 t273)) (ds := []) #[O, O, O, O, O, O, O, O, O, O, O, O, O] (by kernel_rfl) rfl rfl ⟨kc BK258 0, kc BK258 1, kc BK258 2, kc BK258 3, kc BK275 0, kc BK275 1⟩ (fun hHeld => ?_); refine with_tabW frac_Snap.tab7 frac_Snap.bits7 (fun HT_ HW_ => ?_)
      generalize w50.drew = w51 at BK258 BK259 BK275 HB hHeld ⊢
      refine take_ (i := 0) (N := some 49) (v := ?_) (a' := ?_) #[T, O, O, O, O, O, O, O, O, O, O, O, O] rfl rfl (take_ofW HT_.out HW_.out (by kernel_rfl)) (fun _ _ _ h => h) (Or.inl ⟨by rfl, ?_⟩) hHeld ?_ ?_; rotate_left; focus (rintro w' ⟨s0, s1, s2, s3, s4, s5⟩; go_simp; with_reducible rfl)
      rotate_left; focus (simp only [Act.put, s1, s2, s3, i64_w, i32_w]; rfl)
      refine take_ (i := 2) (N := some 51) (v := ?_) (a' := ?_) #[T, O, T, O, O, O, O, O, O, O, O, O, O] rfl rfl (take_ofW HT_.out HW_.out (by kernel_rfl)) (fun _ _ _ h => h) (Or.inl ⟨by rfl, ?_⟩) hHeld ?_ ?_; rotate_left; focus (rintro w' ⟨s0, s1, s2, s3, s4, s5⟩; go_simp; with_reducible rfl)
      rotate_left; focus (simp only [Act.put, s1, s2, s3, i64_w, i32_w]; rfl)
      refine join_ (σ := Nat × Nat) 3 #[T, T, T, T, T, T, T, T, T, T, O, O, O] (fun s_ => [(50, .agg #[.int .i64 t276, .int .u64 t277]), (52, .tuple #[.agg #[.int .i64 t278, .int .u64 t279], .agg #[.int .i64 t280, .int .u64 t281], .bool t282]), (11, .pointer (some ⟨s_.1, 0, none⟩)), (12, .pointer (some ⟨s_.2, 0, none⟩)), (48, .tuple #[.agg #[.int .i64 t278, .int .u64 t279], .agg #[.int .i64 t280, .int .u64 t281], .bool t282]), (53, .agg #[.int .i64 t278, .int .u64 t279]), (54, .agg #[.int .i64 t280, .int .u64 t281]), (55, .bool t282)]) (fun s_ w' => (w'.cell? ⟨gb258, 0, none⟩ = some (.int .i64 a0_0) ∧ w'.cell? ⟨gb258, 1, none⟩ = some (.int .u64 a0_1) ∧ w'.cell? ⟨gb258, 2, none⟩ = some (.int .i64 a0_2) ∧ w'.cell? ⟨gb258, 3, none⟩ = some (.int .u64 a0_3) ∧ w'.cell? ⟨gb275, 0, none⟩ = some (.int .i64 t272) ∧ w'.cell? ⟨gb275, 1, none⟩ = some (.int .u64 t273)) ∧ (w'.heap[gb258]? = some (.cells #[.int .i64 a0_0, .int .u64 a0_1, .int .i64 a0_2, .int .u64 a0_3] 26 (0, 0))) ∧ (w'.heap[gb259]? = some (.cells #[.int .i64 0, .int .u64 0] 24 (0, 0))) ∧ (w'.heap[gb275]? = some (.cells #[.int .i64 t272, .int .u64 t273] 24 (0, 0))) ∧ (w'.heap[s_.1]? = some (.cells #[.int .i64 0, .int .u64 0] 24 (0, 0))) ∧ (w'.heap[s_.2]? = some (.cells #[.int .i64 0, .int .u64 0] 24 (0, 0))) ∧ (w.heap.size ≤ s_.1) ∧ (w.heap.size ≤ s_.1) ∧ (gb258 ≠ s_.1) ∧ (s_.1 ≠ gb258) ∧ (gb259 ≠ s_.1) ∧ (s_.1 ≠ gb259) ∧ (gb275 ≠ s_.1) ∧ (s_.1 ≠ gb275) ∧ (s_.2 ≠ s_.1) ∧ (s_.1 ≠ s_.2) ∧ (w.heap.size ≤ s_.2) ∧ (w.heap.size ≤ s_.2) ∧ (gb258 ≠ s_.2) ∧ (s_.2 ≠ gb258) ∧ (gb259 ≠ s_.2) ∧ (s_.2 ≠ gb259) ∧ (gb275 ≠ s_.2) ∧ (s_.2 ≠ gb275) ∧ (Below w.heap.size w w')) ?_ ?_
      rotate_left
      · intro hJ1_3_8_9
        refine join_ (σ := Nat) 4 #[T, T, T, T, T, T, T, T, T, O, O, O, O] (fun s_ => [(50, .agg #[.int .i64 t276, .int .u64 t277]), (52, .tuple #[.agg #[.int .i64 t278, .int .u64 t279], .agg #[.int .i64 t280, .int .u64 t281], .bool t282]), (11, .pointer (some ⟨s_, 0, none⟩)), (48, .tuple #[.agg #[.int .i64 t278, .int .u64 t279], .agg #[.int .i64 t280, .int .u64 t281], .bool t282]), (53, .agg #[.int .i64 t278, .int .u64 t279]), (54, .agg #[.int .i64 t280, .int .u64 t281]), (55, .bool t282)]) (fun s_ w' => (w'.cell? ⟨gb258, 0, none⟩ = some (.int .i64 a0_0) ∧ w'.cell? ⟨gb258, 1, none⟩ = some (.int .u64 a0_1) ∧ w'.cell? ⟨gb258, 2, none⟩ = some (.int .i64 a0_2) ∧ w'.cell? ⟨gb258, 3, none⟩ = some (.int .u64 a0_3) ∧ w'.cell? ⟨gb275, 0, none⟩ = some (.int .i64 t272) ∧ w'.cell? ⟨gb275, 1, none⟩ = some (.int .u64 t273)) ∧ (w'.heap[gb258]? = some (.cells #[.int .i64 a0_0, .int .u64 a0_1, .int .i64 a0_2, .int .u64 a0_3] 26 (0, 0))) ∧ (w'.heap[gb259]? = some (.cells #[.int .i64 0, .int .u64 0] 24 (0, 0))) ∧ (w'.heap[gb275]? = some (.cells #[.int .i64 t272, .int .u64 t273] 24 (0, 0))) ∧ (w'.heap[s_]? = some (.cells #[.int .i64 0, .int .u64 0] 24 (0, 0))) ∧ (w.heap.size ≤ s_) ∧ (w.heap.size ≤ s_) ∧ (gb258 ≠ s_) ∧ (s_ ≠ gb258) ∧ (gb259 ≠ s_) ∧ (s_ ≠ gb259) ∧ (gb275 ≠ s_) ∧ (s_ ≠ gb275) ∧ (Below w.heap.size w w')) ?_ ?_
        rotate_left
        · intro hJ1_3_8
          refine join_ (σ := Nat) 4 #[T, T, T, T, T, T, T, T, O, T, O, O, O] (fun s_ => [(50, .agg #[.int .i64 t276, .int .u64 t277]), (52, .tuple #[.agg #[.int .i64 t278, .int .u64 t279], .agg #[.int .i64 t280, .int .u64 t281], .bool t282]), (12, .pointer (some ⟨s_, 0, none⟩)), (48, .tuple #[.agg #[.int .i64 t278, .int .u64 t279], .agg #[.int .i64 t280, .int .u64 t281], .bool t282]), (53, .agg #[.int .i64 t278, .int .u64 t279]), (54, .agg #[.int .i64 t280, .int .u64 t281]), (55, .bool t282)]) (fun s_ w' => (w'.cell? ⟨gb258, 0, none⟩ = some (.int .i64 a0_0) ∧ w'.cell? ⟨gb258, 1, none⟩ = some (.int .u64 a0_1) ∧ w'.cell? ⟨gb258, 2, none⟩ = some (.int .i64 a0_2) ∧ w'.cell? ⟨gb258, 3, none⟩ = some (.int .u64 a0_3) ∧ w'.cell? ⟨gb275, 0, none⟩ = some (.int .i64 t272) ∧ w'.cell? ⟨gb275, 1, none⟩ = some (.int .u64 t273)) ∧ (w'.heap[gb258]? = some (.cells #[.int .i64 a0_0, .int .u64 a0_1, .int .i64 a0_2, .int .u64 a0_3] 26 (0, 0))) ∧ (w'.heap[gb259]? = some (.cells #[.int .i64 0, .int .u64 0] 24 (0, 0))) ∧ (w'.heap[gb275]? = some (.cells #[.int .i64 t272, .int .u64 t273] 24 (0, 0))) ∧ (w'.heap[s_]? = some (.cells #[.int .i64 0, .int .u64 0] 24 (0, 0))) ∧ (w.heap.size ≤ s_) ∧ (w.heap.size ≤ s_) ∧ (gb258 ≠ s_) ∧ (s_ ≠ gb258) ∧ (gb259 ≠ s_) ∧ (s_ ≠ gb259) ∧ (gb275 ≠ s_) ∧ (s_ ≠ gb275) ∧ (Below w.heap.size w w')) ?_ ?_
          rotate_left
          · intro hJ1_3_9
            refine join_ (σ := Nat × Nat) 8 #[T, T, T, O, O, O, O, O, T, T, O, O, O] (fun s_ => [(50, .agg #[.int .i64 t276, .int .u64 t277]), (11, .pointer (some ⟨s_.1, 0, none⟩)), (12, .pointer (some ⟨s_.2, 0, none⟩))]) (fun s_ w' => (w'.cell? ⟨gb258, 0, none⟩ = some (.int .i64 a0_0) ∧ w'.cell? ⟨gb258, 1, none⟩ = some (.int .u64 a0_1) ∧ w'.cell? ⟨gb258, 2, none⟩ = some (.int .i64 a0_2) ∧ w'.cell? ⟨gb258, 3, none⟩ = some (.int .u64 a0_3) ∧ w'.cell? ⟨gb275, 0, none⟩ = some (.int .i64 t272) ∧ w'.cell? ⟨gb275, 1, none⟩ = some (.int .u64 t273)) ∧ (w'.heap[gb258]? = some (.cells #[.int .i64 a0_0, .int .u64 a0_1, .int .i64 a0_2, .int .u64 a0_3] 26 (0, 0))) ∧ (w'.heap[gb259]? = some (.cells #[.int .i64 0, .int .u64 0] 24 (0, 0))) ∧ (w'.heap[gb275]? = some (.cells #[.int .i64 t272, .int .u64 t273] 24 (0, 0))) ∧ (w'.heap[s_.1]? = some (.cells #[.int .i64 0, .int .u64 0] 24 (0, 0))) ∧ (w'.heap[s_.2]? = some (.cells #[.int .i64 0, .int .u64 0] 24 (0, 0))) ∧ (w.heap.size ≤ s_.1) ∧ (w.heap.size ≤ s_.1) ∧ (gb258 ≠ s_.1) ∧ (s_.1 ≠ gb258) ∧ (gb259 ≠ s_.1) ∧ (s_.1 ≠ gb259) ∧ (gb275 ≠ s_.1) ∧ (s_.1 ≠ gb275) ∧ (s_.2 ≠ s_.1) ∧ (s_.1 ≠ s_.2) ∧ (w.heap.size ≤ s_.2) ∧ (w.heap.size ≤ s_.2) ∧ (gb258 ≠ s_.2) ∧ (s_.2 ≠ gb258) ∧ (gb259 ≠ s_.2) ∧ (s_.2 ≠ gb259) ∧ (gb275 ≠ s_.2) ∧ (s_.2 ≠ gb275) ∧ (Below w.heap.size w w')) ?_ ?_
            rotate_left
            · intro hJ1_8_9
              refine join_ (σ := Unit) 5 #[T, T, T, T, T, T, T, T, O, O, O, O, O] (fun s_ => [(50, .agg #[.int .i64 t276, .int .u64 t277]), (52, .tuple #[.agg #[.int .i64 t278, .int .u64 t279], .agg #[.int .i64 t280, .int .u64 t281], .bool t282]), (48, .tuple #[.agg #[.int .i64 t278, .int .u64 t279], .agg #[.int .i64 t280, .int .u64 t281], .bool t282]), (53, .agg #[.int .i64 t278, .int .u64 t279]), (54, .agg #[.int .i64 t280, .int .u64 t281]), (55, .bool t282)]) (fun s_ w' => (w'.cell? ⟨gb258, 0, none⟩ = some (.int .i64 a0_0) ∧ w'.cell? ⟨gb258, 1, none⟩ = some (.int .u64 a0_1) ∧ w'.cell? ⟨gb258, 2, none⟩ = some (.int .i64 a0_2) ∧ w'.cell? ⟨gb258, 3, none⟩ = some (.int .u64 a0_3) ∧ w'.cell? ⟨gb275, 0, none⟩ = some (.int .i64 t272) ∧ w'.cell? ⟨gb275, 1, none⟩ = some (.int .u64 t273)) ∧ (w'.heap[gb258]? = some (.cells #[.int .i64 a0_0, .int .u64 a0_1, .int .i64 a0_2, .int .u64 a0_3] 26 (0, 0))) ∧ (w'.heap[gb259]? = some (.cells #[.int .i64 0, .int .u64 0] 24 (0, 0))) ∧ (w'.heap[gb275]? = some (.cells #[.int .i64 t272, .int .u64 t273] 24 (0, 0))) ∧ (Below w.heap.size w w')) ?_ ?_
              rotate_left
              · intro hJ1_3
                refine join_ (σ := Nat) 9 #[T, T, T, O, O, O, O, O, T, O, O, O, O] (fun s_ => [(50, .agg #[.int .i64 t276, .int .u64 t277]), (11, .pointer (some ⟨s_, 0, none⟩))]) (fun s_ w' => (w'.cell? ⟨gb258, 0, none⟩ = some (.int .i64 a0_0) ∧ w'.cell? ⟨gb258, 1, none⟩ = some (.int .u64 a0_1) ∧ w'.cell? ⟨gb258, 2, none⟩ = some (.int .i64 a0_2) ∧ w'.cell? ⟨gb258, 3, none⟩ = some (.int .u64 a0_3) ∧ w'.cell? ⟨gb275, 0, none⟩ = some (.int .i64 t272) ∧ w'.cell? ⟨gb275, 1, none⟩ = some (.int .u64 t273)) ∧ (w'.heap[gb258]? = some (.cells #[.int .i64 a0_0, .int .u64 a0_1, .int .i64 a0_2, .int .u64 a0_3] 26 (0, 0))) ∧ (w'.heap[gb259]? = some (.cells #[.int .i64 0, .int .u64 0] 24 (0, 0))) ∧ (w'.heap[gb275]? = some (.cells #[.int .i64 t272, .int .u64 t273] 24 (0, 0))) ∧ (w'.heap[s_]? = some (.cells #[.int .i64 0, .int .u64 0] 24 (0, 0))) ∧ (w.heap.size ≤ s_) ∧ (w.heap.size ≤ s_) ∧ (gb258 ≠ s_) ∧ (s_ ≠ gb258) ∧ (gb259 ≠ s_) ∧ (s_ ≠ gb259) ∧ (gb275 ≠ s_) ∧ (s_ ≠ gb275) ∧ (Below w.heap.size w w')) ?_ ?_
                rotate_left
                · intro hJ1_8
                  refine join_ (σ := Nat) 9 #[T, T, T, O, O, O, O, O, O, T, O, O, O] (fun s_ => [(50, .agg #[.int .i64 t276, .int .u64 t277]), (12, .pointer (some ⟨s_, 0, none⟩))]) (fun s_ w' => (w'.cell? ⟨gb258, 0, none⟩ = some (.int .i64 a0_0) ∧ w'.cell? ⟨gb258, 1, none⟩ = some (.int .u64 a0_1) ∧ w'.cell? ⟨gb258, 2, none⟩ = some (.int .i64 a0_2) ∧ w'.cell? ⟨gb258, 3, none⟩ = some (.int .u64 a0_3) ∧ w'.cell? ⟨gb275, 0, none⟩ = some (.int .i64 t272) ∧ w'.cell? ⟨gb275, 1, none⟩ = some (.int .u64 t273)) ∧ (w'.heap[gb258]? = some (.cells #[.int .i64 a0_0, .int .u64 a0_1, .int .i64 a0_2, .int .u64 a0_3] 26 (0, 0))) ∧ (w'.heap[gb259]? = some (.cells #[.int .i64 0, .int .u64 0] 24 (0, 0))) ∧ (w'.heap[gb275]? = some (.cells #[.int .i64 t272, .int .u64 t273] 24 (0, 0))) ∧ (w'.heap[s_]? = some (.cells #[.int .i64 0, .int .u64 0] 24 (0, 0))) ∧ (w.heap.size ≤ s_) ∧ (w.heap.size ≤ s_) ∧ (gb258 ≠ s_) ∧ (s_ ≠ gb258) ∧ (gb259 ≠ s_) ∧ (s_ ≠ gb259) ∧ (gb275 ≠ s_) ∧ (s_ ≠ gb275) ∧ (Below w.heap.size w w')) ?_ ?_
                  rotate_left
                  · intro hJ1_9
                    refine join_ (σ := Nat × Nat) 9 #[T, O, T, O, O, O, O, O, T, T, O, O, O] (fun s_ => [(11, .pointer (some ⟨s_.1, 0, none⟩)), (12, .pointer (some ⟨s_.2, 0, none⟩))]) (fun s_ w' => (w'.cell? ⟨gb258, 0, none⟩ = some (.int .i64 a0_0) ∧ w'.cell? ⟨gb258, 1, none⟩ = some (.int .u64 a0_1) ∧ w'.cell? ⟨gb258, 2, none⟩ = some (.int .i64 a0_2) ∧ w'.cell? ⟨gb258, 3, none⟩ = some (.int .u64 a0_3) ∧ w'.cell? ⟨gb275, 0, none⟩ = some (.int .i64 t272) ∧ w'.cell? ⟨gb275, 1, none⟩ = some (.int .u64 t273)) ∧ (w'.heap[gb258]? = some (.cells #[.int .i64 a0_0, .int .u64 a0_1, .int .i64 a0_2, .int .u64 a0_3] 26 (0, 0))) ∧ (w'.heap[gb259]? = some (.cells #[.int .i64 0, .int .u64 0] 24 (0, 0))) ∧ (w'.heap[gb275]? = some (.cells #[.int .i64 t272, .int .u64 t273] 24 (0, 0))) ∧ (w'.heap[s_.1]? = some (.cells #[.int .i64 0, .int .u64 0] 24 (0, 0))) ∧ (w'.heap[s_.2]? = some (.cells #[.int .i64 0, .int .u64 0] 24 (0, 0))) ∧ (w.heap.size ≤ s_.1) ∧ (w.heap.size ≤ s_.1) ∧ (gb258 ≠ s_.1) ∧ (s_.1 ≠ gb258) ∧ (gb259 ≠ s_.1) ∧ (s_.1 ≠ gb259) ∧ (gb275 ≠ s_.1) ∧ (s_.1 ≠ gb275) ∧ (s_.2 ≠ s_.1) ∧ (s_.1 ≠ s_.2) ∧ (w.heap.size ≤ s_.2) ∧ (w.heap.size ≤ s_.2) ∧ (gb258 ≠ s_.2) ∧ (s_.2 ≠ gb258) ∧ (gb259 ≠ s_.2) ∧ (s_.2 ≠ gb259) ∧ (gb275 ≠ s_.2) ∧ (s_.2 ≠ gb275) ∧ (Below w.heap.size w w')) ?_ ?_
                    rotate_left
                    · intro hJ8_9
                      refine join_ (σ := Unit) 10 #[T, T, T, O, O, O, O, O, O, O, O, O, O] (fun s_ => [(50, .agg #[.int .i64 t276, .int .u64 t277])]) (fun s_ w' => (w'.cell? ⟨gb258, 0, none⟩ = some (.int .i64 a0_0) ∧ w'.cell? ⟨gb258, 1, none⟩ = some (.int .u64 a0_1) ∧ w'.cell? ⟨gb258, 2, none⟩ = some (.int .i64 a0_2) ∧ w'.cell? ⟨gb258, 3, none⟩ = some (.int .u64 a0_3) ∧ w'.cell? ⟨gb275, 0, none⟩ = some (.int .i64 t272) ∧ w'.cell? ⟨gb275, 1, none⟩ = some (.int .u64 t273)) ∧ (w'.heap[gb258]? = some (.cells #[.int .i64 a0_0, .int .u64 a0_1, .int .i64 a0_2, .int .u64 a0_3] 26 (0, 0))) ∧ (w'.heap[gb259]? = some (.cells #[.int .i64 0, .int .u64 0] 24 (0, 0))) ∧ (w'.heap[gb275]? = some (.cells #[.int .i64 t272, .int .u64 t273] 24 (0, 0))) ∧ (Below w.heap.size w w')) ?_ ?_
                      rotate_left
                      · intro hJ1
                        refine join_ (σ := Nat) 10 #[T, O, T, O, O, O, O, O, T, O, O, O, O] (fun s_ => [(11, .pointer (some ⟨s_, 0, none⟩))]) (fun s_ w' => (w'.cell? ⟨gb258, 0, none⟩ = some (.int .i64 a0_0) ∧ w'.cell? ⟨gb258, 1, none⟩ = some (.int .u64 a0_1) ∧ w'.cell? ⟨gb258, 2, none⟩ = some (.int .i64 a0_2) ∧ w'.cell? ⟨gb258, 3, none⟩ = some (.int .u64 a0_3) ∧ w'.cell? ⟨gb275, 0, none⟩ = some (.int .i64 t272) ∧ w'.cell? ⟨gb275, 1, none⟩ = some (.int .u64 t273)) ∧ (w'.heap[gb258]? = some (.cells #[.int .i64 a0_0, .int .u64 a0_1, .int .i64 a0_2, .int .u64 a0_3] 26 (0, 0))) ∧ (w'.heap[gb259]? = some (.cells #[.int .i64 0, .int .u64 0] 24 (0, 0))) ∧ (w'.heap[gb275]? = some (.cells #[.int .i64 t272, .int .u64 t273] 24 (0, 0))) ∧ (w'.heap[s_]? = some (.cells #[.int .i64 0, .int .u64 0] 24 (0, 0))) ∧ (w.heap.size ≤ s_) ∧ (w.heap.size ≤ s_) ∧ (gb258 ≠ s_) ∧ (s_ ≠ gb258) ∧ (gb259 ≠ s_) ∧ (s_ ≠ gb259) ∧ (gb275 ≠ s_) ∧ (s_ ≠ gb275) ∧ (Below w.heap.size w w')) ?_ ?_
                        rotate_left
                        · intro hJ8
                          refine join_ (σ := Nat) 10 #[T, O, T, O, O, O, O, O, O, T, O, O, O] (fun s_ => [(12, .pointer (some ⟨s_, 0, none⟩))]) (fun s_ w' => (w'.cell? ⟨gb258, 0, none⟩ = some (.int .i64 a0_0) ∧ w'.cell? ⟨gb258, 1, none⟩ = some (.int .u64 a0_1) ∧ w'.cell? ⟨gb258, 2, none⟩ = some (.int .i64 a0_2) ∧ w'.cell? ⟨gb258, 3, none⟩ = some (.int .u64 a0_3) ∧ w'.cell? ⟨gb275, 0, none⟩ = some (.int .i64 t272) ∧ w'.cell? ⟨gb275, 1, none⟩ = some (.int .u64 t273)) ∧ (w'.heap[gb258]? = some (.cells #[.int .i64 a0_0, .int .u64 a0_1, .int .i64 a0_2, .int .u64 a0_3] 26 (0, 0))) ∧ (w'.heap[gb259]? = some (.cells #[.int .i64 0, .int .u64 0] 24 (0, 0))) ∧ (w'.heap[gb275]? = some (.cells #[.int .i64 t272, .int .u64 t273] 24 (0, 0))) ∧ (w'.heap[s_]? = some (.cells #[.int .i64 0, .int .u64 0] 24 (0, 0))) ∧ (w.heap.size ≤ s_) ∧ (w.heap.size ≤ s_) ∧ (gb258 ≠ s_) ∧ (s_ ≠ gb258) ∧ (gb259 ≠ s_) ∧ (s_ ≠ gb259) ∧ (gb275 ≠ s_) ∧ (s_ ≠ gb275) ∧ (Below w.heap.size w w')) ?_ ?_
                          rotate_left
                          · intro hJ9
                            refine three_ (i := 1) (j := 8) (k := 9) (Ni := some 50) (Nj := some 11) (Nk := some 12) #[T, T, T, O, O, O, O, O, O, O, O, O, O] #[T, O, T, O, O, O, O, O, T, O, O, O, O] #[T, O, T, O, O, O, O, O, O, T, O, O, O] rfl rfl rfl rfl rfl rfl (three_of HT_.out (by kernel_rfl)) (by decide) (by decide) (by decide) (fun K hK => ?_) (fun K hK => ?_) (fun K hK => ?_)
                            · skip
                              refine goes_ Try.func19 (by kernel_rfl) rfl #[.agg #[.int .i64 a0_0, .int .u64 a0_1, .int .i64 a0_2, .int .u64 a0_3]] (by rfl) rfl rfl (by (try simp only [List.map_toArray, List.map_cons, List.map_nil]); first | done | rfl | (simp only [List.length_drop, List.length_take]; rfl)) ?_
                              with_reducible refine (frac_Floor.calls kj2 a0_0 a0_1 a0_2 a0_3 t276 t277 _ A41.out).mono ?_
                              rintro e w52 ⟨rfl, hb⟩
                              refine ⟨_, rfl, ?_⟩
                              replace BK258 := kb BK258 hb
                              replace BK259 := kb BK259 hb
                              replace BK275 := kb BK275 hb
                              replace HB := kB HB hb
                              (try clear hb); (try clear hb2); (try clear hk); (try clear hi)
                              refine hK.out _ _ ⟨kc BK258 0, kc BK258 1, kc BK258 2, kc BK258 3, kc BK275 0, kc BK275 1⟩ (fun hHeld => ?_)
                              clear hK K
                              refine norm_ (a' := ?_) ?_ ?_; rotate_left; focus (show Act.put _ (some 50) _ = _; simp only [Act.put, s1, s2, s3, i64_w, i32_w]; rfl)
                              exact norm_ (by first | (simp only [putAll, Act.put, s1, s2, s3]; done) | (simp only [putAll, Act.put, s1, s2, s3]; rfl)) (hJ1 () _ ⟨hHeld, (kx BK258), (kx BK259), (kx BK275), (ky HB)⟩)
                            · skip
                              refine box_step ?hg (N := 11) ?hd (cs := #[.int .i64 0, .int .u64 0]) (t := 24) ?hr ?_; (case hd => rfl); (case hg => rfl); (case hr => first | (go_simp; done) | (go_simp; rfl))
                              intro gb283 hg w52 hbox hb
                              have BK283 := Aside0.mk (hbox)
                              have GW283 := kS HB hg
                              have GE283 := kS HB hg
                              have NB258_283 := kN BK258 hg
                              have NB283_258 := kM BK258 hg
                              have NB259_283 := kN BK259 hg
                              have NB283_259 := kM BK259 hg
                              have NB275_283 := kN BK275 hg
                              have NB283_275 := kM BK275 hg
                              replace BK258 := kb BK258 hb
                              replace BK259 := kb BK259 hb
                              replace BK275 := kb BK275 hb
                              replace HB := kB HB hb
                              clear hb hbox hg
                              refine hK.out _ _ ⟨kc BK258 0, kc BK258 1, kc BK258 2, kc BK258 3, kc BK275 0, kc BK275 1⟩ (fun hHeld => ?_)
                              clear hK K
                              refine norm_ (a' := ?_) ?_ ?_; rotate_left; focus (show Act.put _ (some 11) _ = _; simp only [Act.put, s1, s2, s3, i64_w, i32_w]; rfl)
                              exact norm_ (by first | (simp only [putAll, Act.put, s1, s2, s3]; done) | (simp only [putAll, Act.put, s1, s2, s3]; rfl)) (hJ8 (gb283) _ ⟨hHeld, (kx BK258), (kx BK259), (kx BK275), (kx BK283), GW283.out, GE283.out, NB258_283.out, NB283_258.out, NB259_283.out, NB283_259.out, NB275_283.out, NB283_275.out, (ky HB)⟩)
                            · skip
                              refine box_step ?hg (N := 12) ?hd (cs := #[.int .i64 0, .int .u64 0]) (t := 24) ?hr ?_; (case hd => rfl); (case hg => rfl); (case hr => first | (go_simp; done) | (go_simp; rfl))
                              intro gb284 hg w52 hbox hb
                              have BK284 := Aside0.mk (hbox)
                              have GW284 := kS HB hg
                              have GE284 := kS HB hg
                              have NB258_284 := kN BK258 hg
                              have NB284_258 := kM BK258 hg
                              have NB259_284 := kN BK259 hg
                              have NB284_259 := kM BK259 hg
                              have NB275_284 := kN BK275 hg
                              have NB284_275 := kM BK275 hg
                              replace BK258 := kb BK258 hb
                              replace BK259 := kb BK259 hb
                              replace BK275 := kb BK275 hb
                              replace HB := kB HB hb
                              clear hb hbox hg
                              refine hK.out _ _ ⟨kc BK258 0, kc BK258 1, kc BK258 2, kc BK258 3, kc BK275 0, kc BK275 1⟩ (fun hHeld => ?_)
                              clear hK K
                              refine norm_ (a' := ?_) ?_ ?_; rotate_left; focus (show Act.put _ (some 12) _ = _; simp only [Act.put, s1, s2, s3, i64_w, i32_w]; rfl)
                              exact norm_ (by first | (simp only [putAll, Act.put, s1, s2, s3]; done) | (simp only [putAll, Act.put, s1, s2, s3]; rfl)) (hJ9 (gb284) _ ⟨hHeld, (kx BK258), (kx BK259), (kx BK275), (kx BK284), GW284.out, GE284.out, NB258_284.out, NB284_258.out, NB259_284.out, NB284_259.out, NB275_284.out, NB284_275.out, (ky HB)⟩)
                          · skip
                            rintro gb284 w53 ⟨hS_, h0_, h1_, h2_, h3_, h4_, h5_, h6_, h7_, h8_, h9_, h10_, h11_, h12_⟩
                            clear BK258 BK259 BK275 HB
                            have BK258 := A0 h0_; have BK259 := A0 h1_; have BK275 := A0 h2_; have BK284 := A0 h3_; have GW284 := A0 h4_; have GE284 := A0 h5_; have NB258_284 := A0 h6_; have NB284_258 := A0 h7_; have NB259_284 := A0 h8_; have NB284_259 := A0 h9_; have NB275_284 := A0 h10_; have NB284_275 := A0 h11_; have HB := A0 h12_
                            clear h0_ h1_ h2_ h3_ h4_ h5_ h6_ h7_ h8_ h9_ h10_ h11_ h12_
                            have hHeld := hS_
                            refine norm_ (a' := ?_) ?_ ?_; rotate_left; focus (simp only [putAll, Act.put, s1, s2, s3]; rfl)
                            refine two_ (i := 1) (j := 8) (Ni := some 50) (Nj := some 11) #[T, T, T, O, O, O, O, O, O, T, O, O, O] #[T, O, T, O, O, O, O, O, T, T, O, O, O] rfl rfl rfl rfl (two_of HT_.out (by kernel_rfl)) (by decide) (by decide) (fun K hK => ?_) (fun K hK => ?_)
                            · skip
                              refine goes_ Try.func19 (by kernel_rfl) rfl #[.agg #[.int .i64 a0_0, .int .u64 a0_1, .int .i64 a0_2, .int .u64 a0_3]] (by rfl) rfl rfl (by (try simp only [List.map_toArray, List.map_cons, List.map_nil]); first | done | rfl | (simp only [List.length_drop, List.length_take]; rfl)) ?_
                              with_reducible refine (frac_Floor.calls kj2 a0_0 a0_1 a0_2 a0_3 t276 t277 _ A41.out).mono ?_
                              rintro e w54 ⟨rfl, hb⟩
                              refine ⟨_, rfl, ?_⟩
                              replace BK258 := kb BK258 hb
                              replace BK259 := kb BK259 hb
                              replace BK275 := kb BK275 hb
                              replace BK284 := kb BK284 hb
                              replace HB := kB HB hb
                              (try clear hb); (try clear hb2); (try clear hk); (try clear hi)
                              refine hK.out _ _ ⟨kc BK258 0, kc BK258 1, kc BK258 2, kc BK258 3, kc BK275 0, kc BK275 1⟩ (fun hHeld => ?_)
                              clear hK K
                              refine norm_ (a' := ?_) ?_ ?_; rotate_left; focus (show Act.put _ (some 50) _ = _; simp only [Act.put, s1, s2, s3, i64_w, i32_w]; rfl)
                              exact norm_ (by first | (simp only [putAll, Act.put, s1, s2, s3]; done) | (simp only [putAll, Act.put, s1, s2, s3]; rfl)) (hJ1_9 (gb284) _ ⟨hHeld, (kx BK258), (kx BK259), (kx BK275), (kx BK284), GW284.out, GE284.out, NB258_284.out, NB284_258.out, NB259_284.out, NB284_259.out, NB275_284.out, NB284_275.out, (ky HB)⟩)
                            · skip
                              refine box_step ?hg (N := 11) ?hd (cs := #[.int .i64 0, .int .u64 0]) (t := 24) ?hr ?_; (case hd => rfl); (case hg => rfl); (case hr => first | (go_simp; done) | (go_simp; rfl))
                              intro gb283 hg w54 hbox hb
                              have BK283 := Aside0.mk (hbox)
                              have GW283 := kS HB hg
                              have GE283 := kS HB hg
                              have NB258_283 := kN BK258 hg
                              have NB283_258 := kM BK258 hg
                              have NB259_283 := kN BK259 hg
                              have NB283_259 := kM BK259 hg
                              have NB275_283 := kN BK275 hg
                              have NB283_275 := kM BK275 hg
                              have NB284_283 := kN BK284 hg
                              have NB283_284 := kM BK284 hg
                              replace BK258 := kb BK258 hb
                              replace BK259 := kb BK259 hb
                              replace BK275 := kb BK275 hb
                              replace BK284 := kb BK284 hb
                              replace HB := kB HB hb
                              clear hb hbox hg
                              refine hK.out _ _ ⟨kc BK258 0, kc BK258 1, kc BK258 2, kc BK258 3, kc BK275 0, kc BK275 1⟩ (fun hHeld => ?_)
                              clear hK K
                              refine norm_ (a' := ?_) ?_ ?_; rotate_left; focus (show Act.put _ (some 11) _ = _; simp only [Act.put, s1, s2, s3, i64_w, i32_w]; rfl)
                              exact norm_ (by first | (simp only [putAll, Act.put, s1, s2, s3]; done) | (simp only [putAll, Act.put, s1, s2, s3]; rfl)) (hJ8_9 (gb283, gb284) _ ⟨hHeld, (kx BK258), (kx BK259), (kx BK275), (kx BK283), (kx BK284), GW283.out, GE283.out, NB258_283.out, NB283_258.out, NB259_283.out, NB283_259.out, NB275_283.out, NB283_275.out, NB284_283.out, NB283_284.out, GW284.out, GE284.out, NB258_284.out, NB284_258.out, NB259_284.out, NB284_259.out, NB275_284.out, NB284_275.out, (ky HB)⟩)
                        · skip
                          rintro gb283 w53 ⟨hS_, h0_, h1_, h2_, h3_, h4_, h5_, h6_, h7_, h8_, h9_, h10_, h11_, h12_⟩
                          clear BK258 BK259 BK275 HB
                          have BK258 := A0 h0_; have BK259 := A0 h1_; have BK275 := A0 h2_; have BK283 := A0 h3_; have GW283 := A0 h4_; have GE283 := A0 h5_; have NB258_283 := A0 h6_; have NB283_258 := A0 h7_; have NB259_283 := A0 h8_; have NB283_259 := A0 h9_; have NB275_283 := A0 h10_; have NB283_275 := A0 h11_; have HB := A0 h12_
                          clear h0_ h1_ h2_ h3_ h4_ h5_ h6_ h7_ h8_ h9_ h10_ h11_ h12_
                          have hHeld := hS_
                          refine norm_ (a' := ?_) ?_ ?_; rotate_left; focus (simp only [putAll, Act.put, s1, s2, s3]; rfl)
                          refine two_ (i := 1) (j := 9) (Ni := some 50) (Nj := some 12) #[T, T, T, O, O, O, O, O, T, O, O, O, O] #[T, O, T, O, O, O, O, O, T, T, O, O, O] rfl rfl rfl rfl (two_of HT_.out (by kernel_rfl)) (by decide) (by decide) (fun K hK => ?_) (fun K hK => ?_)
                          · skip
                            refine goes_ Try.func19 (by kernel_rfl) rfl #[.agg #[.int .i64 a0_0, .int .u64 a0_1, .int .i64 a0_2, .int .u64 a0_3]] (by rfl) rfl rfl (by (try simp only [List.map_toArray, List.map_cons, List.map_nil]); first | done | rfl | (simp only [List.length_drop, List.length_take]; rfl)) ?_
                            with_reducible refine (frac_Floor.calls kj2 a0_0 a0_1 a0_2 a0_3 t276 t277 _ A41.out).mono ?_
                            rintro e w54 ⟨rfl, hb⟩
                            refine ⟨_, rfl, ?_⟩
                            replace BK258 := kb BK258 hb
                            replace BK259 := kb BK259 hb
                            replace BK275 := kb BK275 hb
                            replace BK283 := kb BK283 hb
                            replace HB := kB HB hb
                            (try clear hb); (try clear hb2); (try clear hk); (try clear hi)
                            refine hK.out _ _ ⟨kc BK258 0, kc BK258 1, kc BK258 2, kc BK258 3, kc BK275 0, kc BK275 1⟩ (fun hHeld => ?_)
                            clear hK K
                            refine norm_ (a' := ?_) ?_ ?_; rotate_left; focus (show Act.put _ (some 50) _ = _; simp only [Act.put, s1, s2, s3, i64_w, i32_w]; rfl)
                            exact norm_ (by first | (simp only [putAll, Act.put, s1, s2, s3]; done) | (simp only [putAll, Act.put, s1, s2, s3]; rfl)) (hJ1_8 (gb283) _ ⟨hHeld, (kx BK258), (kx BK259), (kx BK275), (kx BK283), GW283.out, GE283.out, NB258_283.out, NB283_258.out, NB259_283.out, NB283_259.out, NB275_283.out, NB283_275.out, (ky HB)⟩)
                          · skip
                            refine box_step ?hg (N := 12) ?hd (cs := #[.int .i64 0, .int .u64 0]) (t := 24) ?hr ?_; (case hd => rfl); (case hg => rfl); (case hr => first | (go_simp; done) | (go_simp; rfl))
                            intro gb284 hg w54 hbox hb
                            have BK284 := Aside0.mk (hbox)
                            have GW284 := kS HB hg
                            have GE284 := kS HB hg
                            have NB258_284 := kN BK258 hg
                            have NB284_258 := kM BK258 hg
                            have NB259_284 := kN BK259 hg
                            have NB284_259 := kM BK259 hg
                            have NB275_284 := kN BK275 hg
                            have NB284_275 := kM BK275 hg
                            have NB283_284 := kN BK283 hg
                            have NB284_283 := kM BK283 hg
                            replace BK258 := kb BK258 hb
                            replace BK259 := kb BK259 hb
                            replace BK275 := kb BK275 hb
                            replace BK283 := kb BK283 hb
                            replace HB := kB HB hb
                            clear hb hbox hg
                            refine hK.out _ _ ⟨kc BK258 0, kc BK258 1, kc BK258 2, kc BK258 3, kc BK275 0, kc BK275 1⟩ (fun hHeld => ?_)
                            clear hK K
                            refine norm_ (a' := ?_) ?_ ?_; rotate_left; focus (show Act.put _ (some 12) _ = _; simp only [Act.put, s1, s2, s3, i64_w, i32_w]; rfl)
                            exact norm_ (by first | (simp only [putAll, Act.put, s1, s2, s3]; done) | (simp only [putAll, Act.put, s1, s2, s3]; rfl)) (hJ8_9 (gb283, gb284) _ ⟨hHeld, (kx BK258), (kx BK259), (kx BK275), (kx BK283), (kx BK284), GW283.out, GE283.out, NB258_283.out, NB283_258.out, NB259_283.out, NB283_259.out, NB275_283.out, NB283_275.out, NB284_283.out, NB283_284.out, GW284.out, GE284.out, NB258_284.out, NB284_258.out, NB259_284.out, NB284_259.out, NB275_284.out, NB284_275.out, (ky HB)⟩)
                      · skip
                        rintro _ w53 ⟨hS_, h0_, h1_, h2_, h3_⟩
                        clear BK258 BK259 BK275 HB
                        have BK258 := A0 h0_; have BK259 := A0 h1_; have BK275 := A0 h2_; have HB := A0 h3_
                        clear h0_ h1_ h2_ h3_
                        have hHeld := hS_
                        refine norm_ (a' := ?_) ?_ ?_; rotate_left; focus (simp only [putAll, Act.put, s1, s2, s3]; rfl)
                        refine three_ (i := 3) (j := 8) (k := 9) (Ni := some 52) (Nj := some 11) (Nk := some 12) #[T, T, T, T, O, O, O, O, O, O, O, O, O] #[T, T, T, O, O, O, O, O, T, O, O, O, O] #[T, T, T, O, O, O, O, O, O, T, O, O, O] rfl rfl rfl rfl rfl rfl (three_of HT_.out (by kernel_rfl)) (by decide) (by decide) (by decide) (fun K hK => ?_) (fun K hK => ?_) (fun K hK => ?_)
                        · skip
                          refine goes_ Try.func49 (by kernel_rfl) rfl #[.agg #[.int .i64 t276, .int .u64 t277], .agg #[.int .i64 t272, .int .u64 t273]] (by rfl) rfl rfl (by (try simp only [List.map_toArray, List.map_cons, List.map_nil]); first | done | rfl | (simp only [List.length_drop, List.length_take]; rfl)) ?_
                          with_reducible refine (wide_Div.calls kj2 t276 t277 t272 t273 t278 t279 t280 t281 t282 _ A42.out).mono ?_
                          rintro e w54 ⟨rfl, hb⟩
                          refine ⟨_, rfl, ?_⟩
                          replace BK258 := kb BK258 hb
                          replace BK259 := kb BK259 hb
                          replace BK275 := kb BK275 hb
                          replace HB := kB HB hb
                          (try clear hb); (try clear hb2); (try clear hk); (try clear hi)
                          refine hK.out _ _ ⟨kc BK258 0, kc BK258 1, kc BK258 2, kc BK258 3, kc BK275 0, kc BK275 1⟩ (fun hHeld => ?_)
                          clear hK K
                          refine norm_ (a' := ?_) ?_ ?_; rotate_left; focus (show Act.put _ (some 52) _ = _; simp only [Act.put, s1, s2, s3, i64_w, i32_w]; rfl)
                          refine pure_ (i := 4) (N := some 48) (v := ?_) (a' := ?_) #[T, T, T, T, T, O, O, O, O, O, O, O, O] rfl rfl (any_of HT_.out (by kernel_rfl)) (fun _ _ _ h => h) (Or.inl ⟨by rfl, ?_⟩) ?_ ?_; rotate_left; focus (intro w'; go_simp; with_reducible rfl)
                          rotate_left; focus (simp only [Act.put, s1, s2, s3, i64_w, i32_w]; rfl)
                          refine pure_ (i := 5) (N := some 53) (v := ?_) (a' := ?_) #[T, T, T, T, T, T, O, O, O, O, O, O, O] rfl rfl (any_of HT_.out (by kernel_rfl)) (fun _ _ _ h => h) (Or.inl ⟨by rfl, ?_⟩) ?_ ?_; rotate_left; focus (intro w'; go_simp; with_reducible rfl)
                          rotate_left; focus (simp only [Act.put, s1, s2, s3, i64_w, i32_w]; rfl)
                          refine pure_ (i := 6) (N := some 54) (v := ?_) (a' := ?_) #[T, T, T, T, T, T, T, O, O, O, O, O, O] rfl rfl (any_of HT_.out (by kernel_rfl)) (fun _ _ _ h => h) (Or.inl ⟨by rfl, ?_⟩) ?_ ?_; rotate_left; focus (intro w'; go_simp; with_reducible rfl)
                          rotate_left; focus (simp only [Act.put, s1, s2, s3, i64_w, i32_w]; rfl)
                          refine pure_ (i := 7) (N := some 55) (v := ?_) (a' := ?_) #[T, T, T, T, T, T, T, T, O, O, O, O, O] rfl rfl (any_of HT_.out (by kernel_rfl)) (fun _ _ _ h => h) (Or.inl ⟨by rfl, ?_⟩) ?_ ?_; rotate_left; focus (intro w'; go_simp; with_reducible rfl)
                          rotate_left; focus (simp only [Act.put, s1, s2, s3, i64_w, i32_w]; rfl)
                          exact norm_ (by first | (simp only [putAll, Act.put, s1, s2, s3]; done) | (simp only [putAll, Act.put, s1, s2, s3]; rfl)) (hJ1_3 () _ ⟨hHeld, (kx BK258), (kx BK259), (kx BK275), (ky HB)⟩)
                        · skip
                          refine box_step ?hg (N := 11) ?hd (cs := #[.int .i64 0, .int .u64 0]) (t := 24) ?hr ?_; (case hd => rfl); (case hg => rfl); (case hr => first | (go_simp; done) | (go_simp; rfl))
                          intro gb283 hg w54 hbox hb
                          have BK283 := Aside0.mk (hbox)
                          have GW283 := kS HB hg
                          have GE283 := kS HB hg
                          have NB258_283 := kN BK258 hg
                          have NB283_258 := kM BK258 hg
                          have NB259_283 := kN BK259 hg
                          have NB283_259 := kM BK259 hg
                          have NB275_283 := kN BK275 hg
                          have NB283_275 := kM BK275 hg
                          replace BK258 := kb BK258 hb
                          replace BK259 := kb BK259 hb
                          replace BK275 := kb BK275 hb
                          replace HB := kB HB hb
                          clear hb hbox hg
                          refine hK.out _ _ ⟨kc BK258 0, kc BK258 1, kc BK258 2, kc BK258 3, kc BK275 0, kc BK275 1⟩ (fun hHeld => ?_)
                          clear hK K
                          refine norm_ (a' := ?_) ?_ ?_; rotate_left; focus (show Act.put _ (some 11) _ = _; simp only [Act.put, s1, s2, s3, i64_w, i32_w]; rfl)
                          exact norm_ (by first | (simp only [putAll, Act.put, s1, s2, s3]; done) | (simp only [putAll, Act.put, s1, s2, s3]; rfl)) (hJ1_8 (gb283) _ ⟨hHeld, (kx BK258), (kx BK259), (kx BK275), (kx BK283), GW283.out, GE283.out, NB258_283.out, NB283_258.out, NB259_283.out, NB283_259.out, NB275_283.out, NB283_275.out, (ky HB)⟩)
                        · skip
                          refine box_step ?hg (N := 12) ?hd (cs := #[.int .i64 0, .int .u64 0]) (t := 24) ?hr ?_; (case hd => rfl); (case hg => rfl); (case hr => first | (go_simp; done) | (go_simp; rfl))
                          intro gb284 hg w54 hbox hb
                          have BK284 := Aside0.mk (hbox)
                          have GW284 := kS HB hg
                          have GE284 := kS HB hg
                          have NB258_284 := kN BK258 hg
                          have NB284_258 := kM BK258 hg
                          have NB259_284 := kN BK259 hg
                          have NB284_259 := kM BK259 hg
                          have NB275_284 := kN BK275 hg
                          have NB284_275 := kM BK275 hg
                          replace BK258 := kb BK258 hb
                          replace BK259 := kb BK259 hb
                          replace BK275 := kb BK275 hb
                          replace HB := kB HB hb
                          clear hb hbox hg
                          refine hK.out _ _ ⟨kc BK258 0, kc BK258 1, kc BK258 2, kc BK258 3, kc BK275 0, kc BK275 1⟩ (fun hHeld => ?_)
                          clear hK K
                          refine norm_ (a' := ?_) ?_ ?_; rotate_left; focus (show Act.put _ (some 12) _ = _; simp only [Act.put, s1, s2, s3, i64_w, i32_w]; rfl)
                          exact norm_ (by first | (simp only [putAll, Act.put, s1, s2, s3]; done) | (simp only [putAll, Act.put, s1, s2, s3]; rfl)) (hJ1_9 (gb284) _ ⟨hHeld, (kx BK258), (kx BK259), (kx BK275), (kx BK284), GW284.out, GE284.out, NB258_284.out, NB284_258.out, NB259_284.out, NB284_259.out, NB275_284.out, NB284_275.out, (ky HB)⟩)
                    · skip
                      rintro ⟨gb283, gb284⟩ w54 ⟨hS_, h0_, h1_, h2_, h3_, h4_, h5_, h6_, h7_, h8_, h9_, h10_, h11_, h12_, h13_, h14_, h15_, h16_, h17_, h18_, h19_, h20_, h21_, h22_, h23_⟩
                      clear BK258 BK259 BK275 HB
                      have BK258 := A0 h0_; have BK259 := A0 h1_; have BK275 := A0 h2_; have BK283 := A0 h3_; have BK284 := A0 h4_; have GW283 := A0 h5_; have GE283 := A0 h6_; have NB258_283 := A0 h7_; have NB283_258 := A0 h8_; have NB259_283 := A0 h9_; have NB283_259 := A0 h10_; have NB275_283 := A0 h11_; have NB283_275 := A0 h12_; have NB284_283 := A0 h13_; have NB283_284 := A0 h14_; have GW284 := A0 h15_; have GE284 := A0 h16_; have NB258_284 := A0 h17_; have NB284_258 := A0 h18_; have NB259_284 := A0 h19_; have NB284_259 := A0 h20_; have NB275_284 := A0 h21_; have NB284_275 := A0 h22_; have HB := A0 h23_
                      clear h0_ h1_ h2_ h3_ h4_ h5_ h6_ h7_ h8_ h9_ h10_ h11_ h12_ h13_ h14_ h15_ h16_ h17_ h18_ h19_ h20_ h21_ h22_ h23_
                      have hHeld := hS_
                      refine norm_ (a' := ?_) ?_ ?_; rotate_left; focus (simp only [putAll, Act.put, s1, s2, s3]; rfl)
                      refine one_ (i := 1) (N := some 50) #[T, T, T, O, O, O, O, O, T, T, O, O, O] rfl rfl (one_of HT_.out (by kernel_rfl)) (by decide) (fun K hK => ?_)
                      refine goes_ Try.func19 (by kernel_rfl) rfl #[.agg #[.int .i64 a0_0, .int .u64 a0_1, .int .i64 a0_2, .int .u64 a0_3]] (by rfl) rfl rfl (by (try simp only [List.map_toArray, List.map_cons, List.map_nil]); first | done | rfl | (simp only [List.length_drop, List.length_take]; rfl)) ?_
                      with_reducible refine (frac_Floor.calls kj2 a0_0 a0_1 a0_2 a0_3 t276 t277 _ A41.out).mono ?_
                      rintro e w55 ⟨rfl, hb⟩
                      refine ⟨_, rfl, ?_⟩
                      replace BK258 := kb BK258 hb
                      replace BK259 := kb BK259 hb
                      replace BK275 := kb BK275 hb
                      replace BK283 := kb BK283 hb
                      replace BK284 := kb BK284 hb
                      replace HB := kB HB hb
                      (try clear hb); (try clear hb2); (try clear hk); (try clear hi)
                      refine hK.out _ _ ⟨kc BK258 0, kc BK258 1, kc BK258 2, kc BK258 3, kc BK275 0, kc BK275 1⟩ (fun hHeld => ?_)
                      clear hK K
                      refine norm_ (a' := ?_) ?_ ?_; rotate_left; focus (show Act.put _ (some 50) _ = _; simp only [Act.put, s1, s2, s3, i64_w, i32_w]; rfl)
                      exact norm_ (by first | (simp only [putAll, Act.put, s1, s2, s3]; done) | (simp only [putAll, Act.put, s1, s2, s3]; rfl)) (hJ1_8_9 (gb283, gb284) _ ⟨hHeld, (kx BK258), (kx BK259), (kx BK275), (kx BK283), (kx BK284), GW283.out, GE283.out, NB258_283.out, NB283_258.out, NB259_283.out, NB283_259.out, NB275_283.out, NB283_275.out, NB284_283.out, NB283_284.out, GW284.out, GE284.out, NB258_284.out, NB284_258.out, NB259_284.out, NB284_259.out, NB275_284.out, NB284_275.out, (ky HB)⟩)
                  · skip
                    rintro gb284 w54 ⟨hS_, h0_, h1_, h2_, h3_, h4_, h5_, h6_, h7_, h8_, h9_, h10_, h11_, h12_⟩
                    clear BK258 BK259 BK275 HB
                    have BK258 := A0 h0_; have BK259 := A0 h1_; have BK275 := A0 h2_; have BK284 := A0 h3_; have GW284 := A0 h4_; have GE284 := A0 h5_; have NB258_284 := A0 h6_; have NB284_258 := A0 h7_; have NB259_284 := A0 h8_; have NB284_259 := A0 h9_; have NB275_284 := A0 h10_; have NB284_275 := A0 h11_; have HB := A0 h12_
                    clear h0_ h1_ h2_ h3_ h4_ h5_ h6_ h7_ h8_ h9_ h10_ h11_ h12_
                    have hHeld := hS_
                    refine norm_ (a' := ?_) ?_ ?_; rotate_left; focus (simp only [putAll, Act.put, s1, s2, s3]; rfl)
                    refine two_ (i := 3) (j := 8) (Ni := some 52) (Nj := some 11) #[T, T, T, T, O, O, O, O, O, T, O, O, O] #[T, T, T, O, O, O, O, O, T, T, O, O, O] rfl rfl rfl rfl (two_of HT_.out (by kernel_rfl)) (by decide) (by decide) (fun K hK => ?_) (fun K hK => ?_)
                    · skip
                      refine goes_ Try.func49 (by kernel_rfl) rfl #[.agg #[.int .i64 t276, .int .u64 t277], .agg #[.int .i64 t272, .int .u64 t273]] (by rfl) rfl rfl (by (try simp only [List.map_toArray, List.map_cons, List.map_nil]); first | done | rfl | (simp only [List.length_drop, List.length_take]; rfl)) ?_
                      with_reducible refine (wide_Div.calls kj2 t276 t277 t272 t273 t278 t279 t280 t281 t282 _ A42.out).mono ?_
                      rintro e w55 ⟨rfl, hb⟩
                      refine ⟨_, rfl, ?_⟩
                      replace BK258 := kb BK258 hb
                      replace BK259 := kb BK259 hb
                      replace BK275 := kb BK275 hb
                      replace BK284 := kb BK284 hb
                      replace HB := kB HB hb
                      (try clear hb); (try clear hb2); (try clear hk); (try clear hi)
                      refine hK.out _ _ ⟨kc BK258 0, kc BK258 1, kc BK258 2, kc BK258 3, kc BK275 0, kc BK275 1⟩ (fun hHeld => ?_)
                      clear hK K
                      refine norm_ (a' := ?_) ?_ ?_; rotate_left; focus (show Act.put _ (some 52) _ = _; simp only [Act.put, s1, s2, s3, i64_w, i32_w]; rfl)
                      refine pure_ (i := 4) (N := some 48) (v := ?_) (a' := ?_) #[T, T, T, T, T, O, O, O, O, T, O, O, O] rfl rfl (any_of HT_.out (by kernel_rfl)) (fun _ _ _ h => h) (Or.inl ⟨by rfl, ?_⟩) ?_ ?_; rotate_left; focus (intro w'; go_simp; with_reducible rfl)
                      rotate_left; focus (simp only [Act.put, s1, s2, s3, i64_w, i32_w]; rfl)
                      refine pure_ (i := 5) (N := some 53) (v := ?_) (a' := ?_) #[T, T, T, T, T, T, O, O, O, T, O, O, O] rfl rfl (any_of HT_.out (by kernel_rfl)) (fun _ _ _ h => h) (Or.inl ⟨by rfl, ?_⟩) ?_ ?_; rotate_left; focus (intro w'; go_simp; with_reducible rfl)
                      rotate_left; focus (simp only [Act.put, s1, s2, s3, i64_w, i32_w]; rfl)
                      refine pure_ (i := 6) (N := some 54) (v := ?_) (a' := ?_) #[T, T, T, T, T, T, T, O, O, T, O, O, O] rfl rfl (any_of HT_.out (by kernel_rfl)) (fun _ _ _ h => h) (Or.inl ⟨by rfl, ?_⟩) ?_ ?_; rotate_left; focus (intro w'; go_simp; with_reducible rfl)
                      rotate_left; focus (simp only [Act.put, s1, s2, s3, i64_w, i32_w]; rfl)
                      refine pure_ (i := 7) (N := some 55) (v := ?_) (a' := ?_) #[T, T, T, T, T, T, T, T, O, T, O, O, O] rfl rfl (any_of HT_.out (by kernel_rfl)) (fun _ _ _ h => h) (Or.inl ⟨by rfl, ?_⟩) ?_ ?_; rotate_left; focus (intro w'; go_simp; with_reducible rfl)
                      rotate_left; focus (simp only [Act.put, s1, s2, s3, i64_w, i32_w]; rfl)
                      exact norm_ (by first | (simp only [putAll, Act.put, s1, s2, s3]; done) | (simp only [putAll, Act.put, s1, s2, s3]; rfl)) (hJ1_3_9 (gb284) _ ⟨hHeld, (kx BK258), (kx BK259), (kx BK275), (kx BK284), GW284.out, GE284.out, NB258_284.out, NB284_258.out, NB259_284.out, NB284_259.out, NB275_284.out, NB284_275.out, (ky HB)⟩)
                    · skip
                      refine box_step ?hg (N := 11) ?hd (cs := #[.int .i64 0, .int .u64 0]) (t := 24) ?hr ?_; (case hd => rfl); (case hg => rfl); (case hr => first | (go_simp; done) | (go_simp; rfl))
                      intro gb283 hg w55 hbox hb
                      have BK283 := Aside0.mk (hbox)
                      have GW283 := kS HB hg
                      have GE283 := kS HB hg
                      have NB258_283 := kN BK258 hg
                      have NB283_258 := kM BK258 hg
                      have NB259_283 := kN BK259 hg
                      have NB283_259 := kM BK259 hg
                      have NB275_283 := kN BK275 hg
                      have NB283_275 := kM BK275 hg
                      have NB284_283 := kN BK284 hg
                      have NB283_284 := kM BK284 hg
                      replace BK258 := kb BK258 hb
                      replace BK259 := kb BK259 hb
                      replace BK275 := kb BK275 hb
                      replace BK284 := kb BK284 hb
                      replace HB := kB HB hb
                      clear hb hbox hg
                      refine hK.out _ _ ⟨kc BK258 0, kc BK258 1, kc BK258 2, kc BK258 3, kc BK275 0, kc BK275 1⟩ (fun hHeld => ?_)
                      clear hK K
                      refine norm_ (a' := ?_) ?_ ?_; rotate_left; focus (show Act.put _ (some 11) _ = _; simp only [Act.put, s1, s2, s3, i64_w, i32_w]; rfl)
                      exact norm_ (by first | (simp only [putAll, Act.put, s1, s2, s3]; done) | (simp only [putAll, Act.put, s1, s2, s3]; rfl)) (hJ1_8_9 (gb283, gb284) _ ⟨hHeld, (kx BK258), (kx BK259), (kx BK275), (kx BK283), (kx BK284), GW283.out, GE283.out, NB258_283.out, NB283_258.out, NB259_283.out, NB283_259.out, NB275_283.out, NB283_275.out, NB284_283.out, NB283_284.out, GW284.out, GE284.out, NB258_284.out, NB284_258.out, NB259_284.out, NB284_259.out, NB275_284.out, NB284_275.out, (ky HB)⟩)
                · skip
                  rintro gb283 w54 ⟨hS_, h0_, h1_, h2_, h3_, h4_, h5_, h6_, h7_, h8_, h9_, h10_, h11_, h12_⟩
                  clear BK258 BK259 BK275 HB
                  have BK258 := A0 h0_; have BK259 := A0 h1_; have BK275 := A0 h2_; have BK283 := A0 h3_; have GW283 := A0 h4_; have GE283 := A0 h5_; have NB258_283 := A0 h6_; have NB283_258 := A0 h7_; have NB259_283 := A0 h8_; have NB283_259 := A0 h9_; have NB275_283 := A0 h10_; have NB283_275 := A0 h11_; have HB := A0 h12_
                  clear h0_ h1_ h2_ h3_ h4_ h5_ h6_ h7_ h8_ h9_ h10_ h11_ h12_
                  have hHeld := hS_
                  refine norm_ (a' := ?_) ?_ ?_; rotate_left; focus (simp only [putAll, Act.put, s1, s2, s3]; rfl)
                  refine two_ (i := 3) (j := 9) (Ni := some 52) (Nj := some 12) #[T, T, T, T, O, O, O, O, T, O, O, O, O] #[T, T, T, O, O, O, O, O, T, T, O, O, O] rfl rfl rfl rfl (two_of HT_.out (by kernel_rfl)) (by decide) (by decide) (fun K hK => ?_) (fun K hK => ?_)
                  · skip
                    refine goes_ Try.func49 (by kernel_rfl) rfl #[.agg #[.int .i64 t276, .int .u64 t277], .agg #[.int .i64 t272, .int .u64 t273]] (by rfl) rfl rfl (by (try simp only [List.map_toArray, List.map_cons, List.map_nil]); first | done | rfl | (simp only [List.length_drop, List.length_take]; rfl)) ?_
                    with_reducible refine (wide_Div.calls kj2 t276 t277 t272 t273 t278 t279 t280 t281 t282 _ A42.out).mono ?_
                    rintro e w55 ⟨rfl, hb⟩
                    refine ⟨_, rfl, ?_⟩
                    replace BK258 := kb BK258 hb
                    replace BK259 := kb BK259 hb
                    replace BK275 := kb BK275 hb
                    replace BK283 := kb BK283 hb
                    replace HB := kB HB hb
                    (try clear hb); (try clear hb2); (try clear hk); (try clear hi)
                    refine hK.out _ _ ⟨kc BK258 0, kc BK258 1, kc BK258 2, kc BK258 3, kc BK275 0, kc BK275 1⟩ (fun hHeld => ?_)
                    clear hK K
                    refine norm_ (a' := ?_) ?_ ?_; rotate_left; focus (show Act.put _ (some 52) _ = _; simp only [Act.put, s1, s2, s3, i64_w, i32_w]; rfl)
                    refine pure_ (i := 4) (N := some 48) (v := ?_) (a' := ?_) #[T, T, T, T, T, O, O, O, T, O, O, O, O] rfl rfl (any_of HT_.out (by kernel_rfl)) (fun _ _ _ h => h) (Or.inl ⟨by rfl, ?_⟩) ?_ ?_; rotate_left; focus (intro w'; go_simp; with_reducible rfl)
                    rotate_left; focus (simp only [Act.put, s1, s2, s3, i64_w, i32_w]; rfl)
                    refine pure_ (i := 5) (N := some 53) (v := ?_) (a' := ?_) #[T, T, T, T, T, T, O, O, T, O, O, O, O] rfl rfl (any_of HT_.out (by kernel_rfl)) (fun _ _ _ h => h) (Or.inl ⟨by rfl, ?_⟩) ?_ ?_; rotate_left; focus (intro w'; go_simp; with_reducible rfl)
                    rotate_left; focus (simp only [Act.put, s1, s2, s3, i64_w, i32_w]; rfl)
                    refine pure_ (i := 6) (N := some 54) (v := ?_) (a' := ?_) #[T, T, T, T, T, T, T, O, T, O, O, O, O] rfl rfl (any_of HT_.out (by kernel_rfl)) (fun _ _ _ h => h) (Or.inl ⟨by rfl, ?_⟩) ?_ ?_; rotate_left; focus (intro w'; go_simp; with_reducible rfl)
                    rotate_left; focus (simp only [Act.put, s1, s2, s3, i64_w, i32_w]; rfl)
                    refine pure_ (i := 7) (N := some 55) (v := ?_) (a' := ?_) #[T, T, T, T, T, T, T, T, T, O, O, O, O] rfl rfl (any_of HT_.out (by kernel_rfl)) (fun _ _ _ h => h) (Or.inl ⟨by rfl, ?_⟩) ?_ ?_; rotate_left; focus (intro w'; go_simp; with_reducible rfl)
                    rotate_left; focus (simp only [Act.put, s1, s2, s3, i64_w, i32_w]; rfl)
                    exact norm_ (by first | (simp only [putAll, Act.put, s1, s2, s3]; done) | (simp only [putAll, Act.put, s1, s2, s3]; rfl)) (hJ1_3_8 (gb283) _ ⟨hHeld, (kx BK258), (kx BK259), (kx BK275), (kx BK283), GW283.out, GE283.out, NB258_283.out, NB283_258.out, NB259_283.out, NB283_259.out, NB275_283.out, NB283_275.out, (ky HB)⟩)
                  · skip
                    refine box_step ?hg (N := 12) ?hd (cs := #[.int .i64 0, .int .u64 0]) (t := 24) ?hr ?_; (case hd => rfl); (case hg => rfl); (case hr => first | (go_simp; done) | (go_simp; rfl))
                    intro gb284 hg w55 hbox hb
                    have BK284 := Aside0.mk (hbox)
                    have GW284 := kS HB hg
                    have GE284 := kS HB hg
                    have NB258_284 := kN BK258 hg
                    have NB284_258 := kM BK258 hg
                    have NB259_284 := kN BK259 hg
                    have NB284_259 := kM BK259 hg
                    have NB275_284 := kN BK275 hg
                    have NB284_275 := kM BK275 hg
                    have NB283_284 := kN BK283 hg
                    have NB284_283 := kM BK283 hg
                    replace BK258 := kb BK258 hb
                    replace BK259 := kb BK259 hb
                    replace BK275 := kb BK275 hb
                    replace BK283 := kb BK283 hb
                    replace HB := kB HB hb
                    clear hb hbox hg
                    refine hK.out _ _ ⟨kc BK258 0, kc BK258 1, kc BK258 2, kc BK258 3, kc BK275 0, kc BK275 1⟩ (fun hHeld => ?_)
                    clear hK K
                    refine norm_ (a' := ?_) ?_ ?_; rotate_left; focus (show Act.put _ (some 12) _ = _; simp only [Act.put, s1, s2, s3, i64_w, i32_w]; rfl)
                    exact norm_ (by first | (simp only [putAll, Act.put, s1, s2, s3]; done) | (simp only [putAll, Act.put, s1, s2, s3]; rfl)) (hJ1_8_9 (gb283, gb284) _ ⟨hHeld, (kx BK258), (kx BK259), (kx BK275), (kx BK283), (kx BK284), GW283.out, GE283.out, NB258_283.out, NB283_258.out, NB259_283.out, NB283_259.out, NB275_283.out, NB283_275.out, NB284_283.out, NB283_284.out, GW284.out, GE284.out, NB258_284.out, NB284_258.out, NB259_284.out, NB284_259.out, NB275_284.out, NB284_275.out, (ky HB)⟩)
              · skip
                rintro _ w54 ⟨hS_, h0_, h1_, h2_, h3_⟩
                clear BK258 BK259 BK275 HB
                have BK258 := A0 h0_; have BK259 := A0 h1_; have BK275 := A0 h2_; have HB := A0 h3_
                clear h0_ h1_ h2_ h3_
                have hHeld := hS_
                refine norm_ (a' := ?_) ?_ ?_; rotate_left; focus (simp only [putAll, Act.put, s1, s2, s3]; rfl)
                refine two_ (i := 8) (j := 9) (Ni := some 11) (Nj := some 12) #[T, T, T, T, T, T, T, T, T, O, O, O, O] #[T, T, T, T, T, T, T, T, O, T, O, O, O] rfl rfl rfl rfl (two_of HT_.out (by kernel_rfl)) (by decide) (by decide) (fun K hK => ?_) (fun K hK => ?_)
                · skip
                  refine box_step ?hg (N := 11) ?hd (cs := #[.int .i64 0, .int .u64 0]) (t := 24) ?hr ?_; (case hd => rfl); (case hg => rfl); (case hr => first | (go_simp; done) | (go_simp; rfl))
                  intro gb283 hg w55 hbox hb
                  have BK283 := Aside0.mk (hbox)
                  have GW283 := kS HB hg
                  have GE283 := kS HB hg
                  have NB258_283 := kN BK258 hg
                  have NB283_258 := kM BK258 hg
                  have NB259_283 := kN BK259 hg
                  have NB283_259 := kM BK259 hg
                  have NB275_283 := kN BK275 hg
                  have NB283_275 := kM BK275 hg
                  replace BK258 := kb BK258 hb
                  replace BK259 := kb BK259 hb
                  replace BK275 := kb BK275 hb
                  replace HB := kB HB hb
                  clear hb hbox hg
                  refine hK.out _ _ ⟨kc BK258 0, kc BK258 1, kc BK258 2, kc BK258 3, kc BK275 0, kc BK275 1⟩ (fun hHeld => ?_)
                  clear hK K
                  refine norm_ (a' := ?_) ?_ ?_; rotate_left; focus (show Act.put _ (some 11) _ = _; simp only [Act.put, s1, s2, s3, i64_w, i32_w]; rfl)
                  exact norm_ (by first | (simp only [putAll, Act.put, s1, s2, s3]; done) | (simp only [putAll, Act.put, s1, s2, s3]; rfl)) (hJ1_3_8 (gb283) _ ⟨hHeld, (kx BK258), (kx BK259), (kx BK275), (kx BK283), GW283.out, GE283.out, NB258_283.out, NB283_258.out, NB259_283.out, NB283_259.out, NB275_283.out, NB283_275.out, (ky HB)⟩)
                · skip
                  refine box_step ?hg (N := 12) ?hd (cs := #[.int .i64 0, .int .u64 0]) (t := 24) ?hr ?_; (case hd => rfl); (case hg => rfl); (case hr => first | (go_simp; done) | (go_simp; rfl))
                  intro gb284 hg w55 hbox hb
                  have BK284 := Aside0.mk (hbox)
                  have GW284 := kS HB hg
                  have GE284 := kS HB hg
                  have NB258_284 := kN BK258 hg
                  have NB284_258 := kM BK258 hg
                  have NB259_284 := kN BK259 hg
                  have NB284_259 := kM BK259 hg
                  have NB275_284 := kN BK275 hg
                  have NB284_275 := kM BK275 hg
                  replace BK258 := kb BK258 hb
                  replace BK259 := kb BK259 hb
                  replace BK275 := kb BK275 hb
                  replace HB := kB HB hb
                  clear hb hbox hg
                  refine hK.out _ _ ⟨kc BK258 0, kc BK258 1, kc BK258 2, kc BK258 3, kc BK275 0, kc BK275 1⟩ (fun hHeld => ?_)
                  clear hK K
                  refine norm_ (a' := ?_) ?_ ?_; rotate_left; focus (show Act.put _ (some 12) _ = _; simp only [Act.put, s1, s2, s3, i64_w, i32_w]; rfl)
                  exact norm_ (by first | (simp only [putAll, Act.put, s1, s2, s3]; done) | (simp only [putAll, Act.put, s1, s2, s3]; rfl)) (hJ1_3_9 (gb284) _ ⟨hHeld, (kx BK258), (kx BK259), (kx BK275), (kx BK284), GW284.out, GE284.out, NB258_284.out, NB284_258.out, NB259_284.out, NB284_259.out, NB275_284.out, NB284_275.out, (ky HB)⟩)
            · skip
              rintro ⟨gb283, gb284⟩ w55 ⟨hS_, h0_, h1_, h2_, h3_, h4_, h5_, h6_, h7_, h8_, h9_, h10_, h11_, h12_, h13_, h14_, h15_, h16_, h17_, h18_, h19_, h20_, h21_, h22_, h23_⟩
              clear BK258 BK259 BK275 HB
              have BK258 := A0 h0_; have BK259 := A0 h1_; have BK275 := A0 h2_; have BK283 := A0 h3_; have BK284 := A0 h4_; have GW283 := A0 h5_; have GE283 := A0 h6_; have NB258_283 := A0 h7_; have NB283_258 := A0 h8_; have NB259_283 := A0 h9_; have NB283_259 := A0 h10_; have NB275_283 := A0 h11_; have NB283_275 := A0 h12_; have NB284_283 := A0 h13_; have NB283_284 := A0 h14_; have GW284 := A0 h15_; have GE284 := A0 h16_; have NB258_284 := A0 h17_; have NB284_258 := A0 h18_; have NB259_284 := A0 h19_; have NB284_259 := A0 h20_; have NB275_284 := A0 h21_; have NB284_275 := A0 h22_; have HB := A0 h23_
              clear h0_ h1_ h2_ h3_ h4_ h5_ h6_ h7_ h8_ h9_ h10_ h11_ h12_ h13_ h14_ h15_ h16_ h17_ h18_ h19_ h20_ h21_ h22_ h23_
              have hHeld := hS_
              refine norm_ (a' := ?_) ?_ ?_; rotate_left; focus (simp only [putAll, Act.put, s1, s2, s3]; rfl)
              refine one_ (i := 3) (N := some 52) #[T, T, T, T, O, O, O, O, T, T, O, O, O] rfl rfl (one_of HT_.out (by kernel_rfl)) (by decide) (fun K hK => ?_)
              refine goes_ Try.func49 (by kernel_rfl) rfl #[.agg #[.int .i64 t276, .int .u64 t277], .agg #[.int .i64 t272, .int .u64 t273]] (by rfl) rfl rfl (by (try simp only [List.map_toArray, List.map_cons, List.map_nil]); first | done | rfl | (simp only [List.length_drop, List.length_take]; rfl)) ?_
              with_reducible refine (wide_Div.calls kj2 t276 t277 t272 t273 t278 t279 t280 t281 t282 _ A42.out).mono ?_
              rintro e w56 ⟨rfl, hb⟩
              refine ⟨_, rfl, ?_⟩
              replace BK258 := kb BK258 hb
              replace BK259 := kb BK259 hb
              replace BK275 := kb BK275 hb
              replace BK283 := kb BK283 hb
              replace BK284 := kb BK284 hb
              replace HB := kB HB hb
              (try clear hb); (try clear hb2); (try clear hk); (try clear hi)
              refine hK.out _ _ ⟨kc BK258 0, kc BK258 1, kc BK258 2, kc BK258 3, kc BK275 0, kc BK275 1⟩ (fun hHeld => ?_)
              clear hK K
              refine norm_ (a' := ?_) ?_ ?_; rotate_left; focus (show Act.put _ (some 52) _ = _; simp only [Act.put, s1, s2, s3, i64_w, i32_w]; rfl)
              refine pure_ (i := 4) (N := some 48) (v := ?_) (a' := ?_) #[T, T, T, T, T, O, O, O, T, T, O, O, O] rfl rfl (any_of HT_.out (by kernel_rfl)) (fun _ _ _ h => h) (Or.inl ⟨by rfl, ?_⟩) ?_ ?_; rotate_left; focus (intro w'; go_simp; with_reducible rfl)
              rotate_left; focus (simp only [Act.put, s1, s2, s3, i64_w, i32_w]; rfl)
              refine pure_ (i := 5) (N := some 53) (v := ?_) (a' := ?_) #[T, T, T, T, T, T, O, O, T, T, O, O, O] rfl rfl (any_of HT_.out (by kernel_rfl)) (fun _ _ _ h => h) (Or.inl ⟨by rfl, ?_⟩) ?_ ?_; rotate_left; focus (intro w'; go_simp; with_reducible rfl)
              rotate_left; focus (simp only [Act.put, s1, s2, s3, i64_w, i32_w]; rfl)
              refine pure_ (i := 6) (N := some 54) (v := ?_) (a' := ?_) #[T, T, T, T, T, T, T, O, T, T, O, O, O] rfl rfl (any_of HT_.out (by kernel_rfl)) (fun _ _ _ h => h) (Or.inl ⟨by rfl, ?_⟩) ?_ ?_; rotate_left; focus (intro w'; go_simp; with_reducible rfl)
              rotate_left; focus (simp only [Act.put, s1, s2, s3, i64_w, i32_w]; rfl)
              refine pure_ (i := 7) (N := some 55) (v := ?_) (a' := ?_) #[T, T, T, T, T, T, T, T, T, T, O, O, O] rfl rfl (any_of HT_.out (by kernel_rfl)) (fun _ _ _ h => h) (Or.inl ⟨by rfl, ?_⟩) ?_ ?_; rotate_left; focus (intro w'; go_simp; with_reducible rfl)
              rotate_left; focus (simp only [Act.put, s1, s2, s3, i64_w, i32_w]; rfl)
              exact norm_ (by first | (simp only [putAll, Act.put, s1, s2, s3]; done) | (simp only [putAll, Act.put, s1, s2, s3]; rfl)) (hJ1_3_8_9 (gb283, gb284) _ ⟨hHeld, (kx BK258), (kx BK259), (kx BK275), (kx BK283), (kx BK284), GW283.out, GE283.out, NB258_283.out, NB283_258.out, NB259_283.out, NB283_259.out, NB275_283.out, NB283_275.out, NB284_283.out, NB283_284.out, GW284.out, GE284.out, NB258_284.out, NB284_258.out, NB259_284.out, NB284_259.out, NB275_284.out, NB284_275.out, (ky HB)⟩)
          · skip
            rintro gb284 w55 ⟨hS_, h0_, h1_, h2_, h3_, h4_, h5_, h6_, h7_, h8_, h9_, h10_, h11_, h12_⟩
            clear BK258 BK259 BK275 HB
            have BK258 := A0 h0_; have BK259 := A0 h1_; have BK275 := A0 h2_; have BK284 := A0 h3_; have GW284 := A0 h4_; have GE284 := A0 h5_; have NB258_284 := A0 h6_; have NB284_258 := A0 h7_; have NB259_284 := A0 h8_; have NB284_259 := A0 h9_; have NB275_284 := A0 h10_; have NB284_275 := A0 h11_; have HB := A0 h12_
            clear h0_ h1_ h2_ h3_ h4_ h5_ h6_ h7_ h8_ h9_ h10_ h11_ h12_
            have hHeld := hS_
            refine norm_ (a' := ?_) ?_ ?_; rotate_left; focus (simp only [putAll, Act.put, s1, s2, s3]; rfl)
            refine one_ (i := 8) (N := some 11) #[T, T, T, T, T, T, T, T, T, T, O, O, O] rfl rfl (one_of HT_.out (by kernel_rfl)) (by decide) (fun K hK => ?_)
            refine box_step ?hg (N := 11) ?hd (cs := #[.int .i64 0, .int .u64 0]) (t := 24) ?hr ?_; (case hd => rfl); (case hg => rfl); (case hr => first | (go_simp; done) | (go_simp; rfl))
            intro gb283 hg w56 hbox hb
            have BK283 := Aside0.mk (hbox)
            have GW283 := kS HB hg
            have GE283 := kS HB hg
            have NB258_283 := kN BK258 hg
            have NB283_258 := kM BK258 hg
            have NB259_283 := kN BK259 hg
            have NB283_259 := kM BK259 hg
            have NB275_283 := kN BK275 hg
            have NB283_275 := kM BK275 hg
            have NB284_283 := kN BK284 hg
            have NB283_284 := kM BK284 hg
            replace BK258 := kb BK258 hb
            replace BK259 := kb BK259 hb
            replace BK275 := kb BK275 hb
            replace BK284 := kb BK284 hb
            replace HB := kB HB hb
            clear hb hbox hg
            refine hK.out _ _ ⟨kc BK258 0, kc BK258 1, kc BK258 2, kc BK258 3, kc BK275 0, kc BK275 1⟩ (fun hHeld => ?_)
            clear hK K
            refine norm_ (a' := ?_) ?_ ?_; rotate_left; focus (show Act.put _ (some 11) _ = _; simp only [Act.put, s1, s2, s3, i64_w, i32_w]; rfl)
            exact norm_ (by first | (simp only [putAll, Act.put, s1, s2, s3]; done) | (simp only [putAll, Act.put, s1, s2, s3]; rfl)) (hJ1_3_8_9 (gb283, gb284) _ ⟨hHeld, (kx BK258), (kx BK259), (kx BK275), (kx BK283), (kx BK284), GW283.out, GE283.out, NB258_283.out, NB283_258.out, NB259_283.out, NB283_259.out, NB275_283.out, NB283_275.out, NB284_283.out, NB283_284.out, GW284.out, GE284.out, NB258_284.out, NB284_258.out, NB259_284.out, NB284_259.out, NB275_284.out, NB284_275.out, (ky HB)⟩)
        · skip
          rintro gb283 w55 ⟨hS_, h0_, h1_, h2_, h3_, h4_, h5_, h6_, h7_, h8_, h9_, h10_, h11_, h12_⟩
          clear BK258 BK259 BK275 HB
          have BK258 := A0 h0_; have BK259 := A0 h1_; have BK275 := A0 h2_; have BK283 := A0 h3_; have GW283 := A0 h4_; have GE283 := A0 h5_; have NB258_283 := A0 h6_; have NB283_258 := A0 h7_; have NB259_283 := A0 h8_; have NB283_259 := A0 h9_; have NB275_283 := A0 h10_; have NB283_275 := A0 h11_; have HB := A0 h12_
          clear h0_ h1_ h2_ h3_ h4_ h5_ h6_ h7_ h8_ h9_ h10_ h11_ h12_
          have hHeld := hS_
          refine norm_ (a' := ?_) ?_ ?_; rotate_left; focus (simp only [putAll, Act.put, s1, s2, s3]; rfl)
          refine one_ (i := 9) (N := some 12) #[T, T, T, T, T, T, T, T, T, T, O, O, O] rfl rfl (one_of HT_.out (by kernel_rfl)) (by decide) (fun K hK => ?_)
          refine box_step ?hg (N := 12) ?hd (cs := #[.int .i64 0, .int .u64 0]) (t := 24) ?hr ?_; (case hd => rfl); (case hg => rfl); (case hr => first | (go_simp; done) | (go_simp; rfl))
          intro gb284 hg w56 hbox hb
          have BK284 := Aside0.mk (hbox)
          have GW284 := kS HB hg
          have GE284 := kS HB hg
          have NB258_284 := kN BK258 hg
          have NB284_258 := kM BK258 hg
          have NB259_284 := kN BK259 hg
          have NB284_259 := kM BK259 hg
          have NB275_284 := kN BK275 hg
          have NB284_275 := kM BK275 hg
          have NB283_284 := kN BK283 hg
          have NB284_283 := kM BK283 hg
          replace BK258 := kb BK258 hb
          replace BK259 := kb BK259 hb
          replace BK275 := kb BK275 hb
          replace BK283 := kb BK283 hb
          replace HB := kB HB hb
          clear hb hbox hg
          refine hK.out _ _ ⟨kc BK258 0, kc BK258 1, kc BK258 2, kc BK258 3, kc BK275 0, kc BK275 1⟩ (fun hHeld => ?_)
          clear hK K
          refine norm_ (a' := ?_) ?_ ?_; rotate_left; focus (show Act.put _ (some 12) _ = _; simp only [Act.put, s1, s2, s3, i64_w, i32_w]; rfl)
          exact norm_ (by first | (simp only [putAll, Act.put, s1, s2, s3]; done) | (simp only [putAll, Act.put, s1, s2, s3]; rfl)) (hJ1_3_8_9 (gb283, gb284) _ ⟨hHeld, (kx BK258), (kx BK259), (kx BK275), (kx BK283), (kx BK284), GW283.out, GE283.out, NB258_283.out, NB283_258.out, NB259_283.out, NB283_259.out, NB275_283.out, NB283_275.out, NB284_283.out, NB283_284.out, GW284.out, GE284.out, NB258_284.out, NB284_258.out, NB259_284.out, NB284_259.out, NB275_284.out, NB284_275.out, (ky HB)⟩)
      rintro ⟨gb283, gb284⟩ w56 ⟨hS_, h0_, h1_, h2_, h3_, h4_, h5_, h6_, h7_, h8_, h9_, h10_, h11_, h12_, h13_, h14_, h15_, h16_, h17_, h18_, h19_, h20_, h21_, h22_, h23_⟩
      clear BK258 BK259 BK275 HB
      have BK258 := A0 h0_; have BK259 := A0 h1_; have BK275 := A0 h2_; have BK283 := A0 h3_; have BK284 := A0 h4_; have GW283 := A0 h5_; have GE283 := A0 h6_; have NB258_283 := A0 h7_; have NB283_258 := A0 h8_; have NB259_283 := A0 h9_; have NB283_259 := A0 h10_; have NB275_283 := A0 h11_; have NB283_275 := A0 h12_; have NB284_283 := A0 h13_; have NB283_284 := A0 h14_; have GW284 := A0 h15_; have GE284 := A0 h16_; have NB258_284 := A0 h17_; have NB284_258 := A0 h18_; have NB259_284 := A0 h19_; have NB284_259 := A0 h20_; have NB275_284 := A0 h21_; have NB284_275 := A0 h22_; have HB := A0 h23_
      clear h0_ h1_ h2_ h3_ h4_ h5_ h6_ h7_ h8_ h9_ h10_ h11_ h12_ h13_ h14_ h15_ h16_ h17_ h18_ h19_ h20_ h21_ h22_ h23_
      have hHeld := hS_
      refine norm_ (a' := ?_) ?_ ?_; rotate_left; focus (simp only [putAll, Act.put, s1, s2, s3]; rfl)
      refine one_ (i := 10) (N := none) #[T, T, T, T, T, T, T, T, T, T, T, O, O] rfl rfl (one_of HT_.out (by kernel_rfl)) (by decide) (fun K hK => ?_)
      have hs57 : w56.cell? ⟨gb283, 0, none⟩ = some (.int .i64 0) := kc BK283 0
      have hfs57 := blk_frozen BK283.out 0
      have hns57_0 := NB258_283.out; have hns57_1 := NB259_283.out; have hns57_2 := NB275_283.out; have hns57_4 := NB284_283.out; have hms57_0 := NB283_258.out; have hms57_1 := NB283_259.out; have hms57_2 := NB283_275.out; have hms57_4 := NB283_284.out
      have hs58 : w56.cell? ⟨gb283, 1, none⟩ = some (.int .u64 0) := kc BK283 1
      have hfs58 := blk_frozen BK283.out 1
      have hns58_0 := NB258_283.out; have hns58_1 := NB259_283.out; have hns58_2 := NB275_283.out; have hns58_4 := NB284_283.out; have hms58_0 := NB283_258.out; have hms58_1 := NB283_259.out; have hms58_2 := NB283_275.out; have hms58_4 := NB283_284.out
      refine skip_ (w1 := ?_) (by rfl) rfl ?_ ?_
      rotate_left
      · go_simp
        rfl
      refine hK.out _ _ ⟨((cell_far (p := ⟨gb283, _, none⟩) NB258_283.out _).trans (((cell_far (p := ⟨gb283, _, none⟩) NB258_283.out _).trans (hHeld.1)))), ((cell_far (p := ⟨gb283, _, none⟩) NB258_283.out _).trans (((cell_far (p := ⟨gb283, _, none⟩) NB258_283.out _).trans (hHeld.2.1)))), ((cell_far (p := ⟨gb283, _, none⟩) NB258_283.out _).trans (((cell_far (p := ⟨gb283, _, none⟩) NB258_283.out _).trans (hHeld.2.2.1)))), ((cell_far (p := ⟨gb283, _, none⟩) NB258_283.out _).trans (((cell_far (p := ⟨gb283, _, none⟩) NB258_283.out _).trans (hHeld.2.2.2.1)))), ((cell_far (p := ⟨gb283, _, none⟩) NB275_283.out _).trans (((cell_far (p := ⟨gb283, _, none⟩) NB275_283.out _).trans (hHeld.2.2.2.2.1)))), ((cell_far (p := ⟨gb283, _, none⟩) NB275_283.out _).trans (((cell_far (p := ⟨gb283, _, none⟩) NB275_283.out _).trans (hHeld.2.2.2.2.2))))⟩ (fun hHeld => ?_)
      clear hK K
      refine one_ (i := 11) (N := none) #[T, T, T, T, T, T, T, T, T, T, T, T, O] rfl rfl (one_of HT_.out (by kernel_rfl)) (by decide) (fun K hK => ?_)
      have hs59 : w56.cell? ⟨gb284, 0, none⟩ = some (.int .i64 0) := kc BK284 0
      have hfs59 := blk_frozen BK284.out 0
      have hns59_0 := NB258_284.out; have hns59_1 := NB259_284.out; have hns59_2 := NB275_284.out; have hns59_3 := NB283_284.out; have hms59_0 := NB284_258.out; have hms59_1 := NB284_259.out; have hms59_2 := NB284_275.out; have hms59_3 := NB284_283.out
      have hs60 : w56.cell? ⟨gb284, 1, none⟩ = some (.int .u64 0) := kc BK284 1
      have hfs60 := blk_frozen BK284.out 1
      have hns60_0 := NB258_284.out; have hns60_1 := NB259_284.out; have hns60_2 := NB275_284.out; have hns60_3 := NB283_284.out; have hms60_0 := NB284_258.out; have hms60_1 := NB284_259.out; have hms60_2 := NB284_275.out; have hms60_3 := NB284_283.out
      refine skip_ (w1 := ?_) (by rfl) rfl ?_ ?_
      rotate_left
      · go_simp
        rfl
      refine hK.out _ _ ⟨((cell_far (p := ⟨gb284, _, none⟩) NB258_284.out _).trans (((cell_far (p := ⟨gb284, _, none⟩) NB258_284.out _).trans (hHeld.1)))), ((cell_far (p := ⟨gb284, _, none⟩) NB258_284.out _).trans (((cell_far (p := ⟨gb284, _, none⟩) NB258_284.out _).trans (hHeld.2.1)))), ((cell_far (p := ⟨gb284, _, none⟩) NB258_284.out _).trans (((cell_far (p := ⟨gb284, _, none⟩) NB258_284.out _).trans (hHeld.2.2.1)))), ((cell_far (p := ⟨gb284, _, none⟩) NB258_284.out _).trans (((cell_far (p := ⟨gb284, _, none⟩) NB258_284.out _).trans (hHeld.2.2.2.1)))), ((cell_far (p := ⟨gb284, _, none⟩) NB275_284.out _).trans (((cell_far (p := ⟨gb284, _, none⟩) NB275_284.out _).trans (hHeld.2.2.2.2.1)))), ((cell_far (p := ⟨gb284, _, none⟩) NB275_284.out _).trans (((cell_far (p := ⟨gb284, _, none⟩) NB275_284.out _).trans (hHeld.2.2.2.2.2))))⟩ (fun hHeld => ?_)
      clear hK K
      refine pure_ (i := 12) (N := some 13) (v := ?_) (a' := ?_) #[T, T, T, T, T, T, T, T, T, T, T, T, T] rfl rfl (any_of HT_.out (by kernel_rfl)) (fun _ _ _ h => h) (Or.inl ⟨by rfl, ?_⟩) ?_ ?_; rotate_left; focus (intro w'; go_simp; with_reducible rfl)
      rotate_left; focus (simp only [Act.put, s1, s2, s3, i64_w, i32_w]; rfl)
      refine done_ (done_of HT_.out (by kernel_rfl)) ?_
      have hnb61 := NB283_258.out; have hnc61 := NB258_283.out; have hnb62 := NB283_259.out; have hnc62 := NB259_283.out; have hnb63 := NB283_275.out; have hnc63 := NB275_283.out; have hnb64 := NB283_284.out; have hnc64 := NB284_283.out
      have hcz65_0 : w56.cell? ⟨gb283, 0, none⟩ = some (.int .i64 0) := kc BK283 0
      have hcz65_1 : w56.cell? ⟨gb283, 1, none⟩ = some (.int .u64 0) := kc BK283 1
      have hfz65_0 := blk_frozen BK283.out 0
      have hfz65_1 := blk_frozen BK283.out 1
      have hnb66 := NB284_258.out; have hnc66 := NB258_284.out; have hnb67 := NB284_259.out; have hnc67 := NB259_284.out; have hnb68 := NB284_275.out; have hnc68 := NB275_284.out
      have hcz69_0 : w56.cell? ⟨gb284, 0, none⟩ = some (.int .i64 0) := kc BK284 0
      have hcz69_1 : w56.cell? ⟨gb284, 1, none⟩ = some (.int .u64 0) := kc BK284 1
      have hfz69_0 := blk_frozen BK284.out 0
      have hfz69_1 := blk_frozen BK284.out 1
      have hcz70_0 : w56.cell? ⟨gb275, 0, none⟩ = some (.int .i64 t272) := kc BK275 0
      have hcz70_1 : w56.cell? ⟨gb275, 1, none⟩ = some (.int .u64 t273) := kc BK275 1
      have hfz70_0 := blk_frozen BK275.out 0
      have hfz70_1 := blk_frozen BK275.out 1
      try go_wp2_with (first | ((with_reducible refine gate_callee (f := 57) rfl ?_); refine goesL_ (some 59) rfl rfl Try.func57 (by kernel_rfl) rfl #[.agg #[.int .i64 t278, .int .u64 t279], .agg #[.int .i64 t280, .int .u64 t281], .agg #[.int .i64 t272, .int .u64 t273]] rfl (by (try simp only [List.map_toArray, List.map_cons, List.map_nil]); first | done | rfl | (simp only [List.length_drop, List.length_take]; rfl)) ?_; (with_reducible refine (frac_up.calls kj2 t278 t279 t280 t281 t272 t273 t285 t286 _ A43.out).mono ?_); rintro e w71 ⟨rfl, hb⟩; refine ⟨_, rfl, ?_⟩; have n0_ := kb BK258 hb; have n1_ := kb BK259 hb; have n2_ := kb BK275 hb; have n3_ := Aside0.mk (blk_below (g := gb283) (o := .cells #[.int .i64 t278, .int .u64 t279] 24 (0, 0)) (by (with_reducible repeat (first | refine blk_drewN ?_ _ | refine blk_drew ?_ | refine blk_alloc ?_ _)); refine blk_far ?_ NB283_284.out _; (with_reducible repeat (first | refine blk_drewN ?_ _ | refine blk_drew ?_ | refine blk_alloc ?_ _)); refine blk_far ?_ NB283_284.out _; (with_reducible repeat (first | refine blk_drewN ?_ _ | refine blk_drew ?_ | refine blk_alloc ?_ _)); refine blk_put (cs := #[.int .i64 t278, .int .u64 0]) ?_ 1 _ rfl; (with_reducible repeat (first | refine blk_drewN ?_ _ | refine blk_drew ?_ | refine blk_alloc ?_ _)); refine blk_put (cs := #[.int .i64 0, .int .u64 0]) ?_ 0 _ rfl; (with_reducible repeat (first | refine blk_drewN ?_ _ | refine blk_drew ?_ | refine blk_alloc ?_ _)); exact BK283.out) hb); have n4_ := Aside0.mk (blk_below (g := gb284) (o := .cells #[.int .i64 t280, .int .u64 t281] 24 (0, 0)) (by (with_reducible repeat (first | refine blk_drewN ?_ _ | refine blk_drew ?_ | refine blk_alloc ?_ _)); refine blk_put (cs := #[.int .i64 t280, .int .u64 0]) ?_ 1 _ rfl; (with_reducible repeat (first | refine blk_drewN ?_ _ | refine blk_drew ?_ | refine blk_alloc ?_ _)); refine blk_put (cs := #[.int .i64 0, .int .u64 0]) ?_ 0 _ rfl; (with_reducible repeat (first | refine blk_drewN ?_ _ | refine blk_drew ?_ | refine blk_alloc ?_ _)); refine blk_far ?_ NB284_283.out _; (with_reducible repeat (first | refine blk_drewN ?_ _ | refine blk_drew ?_ | refine blk_alloc ?_ _)); refine blk_far ?_ NB284_283.out _; (with_reducible repeat (first | refine blk_drewN ?_ _ | refine blk_drew ?_ | refine blk_alloc ?_ _)); exact BK284.out) hb); have n5_ := kB HB hb; clear BK258; clear BK259; clear BK275; clear BK283; clear BK284; clear HB; have BK258 := n0_; have BK259 := n1_; have BK275 := n2_; have BK283 := n3_; have BK284 := n4_; have HB := n5_; clear n0_ n1_ n2_ n3_ n4_ n5_; (try clear hb); (try clear hb2); (try clear hk); (try clear hi); have hnb72 := NB259_258.out; have hnc72 := NB258_259.out; have hcz73_0 : w71.cell? ⟨gb259, 0, none⟩ = some (.int .i64 0) := kc BK259 0; have hcz73_1 : w71.cell? ⟨gb259, 1, none⟩ = some (.int .u64 0) := kc BK259 1; have hfz73_0 := blk_frozen BK259.out 0; have hfz73_1 := blk_frozen BK259.out 1))
      refine bodyPost_ret (results_ct rfl _ _ gb259 24 #[.int .i64 t285, .int .u64 t286] (0, 0) _ rfl (by (with_reducible repeat (first | refine blk_drewN ?_ _ | refine blk_drew ?_ | refine blk_alloc ?_ _)); refine blk_put (cs := #[.int .i64 t285, .int .u64 0]) ?_ 1 _ rfl; (with_reducible repeat (first | refine blk_drewN ?_ _ | refine blk_drew ?_ | refine blk_alloc ?_ _)); refine blk_put (cs := #[.int .i64 0, .int .u64 0]) ?_ 0 _ rfl; (with_reducible repeat (first | refine blk_drewN ?_ _ | refine blk_drew ?_ | refine blk_alloc ?_ _)); exact BK259.out) Try.underlying24 rfl (by kernel_rfl)) rfl ?_
      exact ⟨by first | rfl | (simp [errW_none, errW_some] <;> rfl) | (simp [*, errW_none, errW_some] <;> rfl), ky HB⟩

/-! ### frac_Of: function 46 -/
def frac_Of.f (a0 : Int) : Option (Int × Int × Int × Int) := (wide_Of.f a0).bind fun bt288 => ((wide_Of.f 1).bind fun bt290 => (some (bt288.1, bt288.2, bt290.1, bt290.2)))
set_option maxHeartbeats 8000000 in
set_option maxRecDepth 100000 in
theorem frac_Of.calls (a0 : Int) (r1 : Int) (r2 : Int) (r3 : Int) (r4 : Int) (w : World) (h : frac_Of.f a0 = some (r1, r2, r3, r4)) :
    Calls Try.prog 46 #[.int .i64 a0] w fun e w' => e = .returned (.agg #[.int .i64 r1, .int .u64 r2, .int .i64 r3, .int .u64 r4]) ∧ Below w.heap.size w w' := by
  have hu26 := Try.underlying26
  have HB := Aside0.mk (Below.refl w.heap.size w)
  have H : ((wide_Of.f a0).bind fun bt288 => ((wide_Of.f 1).bind fun bt290 => (some (bt288.1, bt288.2, bt290.1, bt290.2)))) = some (r1, r2, r3, r4) := h
  clear h
  replace H := Option.bind_eq_some_iff.mp H
  obtain ⟨⟨t288, t289⟩, A20, H⟩ := H
  replace H : ((wide_Of.f 1).bind fun bt290 => (some (t288, t289, bt290.1, bt290.2))) = some (r1, r2, r3, r4) := H
  have A2 := Aside0.mk A20
  clear A20
  replace H := Option.bind_eq_some_iff.mp H
  obtain ⟨⟨t290, t291⟩, A30, H⟩ := H
  replace H : (some (t288, t289, t290, t291)) = some (r1, r2, r3, r4) := H
  have A3 := Aside0.mk A30
  clear A30
  simp only [Option.some.injEq, Prod.mk.injEq] at H
  obtain ⟨rfl, rfl, rfl, rfl⟩ := H
  go_enter Try.func46, Try.ntmps46
  go_wp2_with (first | ((with_reducible refine gate_dst (N := 2) rfl ?_); refine box_event ?hg (N := 2) ?hd (cs := #[.int .i64 0, .int .u64 0, .int .i64 0, .int .u64 0]) (t := 26) ?hr ?_; (case hd => rfl); (case hg => rfl); (case hr => first | (go_simp; done) | (go_simp; rfl)); intro gb287 hg w4 hbox hb; have BK287 := Aside0.mk (hbox); have GW287 := kS HB hg; have GE287 := kS HB hg; replace HB := kB HB hb; clear hb hbox hg) | ((with_reducible refine gate_callee (f := 24) rfl ?_); refine goesL_ (some 4) rfl rfl Try.func24 (by kernel_rfl) rfl #[.int .i64 a0] rfl (by (try simp only [List.map_toArray, List.map_cons, List.map_nil]); first | done | rfl | (simp only [List.length_drop, List.length_take]; rfl)) ?_; (with_reducible refine (wide_Of.calls a0 t288 t289 _ A2.out).mono ?_); rintro e w5 ⟨rfl, hb⟩; refine ⟨_, rfl, ?_⟩; replace BK287 := kb BK287 hb; replace HB := kB HB hb; (try clear hb); (try clear hb2); (try clear hk); (try clear hi)) | ((with_reducible refine gate_callee (f := 24) rfl ?_); refine goesL_ (some 5) rfl rfl Try.func24 (by kernel_rfl) rfl #[.int .i64 1] rfl (by (try simp only [List.map_toArray, List.map_cons, List.map_nil]); first | done | rfl | (simp only [List.length_drop, List.length_take]; rfl)) ?_; (with_reducible refine (wide_Of.calls 1 t290 t291 _ A3.out).mono ?_); rintro e w6 ⟨rfl, hb⟩; refine ⟨_, rfl, ?_⟩; replace BK287 := kb BK287 hb; replace HB := kB HB hb; (try clear hb); (try clear hb2); (try clear hk); (try clear hi); have hcz7_0 : w6.cell? ⟨gb287, 0, none⟩ = some (.int .i64 0) := kc BK287 0; have hcz7_1 : w6.cell? ⟨gb287, 1, none⟩ = some (.int .u64 0) := kc BK287 1; have hcz7_2 : w6.cell? ⟨gb287, 2, none⟩ = some (.int .i64 0) := kc BK287 2; have hcz7_3 : w6.cell? ⟨gb287, 3, none⟩ = some (.int .u64 0) := kc BK287 3; have hfz7_0 := blk_frozen BK287.out 0; have hfz7_1 := blk_frozen BK287.out 1; have hfz7_2 := blk_frozen BK287.out 2; have hfz7_3 := blk_frozen BK287.out 3))
  refine bodyPost_ret (results_cell_row rfl _ _ gb287 26 #[.int .i64 t288, .int .u64 t289, .int .i64 t290, .int .u64 t291] (0, 0) _ rfl (by (with_reducible repeat (first | refine blk_drewN ?_ _ | refine blk_drew ?_ | refine blk_alloc ?_ _)); refine blk_put (cs := #[.int .i64 t288, .int .u64 t289, .int .i64 t290, .int .u64 0]) ?_ 3 _ rfl; (with_reducible repeat (first | refine blk_drewN ?_ _ | refine blk_drew ?_ | refine blk_alloc ?_ _)); refine blk_put (cs := #[.int .i64 t288, .int .u64 t289, .int .i64 0, .int .u64 0]) ?_ 2 _ rfl; (with_reducible repeat (first | refine blk_drewN ?_ _ | refine blk_drew ?_ | refine blk_alloc ?_ _)); refine blk_put (cs := #[.int .i64 t288, .int .u64 0, .int .i64 0, .int .u64 0]) ?_ 1 _ rfl; (with_reducible repeat (first | refine blk_drewN ?_ _ | refine blk_drew ?_ | refine blk_alloc ?_ _)); refine blk_put (cs := #[.int .i64 0, .int .u64 0, .int .i64 0, .int .u64 0]) ?_ 0 _ rfl; (with_reducible repeat (first | refine blk_drewN ?_ _ | refine blk_drew ?_ | refine blk_alloc ?_ _)); exact BK287.out) Try.underlying26 rfl (by kernel_rfl)) rfl ?_
  exact ⟨by first | rfl | (simp [errW_none, errW_some] <;> rfl) | (simp [*, errW_none, errW_some] <;> rfl), ky HB⟩

end Go.Proofs.Ytpjbniihdndlmab.Q
