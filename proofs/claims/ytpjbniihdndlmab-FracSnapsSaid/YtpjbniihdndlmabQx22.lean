-- Printed by wip/pp.sh (a session's own turning of the kit's print) for this seat.
import Derived.Test.YtpjbniihdndlmabQx0
import Derived.Test.YtpjbniihdndlmabQx1
import Derived.Test.YtpjbniihdndlmabQx5
import Derived.Test.YtpjbniihdndlmabQx8
import Derived.Test.YtpjbniihdndlmabQx13
import Derived.Test.YtpjbniihdndlmabQx14
import Derived.Test.YtpjbniihdndlmabQx17
import Derived.Test.YtpjbniihdndlmabQx21
namespace Go.Proofs.Ytpjbniihdndlmab.Q
open Go.RowKit Go.Proofs.YtpjbniihdndlmabW.PrintWords Go.Proofs.YtpjbniihdndlmabW.PrintLast Go.Proofs.YtpjbniihdndlmabW.PrintMore
open Go.Proofs.Ytpjbniihdndlmab.H
attribute [local go_sem] hq_add64 hq_sub64 hq_not64 add64c_nn sub64c_nn sub64c_le
attribute [local go_sem] max2_int min2_int max_two min_two max_three min_three max_four min_four   -- for this text's walks alone
set_option linter.unusedVariables false
set_option linter.unusedSimpArgs false

attribute [local go_sem high] eqA24
/-! ### cobweblaw02_FracSnaps: function 5 -/
def cobweblaw02_FracSnaps.j0 : Nat → Int → Bool → Bool → Int → Int → Int → Int → Int → Int → Option (Bool)
 | 0, _, _, _, _, _, _, _, _, _ => none
 | k + 1, x1, x6, x24, x670000, x670001, x670002, x670003, x674000, x674001 => if x24 = true then ((cobweblaw02_alive.f k).bind fun t675 => (if t675 = true then (if x6 = true then (none) else (some (x674000 == 0 && (x674001 == 0)))) else (none))) else ((cobweblaw02_alive.f k).bind fun t676 => (if t676 = true then (if x6 = true then ((cobweblaw02_num.f k x674000 x674001).bind fun bt677 => ((cobweblaw02_Old.f k x670000 x670001 x670002 x670003).bind fun bt681 => ((cobwebref02_Snap.f k bt681.1 bt681.2.1 bt681.2.2.1 bt681.2.2.2 x1).bind fun bt689 => ((cobwebref01_Cmp.f k bt677.1 bt677.2 bt689.1 bt689.2).bind fun t693 => (some (t693 == 0)))))) else (none)) else (none)))
def cobweblaw02_FracSnaps.f (k : Nat) (a0_0 : Int) (a0_1 : Int) (a0_2 : Int) (a0_3 : Int) (a1 : Int) : Option (Bool) := (frac_Snap.f k a0_0 a0_1 a0_2 a0_3 a1).bind fun bt670 => ((wide_Sign.f a0_2 a0_3).bind fun t674 => (if t674 ≤ 0 then (cobweblaw02_FracSnaps.j0 k a1 bt670.2.2 true a0_0 a0_1 a0_2 a0_3 bt670.1 bt670.2.1) else (if a1 < 0 then (cobweblaw02_FracSnaps.j0 k a1 bt670.2.2 true a0_0 a0_1 a0_2 a0_3 bt670.1 bt670.2.1) else (cobweblaw02_FracSnaps.j0 k a1 bt670.2.2 (decide (a1 > 100)) a0_0 a0_1 a0_2 a0_3 bt670.1 bt670.2.1))))
theorem cobweblaw02_FracSnaps.mono_l : ∀ k, (∀ y0 y1 y2 y3 y4 y5 y6 y7 y8, LeO (cobweblaw02_FracSnaps.j0 k y0 y1 y2 y3 y4 y5 y6 y7 y8) (cobweblaw02_FracSnaps.j0 (k + 1) y0 y1 y2 y3 y4 y5 y6 y7 y8))
 | 0 => fun _ _ _ _ _ _ _ _ _ r h => by simp [cobweblaw02_FracSnaps.j0] at h
 | k + 1 => by
  have ih0 := cobweblaw02_FracSnaps.mono_l k
  ·intro y0 y1 y2 y3 y4 y5 y6 y7 y8
   unfold cobweblaw02_FracSnaps.j0
   repeat' first
   | (with_reducible exact ih0 _ _ _ _ _ _ _ _ _)
   | (with_reducible exact cobweblaw02_Old.mono _ _ _ _ _)
   | (with_reducible exact cobweblaw02_alive.mono _)
   | (with_reducible exact cobweblaw02_num.mono _ _ _)
   | (with_reducible exact cobwebref01_Cmp.mono _ _ _ _ _)
   | (with_reducible exact cobwebref02_Snap.mono _ _ _ _ _ _)
   | (with_reducible exact frac_Snap.mono _ _ _ _ _ _)
   | (with_reducible exact LeO.refl _)
   | (with_reducible exact LeO.none _)
   | (with_reducible refine LeO.ite ?_ ?_)
   | (with_reducible refine LeO.bind ?_ (fun _ => ?_))
   | exact ih0 _ _ _ _ _ _ _ _ _
   | exact cobweblaw02_Old.mono _ _ _ _ _
   | exact cobweblaw02_alive.mono _
   | exact cobweblaw02_num.mono _ _ _
   | exact cobwebref01_Cmp.mono _ _ _ _ _
   | exact cobwebref02_Snap.mono _ _ _ _ _ _
   | exact frac_Snap.mono _ _ _ _ _ _
   | exact LeO.none _
   | refine LeO.ite ?_ ?_
   | refine LeO.bind ?_ (fun _ => ?_)
theorem cobweblaw02_FracSnaps.mono : ∀ a0 a1 a2 a3 a4 k, LeO (cobweblaw02_FracSnaps.f k a0 a1 a2 a3 a4) (cobweblaw02_FracSnaps.f (k + 1) a0 a1 a2 a3 a4) := by
 intro a0 a1 a2 a3 a4 k; have ih0 := cobweblaw02_FracSnaps.mono_l k
 unfold cobweblaw02_FracSnaps.f
 repeat' first
   | (with_reducible exact ih0 _ _ _ _ _ _ _ _ _)
   | (with_reducible exact cobweblaw02_Old.mono _ _ _ _ _)
   | (with_reducible exact cobweblaw02_alive.mono _)
   | (with_reducible exact cobweblaw02_num.mono _ _ _)
   | (with_reducible exact cobwebref01_Cmp.mono _ _ _ _ _)
   | (with_reducible exact cobwebref02_Snap.mono _ _ _ _ _ _)
   | (with_reducible exact frac_Snap.mono _ _ _ _ _ _)
   | (with_reducible exact LeO.refl _)
   | (with_reducible exact LeO.none _)
   | (with_reducible refine LeO.ite ?_ ?_)
   | (with_reducible refine LeO.bind ?_ (fun _ => ?_))
   | exact ih0 _ _ _ _ _ _ _ _ _
   | exact cobweblaw02_Old.mono _ _ _ _ _
   | exact cobweblaw02_alive.mono _
   | exact cobweblaw02_num.mono _ _ _
   | exact cobwebref01_Cmp.mono _ _ _ _ _
   | exact cobwebref02_Snap.mono _ _ _ _ _ _
   | exact frac_Snap.mono _ _ _ _ _ _
   | exact LeO.none _
   | refine LeO.ite ?_ ?_
   | refine LeO.bind ?_ (fun _ => ?_)
def cobweblaw02_FracSnaps.T4 : Bool × List (List Nat × List Nat) := (true, [([], []), ([0, 0], [0]), ([1], [1]), ([1, 2], [1, 2]), ([3, 1], [3]), ([4], [4]), ([5, 4, 4], [4, 5]), ([4], [4]), ([7, 6, 4], [4, 7]), ([4], [4]), ([8, 9, 8, 4], [4, 8, 9]), ([6, 10, 10, 4], [4, 6, 10]), ([11, 4], [4, 11]), ([4, 12], [4, 12]), ([13, 11, 0, 1, 2, 3, 4, 5, 6, 7, 8, 9, 10, 11, 12, 13], [13])])
def cobweblaw02_FracSnaps.B4 : List Nat := [0, 1, 3, 7, 15, 31, 63, 31, 255, 31, 1023, 2047, 4095, 8191, 16383]
theorem cobweblaw02_FracSnaps.tab4 : rtab .any (opsOf Try.f5 4) = cobweblaw02_FracSnaps.T4 := by kernel_rfl
theorem cobweblaw02_FracSnaps.bits4 : waitsOk cobweblaw02_FracSnaps.T4.2 cobweblaw02_FracSnaps.B4 = true := by kernel_rfl
set_option maxHeartbeats 8000000 in
set_option maxRecDepth 100000 in
theorem cobweblaw02_FracSnaps.calls (k : Nat) (a0_0 : Int) (a0_1 : Int) (a0_2 : Int) (a0_3 : Int) (a1 : Int) (r : Bool) (w : World) (h : cobweblaw02_FracSnaps.f k a0_0 a0_1 a0_2 a0_3 a1 = some r) :
  Calls Try.prog 5 #[.agg #[.int .i64 a0_0, .int .u64 a0_1, .int .i64 a0_2, .int .u64 a0_3], .int .i64 a1] w fun e w' => e = .returned (.bool r) ∧ Below w.heap.size w w' := by
 have hu26 := Try.underlying26; have hu24 := Try.underlying24; have HB := Aside0.mk (Below.refl w.heap.size w); have H : ((frac_Snap.f k a0_0 a0_1 a0_2 a0_3 a1).bind fun bt670 => ((wide_Sign.f a0_2 a0_3).bind fun t674 => (if t674 ≤ 0 then (cobweblaw02_FracSnaps.j0 k a1 bt670.2.2 true a0_0 a0_1 a0_2 a0_3 bt670.1 bt670.2.1) else (if a1 < 0 then (cobweblaw02_FracSnaps.j0 k a1 bt670.2.2 true a0_0 a0_1 a0_2 a0_3 bt670.1 bt670.2.1) else (cobweblaw02_FracSnaps.j0 k a1 bt670.2.2 (decide (a1 > 100)) a0_0 a0_1 a0_2 a0_3 bt670.1 bt670.2.1))))) = some r := h; clear h; replace H := Option.bind_eq_some_iff.mp H; obtain ⟨⟨t670, t671, t672⟩, A30, H⟩ := H; replace H : ((wide_Sign.f a0_2 a0_3).bind fun t674 => (if t674 ≤ 0 then (cobweblaw02_FracSnaps.j0 k a1 t672 true a0_0 a0_1 a0_2 a0_3 t670 t671) else (if a1 < 0 then (cobweblaw02_FracSnaps.j0 k a1 t672 true a0_0 a0_1 a0_2 a0_3 t670 t671) else (cobweblaw02_FracSnaps.j0 k a1 t672 (decide (a1 > 100)) a0_0 a0_1 a0_2 a0_3 t670 t671)))) = some r := H; have A3 := Aside0.mk A30; clear A30; have HC4 := Aside0.mk H; clear H
 go_enter Try.func5, Try.ntmps5
 go_upto_region 2 with (first | ((with_reducible refine gate_dst (N := 2) rfl ?_); refine box_event ?hg (N := 2) ?hd (cs := #[.int .i64 a0_0, .int .u64 a0_1, .int .i64 a0_2, .int .u64 a0_3]) (t := 26) ?hr ?_; (case hd => rfl); (case hg => rfl); (case hr => first | (go_simp; done) | (go_simp; rfl)); intro gb669 hg w5 hbox hb; have BK669 := Aside0.mk (hbox); have GW669 := kS HB hg; have GE669 := kS HB hg; replace HB := kB HB hb; clear hb hbox hg; have hcz6_0 : w5.cell? ⟨gb669, 0, none⟩ = some (.int .i64 a0_0) := kc BK669 0; have hcz6_1 : w5.cell? ⟨gb669, 1, none⟩ = some (.int .u64 a0_1) := kc BK669 1; have hcz6_2 : w5.cell? ⟨gb669, 2, none⟩ = some (.int .i64 a0_2) := kc BK669 2; have hcz6_3 : w5.cell? ⟨gb669, 3, none⟩ = some (.int .u64 a0_3) := kc BK669 3; have hfz6_0 := blk_frozen BK669.out 0; have hfz6_1 := blk_frozen BK669.out 1; have hfz6_2 := blk_frozen BK669.out 2; have hfz6_3 := blk_frozen BK669.out 3) | ((with_reducible refine gate_callee (f := 26) rfl ?_); refine goesL_ (some 10) rfl rfl Try.func26 (by kernel_rfl) rfl #[.agg #[.int .i64 a0_0, .int .u64 a0_1, .int .i64 a0_2, .int .u64 a0_3], .int .i64 a1] rfl (by (try simp only [zm, zc, zn]); first | done | rfl | (simp only [zd, zt]; rfl)) ?_; (with_reducible refine (frac_Snap.calls k a0_0 a0_1 a0_2 a0_3 a1 t670 t671 t672 _ A3.out).mono ?_); rintro e w7 ⟨rfl, hb⟩; refine ⟨_, rfl, ?_⟩; replace BK669 := kb BK669 hb; replace HB := kB HB hb; (try clear hb); (try clear hb2); (try clear hk); (try clear hi)) | ((with_reducible refine gate_dst (N := 5) rfl ?_); refine box_event ?hg (N := 5) ?hd (cs := #[.int .i64 0, .int .u64 0]) (t := 24) ?hr ?_; (case hd => rfl); (case hg => rfl); (case hr => first | (go_simp; done) | (go_simp; rfl)); intro gb673 hg w8 hbox hb; have BK673 := Aside0.mk (hbox); have GW673 := kS HB hg; have GE673 := kS HB hg; have NB669_673 := kN BK669 hg; have NB673_669 := kM BK669 hg; replace BK669 := kb BK669 hb; replace HB := kB HB hb; clear hb hbox hg; have hnb9 := NB673_669.out; have hnc9 := NB669_673.out; have hcz10_0 : w8.cell? ⟨gb673, 0, none⟩ = some (.int .i64 0) := kc BK673 0; have hcz10_1 : w8.cell? ⟨gb673, 1, none⟩ = some (.int .u64 0) := kc BK673 1; have hfz10_0 := blk_frozen BK673.out 0; have hfz10_1 := blk_frozen BK673.out 1))
 (try simp only [Act.put, s1, s2, s3])
 go_cut [24] (fun v24 wc => ∃ (kq : Nat) (x24_3 : Bool), v24 = .bool x24_3 ∧ Aside0 (cobweblaw02_FracSnaps.j0 kq a1 t672 x24_3 a0_0 a0_1 a0_2 a0_3 t670 t671 = some r) ∧ Aside0 (kq ≤ k) ∧ Aside0 (wc.heap[gb669]? = some (.cells #[.int .i64 a0_0, .int .u64 a0_1, .int .i64 a0_2, .int .u64 a0_3] 26 (0, 0))) ∧ Aside0 (wc.heap[gb673]? = some (.cells #[.int .i64 t670, .int .u64 t671] 24 (0, 0))) ∧ Aside0 (Below w.heap.size w wc))
 case first =>
  have H := HC4.out; clear HC4; replace H := Option.bind_eq_some_iff.mp H; obtain ⟨t674, A110, H⟩ := H; replace H : (if t674 ≤ 0 then (cobweblaw02_FracSnaps.j0 k a1 t672 true a0_0 a0_1 a0_2 a0_3 t670 t671) else (if a1 < 0 then (cobweblaw02_FracSnaps.j0 k a1 t672 true a0_0 a0_1 a0_2 a0_3 t670 t671) else (cobweblaw02_FracSnaps.j0 k a1 t672 (decide (a1 > 100)) a0_0 a0_1 a0_2 a0_3 t670 t671))) = some r := H; have A11 := Aside0.mk A110; clear A110
  by_cases c12 : t674 ≤ 0
  ·rw [if_pos c12] at H
   have c12b0 : decide (t674 ≤ 0) = true := decide_eq_true c12; clear c12
   (first | rw [c12b0] | (simp only [i64_w, i32_w]; rw [c12b0]) | skip)
   have H' := Aside0.mk H; clear H; have hnb13 := NB669_673.out; have hnc13 := NB673_669.out; obtain ⟨hcz14_0, hcz14_1, hcz14_2, hcz14_3⟩ := kc4 BK669; obtain ⟨hfz14_0, hfz14_1, hfz14_2, hfz14_3⟩ := kf4 BK669
   go_wp2_with (first | ((with_reducible refine gate_callee (f := 15) rfl ?_); refine goesL_ (some 15) rfl rfl Try.func15 (by kernel_rfl) rfl #[.agg #[.int .i64 a0_2, .int .u64 a0_3]] rfl (by (try simp only [zm, zc, zn]); first | done | rfl | (simp only [zd, zt]; rfl)) ?_; (with_reducible refine (wide_Sign.calls a0_2 a0_3 t674 _ A11.out).mono ?_); rintro e w15 ⟨rfl, hb⟩; refine ⟨_, rfl, ?_⟩; have n0_ := kb BK669 hb; have n1_ := Aside0.mk (blk_below (g := gb673) (o := .cells #[.int .i64 t670, .int .u64 t671] 24 (0, 0)) (by (with_reducible repeat (first | refine zr ?_ _ | refine zw ?_ | refine za ?_ _)); refine blk_put (cs := #[.int .i64 t670, .int .u64 0]) ?_ 1 _ rfl; (with_reducible repeat (first | refine zr ?_ _ | refine zw ?_ | refine za ?_ _)); refine blk_put (cs := #[.int .i64 0, .int .u64 0]) ?_ 0 _ rfl; (with_reducible repeat (first | refine zr ?_ _ | refine zw ?_ | refine za ?_ _)); exact BK673.out) hb); have n2_ := kB HB hb; clear BK669; clear BK673; clear HB; have BK669 := n0_; have BK673 := n1_; have HB := n2_; clear n0_ n1_ n2_; (try clear hb); (try clear hb2); (try clear hk); (try clear hi)))
   go_meet
   case rel => exact ⟨_, (true), (by first | rfl | (simp; done) | (simp [*]; done)), H', ⟨by first | omega | exact Nat.le_refl _⟩, ⟨kx BK669⟩, ⟨kx BK673⟩, ⟨ky HB⟩⟩
  rw [if_neg c12] at H
  have c12b0 : decide (t674 ≤ 0) = false := decide_eq_false c12; clear c12
  (first | rw [c12b0] | (simp only [i64_w, i32_w]; rw [c12b0]) | skip)
  by_cases c16 : a1 < 0
  ·rw [if_pos c16] at H
   have c16b0 : decide (a1 < 0) = true := decide_eq_true c16; clear c16; have H' := Aside0.mk H; clear H; have hnb17 := NB669_673.out; have hnc17 := NB673_669.out; obtain ⟨hcz18_0, hcz18_1, hcz18_2, hcz18_3⟩ := kc4 BK669; obtain ⟨hfz18_0, hfz18_1, hfz18_2, hfz18_3⟩ := kf4 BK669
   go_wp2_with (first | ((with_reducible refine gate_callee (f := 15) rfl ?_); refine goesL_ (some 15) rfl rfl Try.func15 (by kernel_rfl) rfl #[.agg #[.int .i64 a0_2, .int .u64 a0_3]] rfl (by (try simp only [zm, zc, zn]); first | done | rfl | (simp only [zd, zt]; rfl)) ?_; (with_reducible refine (wide_Sign.calls a0_2 a0_3 t674 _ A11.out).mono ?_); rintro e w19 ⟨rfl, hb⟩; refine ⟨_, rfl, ?_⟩; have n0_ := kb BK669 hb; have n1_ := Aside0.mk (blk_below (g := gb673) (o := .cells #[.int .i64 t670, .int .u64 t671] 24 (0, 0)) (by (with_reducible repeat (first | refine zr ?_ _ | refine zw ?_ | refine za ?_ _)); refine blk_put (cs := #[.int .i64 t670, .int .u64 0]) ?_ 1 _ rfl; (with_reducible repeat (first | refine zr ?_ _ | refine zw ?_ | refine za ?_ _)); refine blk_put (cs := #[.int .i64 0, .int .u64 0]) ?_ 0 _ rfl; (with_reducible repeat (first | refine zr ?_ _ | refine zw ?_ | refine za ?_ _)); exact BK673.out) hb); have n2_ := kB HB hb; clear BK669; clear BK673; clear HB; have BK669 := n0_; have BK673 := n1_; have HB := n2_; clear n0_ n1_ n2_; (try clear hb); (try clear hb2); (try clear hk); (try clear hi)))
   go_meet
   case rel => exact ⟨_, (true), (by first | rfl | (simp; done) | (simp [*]; done)), H', ⟨by first | omega | exact Nat.le_refl _⟩, ⟨kx BK669⟩, ⟨kx BK673⟩, ⟨ky HB⟩⟩
  rw [if_neg c16] at H
  have c16b0 : decide (a1 < 0) = false := decide_eq_false c16; clear c16; have H' := Aside0.mk H; clear H; have hnb20 := NB669_673.out; have hnc20 := NB673_669.out; obtain ⟨hcz21_0, hcz21_1, hcz21_2, hcz21_3⟩ := kc4 BK669; obtain ⟨hfz21_0, hfz21_1, hfz21_2, hfz21_3⟩ := kf4 BK669
  go_wp2_with (first | ((with_reducible refine gate_callee (f := 15) rfl ?_); refine goesL_ (some 15) rfl rfl Try.func15 (by kernel_rfl) rfl #[.agg #[.int .i64 a0_2, .int .u64 a0_3]] rfl (by (try simp only [zm, zc, zn]); first | done | rfl | (simp only [zd, zt]; rfl)) ?_; (with_reducible refine (wide_Sign.calls a0_2 a0_3 t674 _ A11.out).mono ?_); rintro e w22 ⟨rfl, hb⟩; refine ⟨_, rfl, ?_⟩; have n0_ := kb BK669 hb; have n1_ := Aside0.mk (blk_below (g := gb673) (o := .cells #[.int .i64 t670, .int .u64 t671] 24 (0, 0)) (by (with_reducible repeat (first | refine zr ?_ _ | refine zw ?_ | refine za ?_ _)); refine blk_put (cs := #[.int .i64 t670, .int .u64 0]) ?_ 1 _ rfl; (with_reducible repeat (first | refine zr ?_ _ | refine zw ?_ | refine za ?_ _)); refine blk_put (cs := #[.int .i64 0, .int .u64 0]) ?_ 0 _ rfl; (with_reducible repeat (first | refine zr ?_ _ | refine zw ?_ | refine za ?_ _)); exact BK673.out) hb); have n2_ := kB HB hb; clear BK669; clear BK673; clear HB; have BK669 := n0_; have BK673 := n1_; have HB := n2_; clear n0_ n1_ n2_; (try clear hb); (try clear hb2); (try clear hk); (try clear hi)))
  go_meet
  case rel => exact ⟨_, (decide (a1 > 100)), (by first | rfl | (simp; done) | (simp [*]; done)), H', ⟨by first | omega | exact Nat.le_refl _⟩, ⟨kx BK669⟩, ⟨kx BK673⟩, ⟨ky HB⟩⟩
 case rest =>
  clear HC4; try clear c1; try clear c2; try clear p2; try clear c5; try clear c9; try clear c12; try clear c12b0; try clear c13; try clear c15; try clear c16; try clear c16b0; try clear c17; try clear c20; try clear hcz10_0; try clear hcz10_1; try clear hcz14_0; try clear hcz14_1; try clear hcz14_2; try clear hcz14_3; try clear hcz18_0; try clear hcz18_1; try clear hcz18_2; try clear hcz18_3; try clear hcz21_0; try clear hcz21_1; try clear hcz21_2; try clear hcz21_3; try clear hcz6_0; try clear hcz6_1; try clear hcz6_2; try clear hcz6_3; try clear hfz10_0; try clear hfz10_1; try clear hfz14_0; try clear hfz14_1; try clear hfz14_2; try clear hfz14_3; try clear hfz18_0; try clear hfz18_1; try clear hfz18_2; try clear hfz18_3; try clear hfz21_0; try clear hfz21_1; try clear hfz21_2; try clear hfz21_3; try clear hfz6_0; try clear hfz6_1; try clear hfz6_2; try clear hfz6_3
  obtain ⟨kq, x24_3, rfl, HA, HJ3, BK669, BK673, HB⟩ := hcut
  cases kq with
  | zero => exact absurd HA.out (by simp [cobweblaw02_FracSnaps.j0])
  | succ kj3 =>
   have H := HA.out; clear HA
   simp only [cobweblaw02_FracSnaps.j0] at H
   by_cases c23 : x24_3 = true
   ·subst c23
    have H1 : ((cobweblaw02_alive.f kj3).bind fun t675 => (if t675 = true then (if t672 = true then (none) else (some (t670 == 0 && (t671 == 0)))) else (none))) = some r := by rw [if_pos rfl] at H; exact H
    clear H; have H := H1; clear H1; replace H := Option.bind_eq_some_iff.mp H; obtain ⟨t675, A240, H⟩ := H; replace H : (if t675 = true then (if t672 = true then (none) else (some (t670 == 0 && (t671 == 0)))) else (none)) = some r := H; have A24 := Aside0.mk A240; clear A240
    by_cases c25 : t675 = true
    rotate_left
    ·replace c25 := Bool.eq_false_iff.mpr c25; subst c25
     have H1 : (none) = some r := by rw [if_neg (show ¬ (false = true) by decide)] at H; exact H
     clear H; have H := H1; clear H1; exact absurd H (by simp)
    subst c25
    have H1 : (if t672 = true then (none) else (some (t670 == 0 && (t671 == 0)))) = some r := by rw [if_pos rfl] at H; exact H
    clear H; have H := H1; clear H1
    by_cases c26 : t672 = true
    ·subst c26
     have H1 : (none) = some r := by rw [if_pos rfl] at H; exact H
     clear H; have H := H1; clear H1; exact absurd H (by simp)
    replace c26 := Bool.eq_false_iff.mpr c26; subst c26
    have H1 : (some (t670 == 0 && (t671 == 0))) = some r := by rw [if_neg (show ¬ (false = true) by decide)] at H; exact H
    clear H; have H := H1; clear H1; obtain rfl := Option.some.inj H
    go_wp2_with (first | ((with_reducible refine gate_callee (f := 16) rfl ?_); refine goesL_ (some 25) rfl rfl Try.func16 (by kernel_rfl) rfl #[] rfl (by (try simp only [zm, zc, zn]); first | done | rfl | (simp only [zd, zt]; rfl)) ?_; (with_reducible refine (cobweblaw02_alive.calls kj3  true _ A24.out).mono ?_); rintro e w27 ⟨rfl, hb⟩; refine ⟨_, rfl, ?_⟩; replace BK669 := kb BK669 hb; replace BK673 := kb BK673 hb; replace HB := kB HB hb; (try clear hb); (try clear hb2); (try clear hk); (try clear hi); have hnb28 := NB673_669.out; have hnc28 := NB669_673.out; have hcz29_0 : w27.cell? ⟨gb673, 0, none⟩ = some (.int .i64 t670) := kc BK673 0; have hcz29_1 : w27.cell? ⟨gb673, 1, none⟩ = some (.int .u64 t671) := kc BK673 1; have hfz29_0 := blk_frozen BK673.out 0; have hfz29_1 := blk_frozen BK673.out 1))
    go_ret
    exact ⟨by first | rfl | (simp [errW_none, errW_some] <;> rfl) | (simp [*, errW_none, errW_some] <;> rfl), ky HB⟩
   replace c23 := Bool.eq_false_iff.mpr c23; subst c23
   have H1 : ((cobweblaw02_alive.f kj3).bind fun t676 => (if t676 = true then (if t672 = true then ((cobweblaw02_num.f kj3 t670 t671).bind fun bt677 => ((cobweblaw02_Old.f kj3 a0_0 a0_1 a0_2 a0_3).bind fun bt681 => ((cobwebref02_Snap.f kj3 bt681.1 bt681.2.1 bt681.2.2.1 bt681.2.2.2 a1).bind fun bt689 => ((cobwebref01_Cmp.f kj3 bt677.1 bt677.2 bt689.1 bt689.2).bind fun t693 => (some (t693 == 0)))))) else (none)) else (none))) = some r := by rw [if_neg (show ¬ (false = true) by decide)] at H; exact H
   clear H; have H := H1; clear H1; replace H := Option.bind_eq_some_iff.mp H; obtain ⟨t676, A300, H⟩ := H; replace H : (if t676 = true then (if t672 = true then ((cobweblaw02_num.f kj3 t670 t671).bind fun bt677 => ((cobweblaw02_Old.f kj3 a0_0 a0_1 a0_2 a0_3).bind fun bt681 => ((cobwebref02_Snap.f kj3 bt681.1 bt681.2.1 bt681.2.2.1 bt681.2.2.2 a1).bind fun bt689 => ((cobwebref01_Cmp.f kj3 bt677.1 bt677.2 bt689.1 bt689.2).bind fun t693 => (some (t693 == 0)))))) else (none)) else (none)) = some r := H; have A30 := Aside0.mk A300; clear A300
   by_cases c31 : t676 = true
   rotate_left
   ·replace c31 := Bool.eq_false_iff.mpr c31; subst c31
    have H1 : (none) = some r := by rw [if_neg (show ¬ (false = true) by decide)] at H; exact H
    clear H; have H := H1; clear H1; exact absurd H (by simp)

   subst c31
   have H1 : (if t672 = true then ((cobweblaw02_num.f kj3 t670 t671).bind fun bt677 => ((cobweblaw02_Old.f kj3 a0_0 a0_1 a0_2 a0_3).bind fun bt681 => ((cobwebref02_Snap.f kj3 bt681.1 bt681.2.1 bt681.2.2.1 bt681.2.2.2 a1).bind fun bt689 => ((cobwebref01_Cmp.f kj3 bt677.1 bt677.2 bt689.1 bt689.2).bind fun t693 => (some (t693 == 0)))))) else (none)) = some r := by rw [if_pos rfl] at H; exact H
   clear H; have H := H1; clear H1
   by_cases c32 : t672 = true
   rotate_left
   ·replace c32 := Bool.eq_false_iff.mpr c32; subst c32
    have H1 : (none) = some r := by rw [if_neg (show ¬ (false = true) by decide)] at H; exact H
    clear H; have H := H1; clear H1; exact absurd H (by simp)
   subst c32
   have H1 : ((cobweblaw02_num.f kj3 t670 t671).bind fun bt677 => ((cobweblaw02_Old.f kj3 a0_0 a0_1 a0_2 a0_3).bind fun bt681 => ((cobwebref02_Snap.f kj3 bt681.1 bt681.2.1 bt681.2.2.1 bt681.2.2.2 a1).bind fun bt689 => ((cobwebref01_Cmp.f kj3 bt677.1 bt677.2 bt689.1 bt689.2).bind fun t693 => (some (t693 == 0)))))) = some r := by rw [if_pos rfl] at H; exact H
   clear H; have H := H1; clear H1; replace H := Option.bind_eq_some_iff.mp H; obtain ⟨⟨t677, t678⟩, A330, H⟩ := H; replace H : ((cobweblaw02_Old.f kj3 a0_0 a0_1 a0_2 a0_3).bind fun bt681 => ((cobwebref02_Snap.f kj3 bt681.1 bt681.2.1 bt681.2.2.1 bt681.2.2.2 a1).bind fun bt689 => ((cobwebref01_Cmp.f kj3 t677 t678 bt689.1 bt689.2).bind fun t693 => (some (t693 == 0))))) = some r := H; have A33 := Aside0.mk A330; clear A330; replace H := Option.bind_eq_some_iff.mp H; obtain ⟨⟨t681, t682, t685, t686⟩, A340, H⟩ := H; replace H : ((cobwebref02_Snap.f kj3 t681 t682 t685 t686 a1).bind fun bt689 => ((cobwebref01_Cmp.f kj3 t677 t678 bt689.1 bt689.2).bind fun t693 => (some (t693 == 0)))) = some r := H; have A34 := Aside0.mk A340; clear A340; replace H := Option.bind_eq_some_iff.mp H; obtain ⟨⟨t689, t690⟩, A350, H⟩ := H; replace H : ((cobwebref01_Cmp.f kj3 t677 t678 t689 t690).bind fun t693 => (some (t693 == 0))) = some r := H; have A35 := Aside0.mk A350; clear A350; replace H := Option.bind_eq_some_iff.mp H; obtain ⟨t693, A360, H⟩ := H; replace H : (some (t693 == 0)) = some r := H; have A36 := Aside0.mk A360; clear A360; obtain rfl := Option.some.inj H
   try go_wp2
   replace BK669 := Aside0.mk (blk_drew BK669.out); replace BK673 := Aside0.mk (blk_drew BK673.out); replace HB := Aside0.mk (below_drew1 HB.out); refine start_ (n := 15) (S := fun w' => w'.cell? ⟨gb673, 0, none⟩ = some (.int .i64 t670) ∧ w'.cell? ⟨gb673, 1, none⟩ = some (.int .u64 t671) ∧ w'.cell? ⟨gb669, 0, none⟩ = some (.int .i64 a0_0) ∧ w'.cell? ⟨gb669, 1, none⟩ = some (.int .u64 a0_1) ∧ w'.cell? ⟨gb669, 2, none⟩ = some (.int .i64 a0_2) ∧ w'.cell? ⟨gb669, 3, none⟩ = some (.int .u64 a0_3)) (ds := []) #[O, O, O, O, O, O, O, O, O, O, O, O, O, O, O] (by kernel_rfl) rfl rfl ⟨kc BK673 0, kc BK673 1, kc BK669 0, kc BK669 1, kc BK669 2, kc BK669 3⟩ (fun hHeld => ?_); refine with_tabW cobweblaw02_FracSnaps.tab4 cobweblaw02_FracSnaps.bits4 (fun HT_ HW_ => ?_)
   generalize wc.drew = w37 at BK669 BK673 HB hHeld ⊢
   refine one_ (i := 0) (N := some 35) #[T, O, O, O, O, O, O, O, O, O, O, O, O, O, O] rfl rfl (one_of HT_.out (by kernel_rfl)) (by decide) (fun K hK => ?_); refine goes_ Try.func16 (by kernel_rfl) rfl #[] (by rfl) rfl rfl (by (try simp only [zm, zc, zn]); first | done | rfl | (simp only [zd, zt]; rfl)) ?_
   with_reducible refine (cobweblaw02_alive.calls kj3  true _ A30.out).mono ?_
   rintro e w38 ⟨rfl, hb⟩; refine ⟨_, rfl, ?_⟩; replace BK669 := kb BK669 hb; replace BK673 := kb BK673 hb; replace HB := kB HB hb
   (try clear hb); (try clear hb2); (try clear hk); (try clear hi)
   refine hK.out _ _ ⟨kc BK673 0, kc BK673 1, kc BK669 0, kc BK669 1, kc BK669 2, kc BK669 3⟩ (fun hHeld => ?_); clear hK K
   refine norm_ (a' := ?_) ?_ ?_; rotate_left; focus (show Act.put _ (some 35) _ = _; simp only [Act.put, s1, s2, s3, i64_w, i32_w]; rfl)
   refine pure_ (i := 1) (N := some 36) (v := ?_) (a' := ?_) #[T, T, O, O, O, O, O, O, O, O, O, O, O, O, O] rfl rfl (any_of HT_.out (by kernel_rfl)) (fun _ _ _ h => h) (Or.inl ⟨by rfl, ?_⟩) ?_ ?_; rotate_left; focus (intro w'; go_simp; with_reducible rfl)
   rotate_left; focus (simp only [Act.put, s1, s2, s3, i64_w, i32_w]; rfl)
   refine pure_ (i := 2) (N := some 37) (v := ?_) (a' := ?_) #[T, T, T, O, O, O, O, O, O, O, O, O, O, O, O] rfl rfl (any_of HT_.out (by kernel_rfl)) (fun _ _ _ h => h) (Or.inl ⟨by rfl, ?_⟩) ?_ ?_; rotate_left; focus (intro w'; go_simp; with_reducible rfl)
   rotate_left; focus (simp only [Act.put, s1, s2, s3, i64_w, i32_w]; rfl)
   refine pure_ (i := 3) (N := some 38) (v := ?_) (a' := ?_) #[T, T, T, T, O, O, O, O, O, O, O, O, O, O, O] rfl rfl (any_of HT_.out (by kernel_rfl)) (fun _ _ _ h => h) (Or.inl ⟨by rfl, ?_⟩) ?_ ?_; rotate_left; focus (intro w'; go_simp; with_reducible rfl)
   rotate_left; focus (simp only [Act.put, s1, s2, s3, i64_w, i32_w]; rfl)
   refine pure_ (i := 4) (N := some 39) (v := ?_) (a' := ?_) #[T, T, T, T, T, O, O, O, O, O, O, O, O, O, O] rfl rfl (any_of HT_.out (by kernel_rfl)) (fun _ _ _ h => h) (Or.inl ⟨by rfl, ?_⟩) ?_ ?_; rotate_left; focus (intro w'; go_simp; with_reducible rfl)
   rotate_left; focus (simp only [Act.put, s1, s2, s3, i64_w, i32_w]; rfl)
   refine pure_ (i := 9) (N := some 44) (v := ?_) (a' := ?_) #[T, T, T, T, T, O, O, O, O, T, O, O, O, O, O] rfl rfl (any_of HT_.out (by kernel_rfl)) (fun _ _ _ h => h) (Or.inl ⟨by rfl, ?_⟩) ?_ ?_; rotate_left; focus (intro w'; go_simp; with_reducible rfl)
   rotate_left; focus (simp only [Act.put, s1, s2, s3, i64_w, i32_w]; rfl)
   refine take_ (i := 5) (N := some 40) (v := ?_) (a' := ?_) #[T, T, T, T, T, T, O, O, O, T, O, O, O, O, O] rfl rfl (take_ofW HT_.out HW_.out (by kernel_rfl)) (fun _ _ _ h => h) (Or.inl ⟨by rfl, ?_⟩) hHeld ?_ ?_; rotate_left; focus (rintro w' ⟨s0, s1, s2, s3, s4, s5⟩; go_simp; with_reducible rfl)
   rotate_left; focus (simp only [Act.put, s1, s2, s3, i64_w, i32_w]; rfl)
   refine take_ (i := 7) (N := some 42) (v := ?_) (a' := ?_) #[T, T, T, T, T, T, O, T, O, T, O, O, O, O, O] rfl rfl (take_ofW HT_.out HW_.out (by kernel_rfl)) (fun _ _ _ h => h) (Or.inl ⟨by rfl, ?_⟩) hHeld ?_ ?_; rotate_left; focus (rintro w' ⟨s0, s1, s2, s3, s4, s5⟩; go_simp; with_reducible rfl)
   rotate_left; focus (simp only [Act.put, s1, s2, s3, i64_w, i32_w]; rfl)
   refine one_ (i := 6) (N := some 41) #[T, T, T, T, T, T, T, T, O, T, O, O, O, O, O] rfl rfl (one_of HT_.out (by kernel_rfl)) (by decide) (fun K hK => ?_); refine goes_ Try.func22 (by kernel_rfl) rfl #[.agg #[.int .i64 t670, .int .u64 t671]] (by rfl) rfl rfl (by (try simp only [zm, zc, zn]); first | done | rfl | (simp only [zd, zt]; rfl)) ?_
   with_reducible refine (cobweblaw02_num.calls kj3 t670 t671 t677 t678 _ A33.out).mono ?_
   rintro e w39 ⟨v679, rfl, ho0, hb⟩; refine ⟨_, rfl, ?_⟩; have HO680 := Aside0.mk (Kd.V_lower (Kd.V_mono (ok' := fun k_ => k_ ≠ gb669 ∧ k_ ≠ gb673) ho0 (fun k_ hk_ => ⟨(kF BK669 k_ hk_), (kF BK673 k_ hk_)⟩)) (ko HB)); replace BK669 := kb BK669 hb; replace BK673 := kb BK673 hb; replace HB := kB HB hb
   (try clear hb); (try clear hb2); (try clear hk); (try clear hi); (try clear ho0)
   refine hK.out _ _ ⟨kc BK673 0, kc BK673 1, kc BK669 0, kc BK669 1, kc BK669 2, kc BK669 3⟩ (fun hHeld => ?_); clear hK K
   refine norm_ (a' := ?_) ?_ ?_; rotate_left; focus (show Act.put _ (some 41) _ = _; simp only [Act.put, s1, s2, s3, i64_w, i32_w]; rfl)
   refine one_ (i := 8) (N := some 43) #[T, T, T, T, T, T, T, T, T, T, O, O, O, O, O] rfl rfl (one_of HT_.out (by kernel_rfl)) (by decide) (fun K hK => ?_); refine goes_ Try.func18 (by kernel_rfl) rfl #[.agg #[.int .i64 a0_0, .int .u64 a0_1, .int .i64 a0_2, .int .u64 a0_3]] (by rfl) rfl rfl (by (try simp only [zm, zc, zn]); first | done | rfl | (simp only [zd, zt]; rfl)) ?_
   with_reducible refine (cobweblaw02_Old.calls kj3 a0_0 a0_1 a0_2 a0_3 t681 t682 t685 t686 _ A34.out).mono ?_
   rintro e w40 ⟨v683, v687, rfl, ho0, ho1, hb⟩; refine ⟨_, rfl, ?_⟩; have HO684 := Aside0.mk (Kd.V_lower (Kd.V_mono (ok' := fun k_ => k_ ≠ gb669 ∧ k_ ≠ gb673) ho0 (fun k_ hk_ => ⟨(kF BK669 k_ hk_), (kF BK673 k_ hk_)⟩)) (ko HB)); have HO688 := Aside0.mk (Kd.V_lower (Kd.V_mono (ok' := fun k_ => k_ ≠ gb669 ∧ k_ ≠ gb673) ho1 (fun k_ hk_ => ⟨(kF BK669 k_ hk_), (kF BK673 k_ hk_)⟩)) (ko HB)); replace HO680 := kV HO680 hb; replace BK669 := kb BK669 hb; replace BK673 := kb BK673 hb; replace HB := kB HB hb
   (try clear hb); (try clear hb2); (try clear hk); (try clear hi); (try clear ho0); (try clear ho1)
   obtain ⟨Ao41, co41, eo41⟩ := Kd.V_slice HO684.out
   (first | subst eo41 | (injection eo41 with f1_ f2_ f3_; have f4_ := f1_.symm; have f5_ := f3_.symm; clear f1_ f2_ f3_; subst f4_; subst f5_))
   obtain ⟨Ao42, co42, eo42⟩ := Kd.V_slice HO688.out
   (first | subst eo42 | (injection eo42 with f1_ f2_ f3_; have f4_ := f1_.symm; have f5_ := f3_.symm; clear f1_ f2_ f3_; subst f4_; subst f5_))
   refine hK.out _ _ ⟨kc BK673 0, kc BK673 1, kc BK669 0, kc BK669 1, kc BK669 2, kc BK669 3⟩ (fun hHeld => ?_); clear hK K
   refine norm_ (a' := ?_) ?_ ?_; rotate_left; focus (show Act.put _ (some 43) _ = _; simp only [Act.put, s1, s2, s3, i64_w, i32_w]; rfl)
   refine one_ (i := 10) (N := some 45) #[T, T, T, T, T, T, T, T, T, T, T, O, O, O, O] rfl rfl (one_of HT_.out (by kernel_rfl)) (by decide) (fun K hK => ?_); refine goes_ Try.func27 (by kernel_rfl) rfl #[.agg #[.bool t681, .slice Ao41 t682.length co41, .bool t685, .slice Ao42 t686.length co42], .int .i64 a1] (by rfl) rfl rfl (by (try simp only [zm, zc, zn]); first | done | rfl | (simp only [zd, zt]; rfl)) ?_
   with_reducible refine (cobwebref02_Snap.calls kj3 t681 _ _ t682 t685 _ _ t686 a1 t689 t690 _ ?side1 ?side2 ?side3 ?side4 A35.out).mono ?_
   (case side1 => repeat (first | exact (Kd.V_reads' HO684.out).2.2 | (with_reducible refine Kd.C_alloc ?_ _) | (with_reducible refine Kd.C_drewN ?_ _) | (with_reducible refine Kd.C_drew ?_)))
   (case side2 => exact (Kd.V_reads' HO684.out).2.1)
   (case side3 => repeat (first | exact (Kd.V_reads' HO688.out).2.2 | (with_reducible refine Kd.C_alloc ?_ _) | (with_reducible refine Kd.C_drewN ?_ _) | (with_reducible refine Kd.C_drew ?_)))
   (case side4 => exact (Kd.V_reads' HO688.out).2.1)
   rintro e w43 ⟨v691, rfl, ho0, hb⟩; refine ⟨_, rfl, ?_⟩; have HO692 := Aside0.mk (Kd.V_lower (Kd.V_mono (ok' := fun k_ => k_ ≠ gb669 ∧ k_ ≠ gb673) ho0 (fun k_ hk_ => ⟨(kF BK669 k_ hk_), (kF BK673 k_ hk_)⟩)) (ko HB)); replace HO680 := kV HO680 hb; replace HO684 := kV HO684 hb; replace HO688 := kV HO688 hb; replace BK669 := kb BK669 hb; replace BK673 := kb BK673 hb; replace HB := kB HB hb
   (try clear hb); (try clear hb2); (try clear hk); (try clear hi); (try clear ho0)
   obtain ⟨Ao44, co44, eo44⟩ := Kd.V_slice HO680.out
   (first | subst eo44 | (injection eo44 with f1_ f2_ f3_; have f4_ := f1_.symm; have f5_ := f3_.symm; clear f1_ f2_ f3_; subst f4_; subst f5_))
   obtain ⟨Ao45, co45, eo45⟩ := Kd.V_slice HO692.out
   (first | subst eo45 | (injection eo45 with f1_ f2_ f3_; have f4_ := f1_.symm; have f5_ := f3_.symm; clear f1_ f2_ f3_; subst f4_; subst f5_))
   refine hK.out _ _ ⟨kc BK673 0, kc BK673 1, kc BK669 0, kc BK669 1, kc BK669 2, kc BK669 3⟩ (fun hHeld => ?_); clear hK K
   refine norm_ (a' := ?_) ?_ ?_; rotate_left; focus (show Act.put _ (some 45) _ = _; simp only [Act.put, s1, s2, s3, i64_w, i32_w]; rfl)
   refine one_ (i := 11) (N := some 46) #[T, T, T, T, T, T, T, T, T, T, T, T, O, O, O] rfl rfl (one_of HT_.out (by kernel_rfl)) (by decide) (fun K hK => ?_); refine goes_ Try.func21 (by kernel_rfl) rfl #[.agg #[.bool t677, .slice Ao44 t678.length co44], .agg #[.bool t689, .slice Ao45 t690.length co45]] (by rfl) rfl rfl (by (try simp only [zm, zc, zn]); first | done | rfl | (simp only [zd, zt]; rfl)) ?_
   with_reducible refine (cobwebref01_Cmp.calls kj3 t677 _ _ t678 t689 _ _ t690 t693 _ ?side1 ?side2 ?side3 ?side4 A36.out).mono ?_
   (case side1 => repeat (first | exact (Kd.V_reads' HO680.out).2.2 | (with_reducible refine Kd.C_alloc ?_ _) | (with_reducible refine Kd.C_drewN ?_ _) | (with_reducible refine Kd.C_drew ?_)))
   (case side2 => exact (Kd.V_reads' HO680.out).2.1)
   (case side3 => repeat (first | exact (Kd.V_reads' HO692.out).2.2 | (with_reducible refine Kd.C_alloc ?_ _) | (with_reducible refine Kd.C_drewN ?_ _) | (with_reducible refine Kd.C_drew ?_)))
   (case side4 => exact (Kd.V_reads' HO692.out).2.1)
   rintro e w46 ⟨rfl, hb⟩; refine ⟨_, rfl, ?_⟩; replace HO680 := kV HO680 hb; replace HO684 := kV HO684 hb; replace HO688 := kV HO688 hb; replace HO692 := kV HO692 hb; replace BK669 := kb BK669 hb; replace BK673 := kb BK673 hb; replace HB := kB HB hb
   (try clear hb); (try clear hb2); (try clear hk); (try clear hi)
   refine hK.out _ _ ⟨kc BK673 0, kc BK673 1, kc BK669 0, kc BK669 1, kc BK669 2, kc BK669 3⟩ (fun hHeld => ?_); clear hK K
   refine norm_ (a' := ?_) ?_ ?_; rotate_left; focus (show Act.put _ (some 46) _ = _; simp only [Act.put, s1, s2, s3, i64_w, i32_w]; rfl)
   refine pure_ (i := 12) (N := some 47) (v := ?_) (a' := ?_) #[T, T, T, T, T, T, T, T, T, T, T, T, T, O, O] rfl rfl (any_of HT_.out (by kernel_rfl)) (fun _ _ _ h => h) (Or.inl ⟨by rfl, ?_⟩) ?_ ?_; rotate_left; focus (intro w'; go_simp; with_reducible rfl)
   rotate_left; focus (simp only [Act.put, s1, s2, s3, i64_w, i32_w]; rfl)
   refine pure_ (i := 13) (N := some 48) (v := ?_) (a' := ?_) #[T, T, T, T, T, T, T, T, T, T, T, T, T, T, O] rfl rfl (any_of HT_.out (by kernel_rfl)) (fun _ _ _ h => h) (Or.inl ⟨by rfl, ?_⟩) ?_ ?_; rotate_left; focus (intro w'; go_simp; with_reducible rfl)
   rotate_left; focus (simp only [Act.put, s1, s2, s3, i64_w, i32_w]; rfl)
   refine pure_ (i := 14) (N := some 4) (v := ?_) (a' := ?_) #[T, T, T, T, T, T, T, T, T, T, T, T, T, T, T] rfl rfl (any_of HT_.out (by kernel_rfl)) (fun _ _ _ h => h) (Or.inl ⟨by rfl, ?_⟩) ?_ ?_; rotate_left; focus (intro w'; go_simp; with_reducible rfl)
   rotate_left; focus (simp only [Act.put, s1, s2, s3, i64_w, i32_w]; rfl)
   refine done_ (done_of HT_.out (by kernel_rfl)) ?_
   try go_wp2
   go_ret
   exact ⟨by first | rfl | (simp [errW_none, errW_some] <;> rfl) | (simp [*, errW_none, errW_some] <;> rfl), ky HB⟩
end Go.Proofs.Ytpjbniihdndlmab.Q
