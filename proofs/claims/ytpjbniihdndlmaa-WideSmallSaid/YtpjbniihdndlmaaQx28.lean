-- Printed by wip/pp.sh (a session's own turning of the kit's print) for this seat.
import Derived.Test.YtpjbniihdndlmaaQx0
import Derived.Test.YtpjbniihdndlmaaQx7
import Derived.Test.YtpjbniihdndlmaaQx12
import Derived.Test.YtpjbniihdndlmaaQx13
import Derived.Test.YtpjbniihdndlmaaQx16
import Derived.Test.YtpjbniihdndlmaaQx19
import Derived.Test.YtpjbniihdndlmaaQx20
namespace Go.Proofs.Ytpjbniihdndlmaa.Q
open Go.RowKit Go.Proofs.YtpjbniihdndlmaaW.PrintWords Go.Proofs.YtpjbniihdndlmaaW.PrintLast Go.Proofs.YtpjbniihdndlmaaW.PrintMore
open Go.Proofs.Ytpjbniihdndlmaa.H
attribute [local go_sem] hq_add64 hq_sub64 hq_not64 add64c_nn sub64c_nn sub64c_le
attribute [local go_sem] max2_int min2_int max_two min_two max_three min_three max_four min_four   -- for this text's walks alone
set_option linter.unusedVariables false
set_option linter.unusedSimpArgs false

/-! ### cobweblaw01_WideSmall: function 7 -/
def cobweblaw01_WideSmall.j0 : Nat → Int → Int → Bool → Bool → Int → Int → Option (Bool)
  | 0, _, _, _, _, _, _ => none
  | k + 1, x1, x5, x6, x9, x632000, x632001 => (wide_Of.f x1).bind fun bt658 => ((wide_Small.f bt658.1 bt658.2).bind fun bt660 => ((cobweblaw01_alive.f k).bind fun t662 => (if t662 = true then (if (x6 == x9) = true then (if x9 = true then ((cobwebref01_Of.f k x5).bind fun bt663 => ((cobweblaw01_num.f k x632000 x632001).bind fun bt667 => ((cobwebref01_Cmp.f k bt663.1 bt663.2 bt667.1 bt667.2).bind fun t671 => (if t671 = 0 then (if bt660.2 = true then (if bt660.1 = x1 then ((wide_Of.f x1).bind fun bt672 => ((cobweblaw01_num.f k bt672.1 bt672.2).bind fun bt674 => ((cobwebref01_Of.f k x1).bind fun bt678 => ((cobwebref01_Cmp.f k bt674.1 bt674.2 bt678.1 bt678.2).bind fun t682 => (some (t682 == 0)))))) else (none)) else (none)) else (none))))) else (if x5 = 0 then (if bt660.2 = true then (if bt660.1 = x1 then ((wide_Of.f x1).bind fun bt683 => ((cobweblaw01_num.f k bt683.1 bt683.2).bind fun bt685 => ((cobwebref01_Of.f k x1).bind fun bt689 => ((cobwebref01_Cmp.f k bt685.1 bt685.2 bt689.1 bt689.2).bind fun t693 => (some (t693 == 0)))))) else (none)) else (none)) else (none))) else (none)) else (none))))
def cobweblaw01_WideSmall.f (k : Nat) (a0_0 : Int) (a0_1 : Int) (a1 : Int) : Option (Bool) := (wide_Small.f a0_0 a0_1).bind fun bt632 => ((cobwebref01_Power.f k 63).bind fun bt634 => ((cobwebref01_Neg.f k bt634.1 bt634.2).bind fun bt638 => ((cobwebref01_Power.f k 63).bind fun bt642 => ((cobweblaw01_num.f k a0_0 a0_1).bind fun bt648 => ((cobwebref01_Cmp.f k bt648.1 bt648.2 bt638.1 bt638.2).bind fun t652 => (if t652 ≥ 0 then ((cobweblaw01_num.f k a0_0 a0_1).bind fun bt653 => ((cobwebref01_Cmp.f k bt653.1 bt653.2 bt642.1 bt642.2).bind fun t657 => (cobweblaw01_WideSmall.j0 k a1 bt632.1 bt632.2 (decide (t657 < 0)) a0_0 a0_1))) else (cobweblaw01_WideSmall.j0 k a1 bt632.1 bt632.2 false a0_0 a0_1)))))))
theorem cobweblaw01_WideSmall.mono_l : ∀ k, (∀ y0 y1 y2 y3 y4 y5, LeO (cobweblaw01_WideSmall.j0 k y0 y1 y2 y3 y4 y5) (cobweblaw01_WideSmall.j0 (k + 1) y0 y1 y2 y3 y4 y5))
  | 0 => fun _ _ _ _ _ _ r h => by simp [cobweblaw01_WideSmall.j0] at h
  | k + 1 => by
    have ih0 := cobweblaw01_WideSmall.mono_l k
    · intro y0 y1 y2 y3 y4 y5
      unfold cobweblaw01_WideSmall.j0
      repeat' first
      | (with_reducible exact ih0 _ _ _ _ _ _)
      | (with_reducible exact cobweblaw01_alive.mono _)
      | (with_reducible exact cobweblaw01_num.mono _ _ _)
      | (with_reducible exact cobwebref01_Cmp.mono _ _ _ _ _)
      | (with_reducible exact cobwebref01_Neg.mono _ _ _)
      | (with_reducible exact cobwebref01_Of.mono _ _)
      | (with_reducible exact cobwebref01_Power.mono _ _)
      | (with_reducible exact LeO.refl _)
      | (with_reducible exact LeO.none _)
      | (with_reducible refine LeO.ite ?_ ?_)
      | (with_reducible refine LeO.bind ?_ (fun _ => ?_))
      | exact ih0 _ _ _ _ _ _
      | exact cobweblaw01_alive.mono _
      | exact cobweblaw01_num.mono _ _ _
      | exact cobwebref01_Cmp.mono _ _ _ _ _
      | exact cobwebref01_Neg.mono _ _ _
      | exact cobwebref01_Of.mono _ _
      | exact cobwebref01_Power.mono _ _
      | exact LeO.none _
      | refine LeO.ite ?_ ?_
      | refine LeO.bind ?_ (fun _ => ?_)
theorem cobweblaw01_WideSmall.mono : ∀ a0 a1 a2 k, LeO (cobweblaw01_WideSmall.f k a0 a1 a2) (cobweblaw01_WideSmall.f (k + 1) a0 a1 a2) := by
  intro a0 a1 a2 k
  have ih0 := cobweblaw01_WideSmall.mono_l k
  unfold cobweblaw01_WideSmall.f
  repeat' first
      | (with_reducible exact ih0 _ _ _ _ _ _)
      | (with_reducible exact cobweblaw01_alive.mono _)
      | (with_reducible exact cobweblaw01_num.mono _ _ _)
      | (with_reducible exact cobwebref01_Cmp.mono _ _ _ _ _)
      | (with_reducible exact cobwebref01_Neg.mono _ _ _)
      | (with_reducible exact cobwebref01_Of.mono _ _)
      | (with_reducible exact cobwebref01_Power.mono _ _)
      | (with_reducible exact LeO.refl _)
      | (with_reducible exact LeO.none _)
      | (with_reducible refine LeO.ite ?_ ?_)
      | (with_reducible refine LeO.bind ?_ (fun _ => ?_))
      | exact ih0 _ _ _ _ _ _
      | exact cobweblaw01_alive.mono _
      | exact cobweblaw01_num.mono _ _ _
      | exact cobwebref01_Cmp.mono _ _ _ _ _
      | exact cobwebref01_Neg.mono _ _ _
      | exact cobwebref01_Of.mono _ _
      | exact cobwebref01_Power.mono _ _
      | exact LeO.none _
      | refine LeO.ite ?_ ?_
      | refine LeO.bind ?_ (fun _ => ?_)
def cobweblaw01_WideSmall.T3 : Bool × List (List Nat × List Nat) := (true, [([], []), ([0], [0]), ([], []), ([1, 2, 1], [1, 2]), ([3], [3]), ([4, 3], [4]), ([5], [5]), ([6, 5, 5], [5, 6]), ([5], [5]), ([7, 8, 7, 5], [5, 7, 8]), ([9, 5], [5, 9]), ([5, 10], [5, 10]), ([11, 9, 0, 1, 2, 3, 4, 5, 6, 7, 8, 9, 10, 11], [11])])
def cobweblaw01_WideSmall.B3 : List Nat := [0, 1, 0, 7, 15, 31, 63, 127, 63, 511, 1023, 2047, 4095]
theorem cobweblaw01_WideSmall.tab3 : rtab .any (opsOf Try.f7 3) = cobweblaw01_WideSmall.T3 := by kernel_rfl
theorem cobweblaw01_WideSmall.bits3 : waitsOk cobweblaw01_WideSmall.T3.2 cobweblaw01_WideSmall.B3 = true := by kernel_rfl
def cobweblaw01_WideSmall.T5 : Bool × List (List Nat × List Nat) := (true, [([], []), ([0, 0], [0]), ([1], [1]), ([1], [1]), ([2, 3, 1], [1, 2, 3]), ([1, 4], [1, 4]), ([5, 1], [5]), ([6], [6]), ([7, 6], [6, 7]), ([8, 6, 6], [6, 8]), ([9], [9]), ([10, 9], [9, 10]), ([9, 11, 6], [6, 9, 11]), ([12, 9, 6], [6, 12]), ([13], [13]), ([14, 13, 13], [13, 14]), ([15], [15]), ([16, 15, 15], [15, 16]), ([15], [15]), ([18, 17, 15], [15, 18]), ([17, 19, 19, 15], [15, 17, 19]), ([20, 15], [15, 20]), ([15, 21, 13], [13, 15, 21]), ([13, 22, 6], [6, 13, 22]), ([6, 23], [6, 23]), ([24, 20], [24]), ([25], [25]), ([25, 26], [25, 26]), ([27, 25], [27]), ([28], [28]), ([28], [28]), ([29, 30, 28], [28, 29, 30]), ([28, 31], [28, 31]), ([32, 28], [32]), ([33], [33]), ([34, 33, 33], [33, 34]), ([35, 35, 33], [33, 35]), ([33], [33]), ([37, 36, 33], [33, 37]), ([36, 38, 38, 33], [33, 36, 38]), ([39, 33], [33, 39]), ([33, 40], [33, 40]), ([41, 39, 0, 1, 2, 3, 4, 5, 6, 7, 8, 9, 10, 11, 12, 13, 14, 15, 16, 17, 18, 19, 20, 21, 22, 23, 24, 25, 26, 27, 28, 29, 30, 31, 32, 33, 34, 35, 36, 37, 38, 39, 40, 41], [41])])
def cobweblaw01_WideSmall.B5 : List Nat := [0, 1, 3, 3, 15, 31, 63, 127, 255, 511, 1023, 2047, 4095, 8191, 16383, 32767, 65535, 131071, 65535, 524287, 1048575, 2097151, 4194303, 8388607, 16777215, 33554431, 67108863, 134217727, 268435455, 536870911, 536870911, 2147483647, 4294967295, 8589934591, 17179869183, 34359738367, 68719476735, 17179869183, 274877906943, 549755813887, 1099511627775, 2199023255551, 4398046511103]
theorem cobweblaw01_WideSmall.tab5 : rtab .any (opsOf Try.f7 5) = cobweblaw01_WideSmall.T5 := by kernel_rfl
theorem cobweblaw01_WideSmall.bits5 : waitsOk cobweblaw01_WideSmall.T5.2 cobweblaw01_WideSmall.B5 = true := by kernel_rfl
set_option maxHeartbeats 8000000 in
set_option maxRecDepth 100000 in
theorem cobweblaw01_WideSmall.calls (k : Nat) (a0_0 : Int) (a0_1 : Int) (a1 : Int) (r : Bool) (w : World) (h : cobweblaw01_WideSmall.f k a0_0 a0_1 a1 = some r) :
    Calls Try.prog 7 #[.agg #[.int .i64 a0_0, .int .u64 a0_1], .int .i64 a1] w fun e w' => e = .returned (.bool r) ∧ Below w.heap.size w w' := by
  have hu24 := Try.underlying24
  have hu32 := Try.underlying32
  have HB := Aside0.mk (Below.refl w.heap.size w)
  have H : ((wide_Small.f a0_0 a0_1).bind fun bt632 => ((cobwebref01_Power.f k 63).bind fun bt634 => ((cobwebref01_Neg.f k bt634.1 bt634.2).bind fun bt638 => ((cobwebref01_Power.f k 63).bind fun bt642 => ((cobweblaw01_num.f k a0_0 a0_1).bind fun bt648 => ((cobwebref01_Cmp.f k bt648.1 bt648.2 bt638.1 bt638.2).bind fun t652 => (if t652 ≥ 0 then ((cobweblaw01_num.f k a0_0 a0_1).bind fun bt653 => ((cobwebref01_Cmp.f k bt653.1 bt653.2 bt642.1 bt642.2).bind fun t657 => (cobweblaw01_WideSmall.j0 k a1 bt632.1 bt632.2 (decide (t657 < 0)) a0_0 a0_1))) else (cobweblaw01_WideSmall.j0 k a1 bt632.1 bt632.2 false a0_0 a0_1)))))))) = some r := h
  clear h
  replace H := Option.bind_eq_some_iff.mp H
  obtain ⟨⟨t632, t633⟩, A30, H⟩ := H
  replace H : ((cobwebref01_Power.f k 63).bind fun bt634 => ((cobwebref01_Neg.f k bt634.1 bt634.2).bind fun bt638 => ((cobwebref01_Power.f k 63).bind fun bt642 => ((cobweblaw01_num.f k a0_0 a0_1).bind fun bt648 => ((cobwebref01_Cmp.f k bt648.1 bt648.2 bt638.1 bt638.2).bind fun t652 => (if t652 ≥ 0 then ((cobweblaw01_num.f k a0_0 a0_1).bind fun bt653 => ((cobwebref01_Cmp.f k bt653.1 bt653.2 bt642.1 bt642.2).bind fun t657 => (cobweblaw01_WideSmall.j0 k a1 t632 t633 (decide (t657 < 0)) a0_0 a0_1))) else (cobweblaw01_WideSmall.j0 k a1 t632 t633 false a0_0 a0_1))))))) = some r := H
  have A3 := Aside0.mk A30
  clear A30
  replace H := Option.bind_eq_some_iff.mp H
  obtain ⟨⟨t634, t635⟩, A40, H⟩ := H
  replace H : ((cobwebref01_Neg.f k t634 t635).bind fun bt638 => ((cobwebref01_Power.f k 63).bind fun bt642 => ((cobweblaw01_num.f k a0_0 a0_1).bind fun bt648 => ((cobwebref01_Cmp.f k bt648.1 bt648.2 bt638.1 bt638.2).bind fun t652 => (if t652 ≥ 0 then ((cobweblaw01_num.f k a0_0 a0_1).bind fun bt653 => ((cobwebref01_Cmp.f k bt653.1 bt653.2 bt642.1 bt642.2).bind fun t657 => (cobweblaw01_WideSmall.j0 k a1 t632 t633 (decide (t657 < 0)) a0_0 a0_1))) else (cobweblaw01_WideSmall.j0 k a1 t632 t633 false a0_0 a0_1)))))) = some r := H
  have A4 := Aside0.mk A40
  clear A40
  replace H := Option.bind_eq_some_iff.mp H
  obtain ⟨⟨t638, t639⟩, A50, H⟩ := H
  replace H : ((cobwebref01_Power.f k 63).bind fun bt642 => ((cobweblaw01_num.f k a0_0 a0_1).bind fun bt648 => ((cobwebref01_Cmp.f k bt648.1 bt648.2 t638 t639).bind fun t652 => (if t652 ≥ 0 then ((cobweblaw01_num.f k a0_0 a0_1).bind fun bt653 => ((cobwebref01_Cmp.f k bt653.1 bt653.2 bt642.1 bt642.2).bind fun t657 => (cobweblaw01_WideSmall.j0 k a1 t632 t633 (decide (t657 < 0)) a0_0 a0_1))) else (cobweblaw01_WideSmall.j0 k a1 t632 t633 false a0_0 a0_1))))) = some r := H
  have A5 := Aside0.mk A50
  clear A50
  replace H := Option.bind_eq_some_iff.mp H
  obtain ⟨⟨t642, t643⟩, A60, H⟩ := H
  replace H : ((cobweblaw01_num.f k a0_0 a0_1).bind fun bt648 => ((cobwebref01_Cmp.f k bt648.1 bt648.2 t638 t639).bind fun t652 => (if t652 ≥ 0 then ((cobweblaw01_num.f k a0_0 a0_1).bind fun bt653 => ((cobwebref01_Cmp.f k bt653.1 bt653.2 t642 t643).bind fun t657 => (cobweblaw01_WideSmall.j0 k a1 t632 t633 (decide (t657 < 0)) a0_0 a0_1))) else (cobweblaw01_WideSmall.j0 k a1 t632 t633 false a0_0 a0_1)))) = some r := H
  have A6 := Aside0.mk A60
  clear A60
  have HC7 := Aside0.mk H
  clear H
  go_enter Try.func7, Try.ntmps7
  go_upto_region 3 with (first | ((with_reducible refine gate_dst (N := 2) rfl ?_); refine box_event ?hg (N := 2) ?hd (cs := #[.int .i64 a0_0, .int .u64 a0_1]) (t := 24) ?hr ?_; (case hd => rfl); (case hg => rfl); (case hr => first | (go_simp; done) | (go_simp; rfl)); intro gb631 hg w8 hbox hb; have BK631 := Aside0.mk (hbox); have GW631 := kS HB hg; have GE631 := kS HB hg; replace HB := kB HB hb; clear hb hbox hg; have hcz9_0 : w8.cell? ⟨gb631, 0, none⟩ = some (.int .i64 a0_0) := kc BK631 0; have hcz9_1 : w8.cell? ⟨gb631, 1, none⟩ = some (.int .u64 a0_1) := kc BK631 1; have hfz9_0 := blk_frozen BK631.out 0; have hfz9_1 := blk_frozen BK631.out 1) | ((with_reducible refine gate_callee (f := 30) rfl ?_); refine goesL_ (some 14) rfl rfl Try.func30 (by kernel_rfl) rfl #[.agg #[.int .i64 a0_0, .int .u64 a0_1]] rfl (by (try simp only [List.map_toArray, List.map_cons, List.map_nil]); first | done | rfl | (simp only [List.length_drop, List.length_take]; rfl)) ?_; (with_reducible refine (wide_Small.calls a0_0 a0_1 t632 t633 _ A3.out).mono ?_); rintro e w10 ⟨rfl, hb⟩; refine ⟨_, rfl, ?_⟩; replace BK631 := kb BK631 hb; replace HB := kB HB hb; (try clear hb); (try clear hb2); (try clear hk); (try clear hi)) | ((with_reducible refine gate_callee (f := 23) rfl ?_); refine goesL_ (some 17) rfl rfl Try.func23 (by kernel_rfl) rfl #[.int .i64 63] rfl (by (try simp only [List.map_toArray, List.map_cons, List.map_nil]); first | done | rfl | (simp only [List.length_drop, List.length_take]; rfl)) ?_; (with_reducible refine (cobwebref01_Power.calls k 63 t634 t635 _ A4.out).mono ?_); rintro e w11 ⟨v636, rfl, ho0, hb⟩; refine ⟨_, rfl, ?_⟩; have HO637 := Aside0.mk (Kd.V_lower (Kd.V_mono (ok' := fun k_ => k_ ≠ gb631) ho0 (fun k_ hk_ => (Kd.freshB (g := gb631) (o := .cells #[.int .i64 a0_0, .int .u64 a0_1] 24 (0, 0)) (kx BK631) k_ hk_))) (below_size (ky HB))); replace BK631 := kb BK631 hb; replace HB := kB HB hb; (try clear hb); (try clear hb2); (try clear hk); (try clear hi); (try clear ho0); obtain ⟨Ao12, co12, eo12⟩ := Kd.V_slice HO637.out; subst eo12) | ((with_reducible refine gate_callee (f := 31) rfl ?_); refine goesL_ (some 18) rfl rfl Try.func31 (by kernel_rfl) rfl #[.agg #[.bool t634, .slice Ao12 t635.length co12]] rfl (by (try simp only [List.map_toArray, List.map_cons, List.map_nil]); first | done | rfl | (simp only [List.length_drop, List.length_take]; rfl)) ?_; (with_reducible refine (cobwebref01_Neg.calls k t634 (fun k_ => k_ ≠ gb631) _ _ t635 t638 t639 _ ?side1 A5.out).mono ?_); (case side1 => exact HO637.out); rintro e w13 ⟨v640, rfl, ho0, hb⟩; refine ⟨_, rfl, ?_⟩; have HO641 := Aside0.mk (Kd.V_lower (Kd.V_mono (ok' := fun k_ => k_ ≠ gb631) ho0 (fun k_ hk_ => Or.elim hk_ (fun hs_ => hs_) (fun hn_ => (Kd.freshB (g := gb631) (o := .cells #[.int .i64 a0_0, .int .u64 a0_1] 24 (0, 0)) (kx BK631) k_ hn_)))) (below_size (ky HB))); replace HO637 := kV HO637 hb; replace BK631 := kb BK631 hb; replace HB := kB HB hb; (try clear hb); (try clear hb2); (try clear hk); (try clear hi); (try clear ho0)) | ((with_reducible refine gate_callee (f := 23) rfl ?_); refine goesL_ (some 19) rfl rfl Try.func23 (by kernel_rfl) rfl #[.int .i64 63] rfl (by (try simp only [List.map_toArray, List.map_cons, List.map_nil]); first | done | rfl | (simp only [List.length_drop, List.length_take]; rfl)) ?_; (with_reducible refine (cobwebref01_Power.calls k 63 t642 t643 _ A6.out).mono ?_); rintro e w14 ⟨v644, rfl, ho0, hb⟩; refine ⟨_, rfl, ?_⟩; have HO645 := Aside0.mk (Kd.V_lower (Kd.V_mono (ok' := fun k_ => k_ ≠ gb631) ho0 (fun k_ hk_ => (Kd.freshB (g := gb631) (o := .cells #[.int .i64 a0_0, .int .u64 a0_1] 24 (0, 0)) (kx BK631) k_ hk_))) (below_size (ky HB))); replace HO637 := kV HO637 hb; replace HO641 := kV HO641 hb; replace BK631 := kb BK631 hb; replace HB := kB HB hb; (try clear hb); (try clear hb2); (try clear hk); (try clear hi); (try clear ho0)) | ((with_reducible refine gate_dst (N := 7) rfl ?_); refine box_event ?hg (N := 7) ?hd (cs := #[.bool false, .slice none 0 0]) (t := 32) ?hr ?_; (case hd => rfl); (case hg => rfl); (case hr => first | (go_simp; done) | (go_simp; rfl)); intro gb646 hg w15 hbox hb; have n0_ := Aside0.mk (Kd.V_below (Kd.V_elderB (kv HO637) gb646 (Nat.le_of_eq hg.symm)) hb); have n1_ := Aside0.mk (Kd.V_below (Kd.V_elderB (kv HO641) gb646 (Nat.le_of_eq hg.symm)) hb); have n2_ := Aside0.mk (Kd.V_below (Kd.V_elderB (kv HO645) gb646 (Nat.le_of_eq hg.symm)) hb); have n3_ := kb BK631 hb; have n4_ := kB HB hb; have n5_ := Aside0.mk (hbox); have n6_ := kS HB hg; have n7_ := kS HB hg; have n8_ := kN BK631 hg; have n9_ := kM BK631 hg; clear HO637; clear HO641; clear HO645; clear BK631; clear HB; have HO637 := n0_; have HO641 := n1_; have HO645 := n2_; have BK631 := n3_; have HB := n4_; have BK646 := n5_; have GW646 := n6_; have GE646 := n7_; have NB631_646 := n8_; have NB646_631 := n9_; clear n0_ n1_ n2_ n3_ n4_ n5_ n6_ n7_ n8_ n9_; clear hb hbox hg) | ((with_reducible refine gate_dst (N := 8) rfl ?_); refine box_event ?hg (N := 8) ?hd (cs := #[.bool false, .slice none 0 0]) (t := 32) ?hr ?_; (case hd => rfl); (case hg => rfl); (case hr => first | (go_simp; done) | (go_simp; rfl)); intro gb647 hg w16 hbox hb; have n0_ := Aside0.mk (Kd.V_below (Kd.V_elderB (kv HO637) gb647 (Nat.le_of_eq hg.symm)) hb); have n1_ := Aside0.mk (Kd.V_below (Kd.V_elderB (kv HO641) gb647 (Nat.le_of_eq hg.symm)) hb); have n2_ := Aside0.mk (Kd.V_below (Kd.V_elderB (kv HO645) gb647 (Nat.le_of_eq hg.symm)) hb); have n3_ := kb BK631 hb; have n4_ := kb BK646 hb; have n5_ := kB HB hb; have n6_ := Aside0.mk (hbox); have n7_ := kS HB hg; have n8_ := kS HB hg; have n9_ := kN BK631 hg; have n10_ := kM BK631 hg; have n11_ := kN BK646 hg; have n12_ := kM BK646 hg; clear HO637; clear HO641; clear HO645; clear BK631; clear BK646; clear HB; have HO637 := n0_; have HO641 := n1_; have HO645 := n2_; have BK631 := n3_; have BK646 := n4_; have HB := n5_; have BK647 := n6_; have GW647 := n7_; have GE647 := n8_; have NB631_647 := n9_; have NB647_631 := n10_; have NB646_647 := n11_; have NB647_646 := n12_; clear n0_ n1_ n2_ n3_ n4_ n5_ n6_ n7_ n8_ n9_ n10_ n11_ n12_; clear hb hbox hg; have hnb17 := NB646_631.out; have hnc17 := NB631_646.out; have hnb18 := NB646_647.out; have hnc18 := NB647_646.out; have hcz19_0 : w16.cell? ⟨gb646, 0, none⟩ = some (.bool false) := kc BK646 0; have hcz19_1 : w16.cell? ⟨gb646, 1, none⟩ = some (.slice none 0 0) := kc BK646 1; have hfz19_0 := blk_frozen BK646.out 0; have hfz19_1 := blk_frozen BK646.out 1; obtain ⟨Ao20, co20, eo20⟩ := Kd.V_slice HO641.out; subst eo20; have hnb21 := NB647_631.out; have hnc21 := NB631_647.out; have hcz22_0 : w16.cell? ⟨gb647, 0, none⟩ = some (.bool false) := kc BK647 0; have hcz22_1 : w16.cell? ⟨gb647, 1, none⟩ = some (.slice none 0 0) := kc BK647 1; have hfz22_0 := blk_frozen BK647.out 0; have hfz22_1 := blk_frozen BK647.out 1; obtain ⟨Ao23, co23, eo23⟩ := Kd.V_slice HO645.out; subst eo23))
  (try simp only [Act.put, List.setIfInBounds_toArray, List.set_cons_zero, List.set_cons_succ])
  go_cut [9] (fun v9 wc => ∃ (kq : Nat) (x9_6 : Bool), v9 = .bool x9_6 ∧ Aside0 (cobweblaw01_WideSmall.j0 kq a1 t632 t633 x9_6 a0_0 a0_1 = some r) ∧ Aside0 (kq ≤ k) ∧ Aside0 (Kd.V (Kd.int .i64) 3 wc w.heap.size (fun k_ => k_ ≠ gb631 ∧ k_ ≠ gb646 ∧ k_ ≠ gb647) (.slice Ao20 t639.length co20) t639) ∧ Aside0 (Kd.V (Kd.int .i64) 3 wc w.heap.size (fun k_ => k_ ≠ gb631 ∧ k_ ≠ gb646 ∧ k_ ≠ gb647) (.slice Ao23 t643.length co23) t643) ∧ Aside0 (wc.heap[gb631]? = some (.cells #[.int .i64 a0_0, .int .u64 a0_1] 24 (0, 0))) ∧ Aside0 (wc.heap[gb646]? = some (.cells #[.bool t638, (.slice Ao20 t639.length co20)] 32 (0, 0))) ∧ Aside0 (wc.heap[gb647]? = some (.cells #[.bool t642, (.slice Ao23 t643.length co23)] 32 (0, 0))) ∧ Aside0 (Below w.heap.size w wc))
  case first =>
    have H := HC7.out; clear HC7
    replace H := Option.bind_eq_some_iff.mp H
    obtain ⟨⟨t648, t649⟩, A240, H⟩ := H
    replace H : ((cobwebref01_Cmp.f k t648 t649 t638 t639).bind fun t652 => (if t652 ≥ 0 then ((cobweblaw01_num.f k a0_0 a0_1).bind fun bt653 => ((cobwebref01_Cmp.f k bt653.1 bt653.2 t642 t643).bind fun t657 => (cobweblaw01_WideSmall.j0 k a1 t632 t633 (decide (t657 < 0)) a0_0 a0_1))) else (cobweblaw01_WideSmall.j0 k a1 t632 t633 false a0_0 a0_1))) = some r := H
    have A24 := Aside0.mk A240
    clear A240
    replace H := Option.bind_eq_some_iff.mp H
    obtain ⟨t652, A250, H⟩ := H
    replace H : (if t652 ≥ 0 then ((cobweblaw01_num.f k a0_0 a0_1).bind fun bt653 => ((cobwebref01_Cmp.f k bt653.1 bt653.2 t642 t643).bind fun t657 => (cobweblaw01_WideSmall.j0 k a1 t632 t633 (decide (t657 < 0)) a0_0 a0_1))) else (cobweblaw01_WideSmall.j0 k a1 t632 t633 false a0_0 a0_1)) = some r := H
    have A25 := Aside0.mk A250
    clear A250
    by_cases c26 : t652 ≥ 0
    rotate_left
    · rw [if_neg c26] at H
      have c26b0 : decide (0 ≤ t652) = false := decide_eq_false c26
      clear c26
      (first | rw [c26b0] | (simp only [i64_w, i32_w]; rw [c26b0]) | skip)
      have H' := Aside0.mk H
      clear H
      try go_wp2
      have n0_ : Aside0 (Kd.V (Kd.int .i64) 3 ((((w16.setCell ⟨gb646, 0, none⟩ (.bool t638)).setCell ⟨gb646, 1, none⟩ (.slice Ao20 t639.length co20)).setCell ⟨gb647, 0, none⟩ (.bool t642)).setCell ⟨gb647, 1, none⟩ (.slice Ao23 t643.length co23)) w.heap.size (fun k_ => k_ ≠ gb631 ∧ k_ ≠ gb646 ∧ k_ ≠ gb647) (.slice Ao12 t635.length co12) t635) := ⟨by (with_reducible repeat (first | apply Kd.V_alloc | apply Kd.V_drewN | apply Kd.V_drew)); exact Kd.V_mono (Kd.V_far (p := ⟨gb647, 1, none⟩) (Kd.V_far (p := ⟨gb647, 0, none⟩) (Kd.V_far (p := ⟨gb646, 1, none⟩) (Kd.V_far (p := ⟨gb646, 0, none⟩) (Kd.V_mono (Kd.V_mono HO637.out (fun k_ hk => (⟨hk, hk.1.2⟩ : _ ∧ k_ ≠ gb646))) (fun k_ hk => (⟨hk, hk.1.2⟩ : _ ∧ k_ ≠ gb647))) (fun _ hk => hk.1.2) (.bool t638)) (fun _ hk => hk.1.2) (.slice Ao20 t639.length co20)) (fun _ hk => hk.2) (.bool t642)) (fun _ hk => hk.2) (.slice Ao23 t643.length co23)) (fun _ hk => ⟨hk.1.1.1.1, ⟨hk.1.1.1.2, hk.1.1.2⟩⟩)⟩
      have n1_ : Aside0 (Kd.V (Kd.int .i64) 3 ((((w16.setCell ⟨gb646, 0, none⟩ (.bool t638)).setCell ⟨gb646, 1, none⟩ (.slice Ao20 t639.length co20)).setCell ⟨gb647, 0, none⟩ (.bool t642)).setCell ⟨gb647, 1, none⟩ (.slice Ao23 t643.length co23)) w.heap.size (fun k_ => k_ ≠ gb631 ∧ k_ ≠ gb646 ∧ k_ ≠ gb647) (.slice Ao20 t639.length co20) t639) := ⟨by (with_reducible repeat (first | apply Kd.V_alloc | apply Kd.V_drewN | apply Kd.V_drew)); exact Kd.V_mono (Kd.V_far (p := ⟨gb647, 1, none⟩) (Kd.V_far (p := ⟨gb647, 0, none⟩) (Kd.V_far (p := ⟨gb646, 1, none⟩) (Kd.V_far (p := ⟨gb646, 0, none⟩) (Kd.V_mono (Kd.V_mono HO641.out (fun k_ hk => (⟨hk, hk.1.2⟩ : _ ∧ k_ ≠ gb646))) (fun k_ hk => (⟨hk, hk.1.2⟩ : _ ∧ k_ ≠ gb647))) (fun _ hk => hk.1.2) (.bool t638)) (fun _ hk => hk.1.2) (.slice Ao20 t639.length co20)) (fun _ hk => hk.2) (.bool t642)) (fun _ hk => hk.2) (.slice Ao23 t643.length co23)) (fun _ hk => ⟨hk.1.1.1.1, ⟨hk.1.1.1.2, hk.1.1.2⟩⟩)⟩
      have n2_ : Aside0 (Kd.V (Kd.int .i64) 3 ((((w16.setCell ⟨gb646, 0, none⟩ (.bool t638)).setCell ⟨gb646, 1, none⟩ (.slice Ao20 t639.length co20)).setCell ⟨gb647, 0, none⟩ (.bool t642)).setCell ⟨gb647, 1, none⟩ (.slice Ao23 t643.length co23)) w.heap.size (fun k_ => k_ ≠ gb631 ∧ k_ ≠ gb646 ∧ k_ ≠ gb647) (.slice Ao23 t643.length co23) t643) := ⟨by (with_reducible repeat (first | apply Kd.V_alloc | apply Kd.V_drewN | apply Kd.V_drew)); exact Kd.V_mono (Kd.V_far (p := ⟨gb647, 1, none⟩) (Kd.V_far (p := ⟨gb647, 0, none⟩) (Kd.V_far (p := ⟨gb646, 1, none⟩) (Kd.V_far (p := ⟨gb646, 0, none⟩) (Kd.V_mono (Kd.V_mono HO645.out (fun k_ hk => (⟨hk, hk.1.2⟩ : _ ∧ k_ ≠ gb646))) (fun k_ hk => (⟨hk, hk.1.2⟩ : _ ∧ k_ ≠ gb647))) (fun _ hk => hk.1.2) (.bool t638)) (fun _ hk => hk.1.2) (.slice Ao20 t639.length co20)) (fun _ hk => hk.2) (.bool t642)) (fun _ hk => hk.2) (.slice Ao23 t643.length co23)) (fun _ hk => ⟨hk.1.1.1.1, ⟨hk.1.1.1.2, hk.1.1.2⟩⟩)⟩
      have n3_ : Aside0 (((((w16.setCell ⟨gb646, 0, none⟩ (.bool t638)).setCell ⟨gb646, 1, none⟩ (.slice Ao20 t639.length co20)).setCell ⟨gb647, 0, none⟩ (.bool t642)).setCell ⟨gb647, 1, none⟩ (.slice Ao23 t643.length co23)).heap[gb631]? = some (.cells #[.int .i64 a0_0, .int .u64 a0_1] 24 (0, 0))) := ⟨kx BK631⟩
      have n4_ : Aside0 (((((w16.setCell ⟨gb646, 0, none⟩ (.bool t638)).setCell ⟨gb646, 1, none⟩ (.slice Ao20 t639.length co20)).setCell ⟨gb647, 0, none⟩ (.bool t642)).setCell ⟨gb647, 1, none⟩ (.slice Ao23 t643.length co23)).heap[gb646]? = some (.cells #[.bool t638, .slice Ao20 t639.length co20] 32 (0, 0))) := ⟨by (with_reducible repeat (first | refine blk_drewN ?_ _ | refine blk_drew ?_ | refine blk_alloc ?_ _)); refine blk_far ?_ NB646_647.out _; (with_reducible repeat (first | refine blk_drewN ?_ _ | refine blk_drew ?_ | refine blk_alloc ?_ _)); refine blk_far ?_ NB646_647.out _; (with_reducible repeat (first | refine blk_drewN ?_ _ | refine blk_drew ?_ | refine blk_alloc ?_ _)); refine blk_put (cs := #[.bool t638, .slice none 0 0]) ?_ 1 _ rfl; (with_reducible repeat (first | refine blk_drewN ?_ _ | refine blk_drew ?_ | refine blk_alloc ?_ _)); refine blk_put (cs := #[.bool false, .slice none 0 0]) ?_ 0 _ rfl; (with_reducible repeat (first | refine blk_drewN ?_ _ | refine blk_drew ?_ | refine blk_alloc ?_ _)); exact BK646.out⟩
      have n5_ : Aside0 (((((w16.setCell ⟨gb646, 0, none⟩ (.bool t638)).setCell ⟨gb646, 1, none⟩ (.slice Ao20 t639.length co20)).setCell ⟨gb647, 0, none⟩ (.bool t642)).setCell ⟨gb647, 1, none⟩ (.slice Ao23 t643.length co23)).heap[gb647]? = some (.cells #[.bool t642, .slice Ao23 t643.length co23] 32 (0, 0))) := ⟨by (with_reducible repeat (first | refine blk_drewN ?_ _ | refine blk_drew ?_ | refine blk_alloc ?_ _)); refine blk_put (cs := #[.bool t642, .slice none 0 0]) ?_ 1 _ rfl; (with_reducible repeat (first | refine blk_drewN ?_ _ | refine blk_drew ?_ | refine blk_alloc ?_ _)); refine blk_put (cs := #[.bool false, .slice none 0 0]) ?_ 0 _ rfl; (with_reducible repeat (first | refine blk_drewN ?_ _ | refine blk_drew ?_ | refine blk_alloc ?_ _)); refine blk_far ?_ NB647_646.out _; (with_reducible repeat (first | refine blk_drewN ?_ _ | refine blk_drew ?_ | refine blk_alloc ?_ _)); refine blk_far ?_ NB647_646.out _; (with_reducible repeat (first | refine blk_drewN ?_ _ | refine blk_drew ?_ | refine blk_alloc ?_ _)); exact BK647.out⟩
      have n6_ : Aside0 (Below w.heap.size w ((((w16.setCell ⟨gb646, 0, none⟩ (.bool t638)).setCell ⟨gb646, 1, none⟩ (.slice Ao20 t639.length co20)).setCell ⟨gb647, 0, none⟩ (.bool t642)).setCell ⟨gb647, 1, none⟩ (.slice Ao23 t643.length co23))) := ⟨ky HB⟩
      (try clear HO637)
      (try clear HO641)
      (try clear HO645)
      (try clear BK631)
      (try clear BK646)
      (try clear BK647)
      (try clear HB)
      generalize ((((w16.setCell ⟨gb646, 0, none⟩ (.bool t638)).setCell ⟨gb646, 1, none⟩ (.slice Ao20 t639.length co20)).setCell ⟨gb647, 0, none⟩ (.bool t642)).setCell ⟨gb647, 1, none⟩ (.slice Ao23 t643.length co23)) = w37 at n0_ n1_ n2_ n3_ n4_ n5_ n6_ ⊢
      have HO637 := n0_; have HO641 := n1_; have HO645 := n2_; have BK631 := n3_; have BK646 := n4_; have BK647 := n5_; have HB := n6_
      clear n0_ n1_ n2_ n3_ n4_ n5_ n6_
      replace HO637 := Aside0.mk (Kd.V_drew HO637.out)
      replace HO641 := Aside0.mk (Kd.V_drew HO641.out)
      replace HO645 := Aside0.mk (Kd.V_drew HO645.out)
      replace BK631 := Aside0.mk (blk_drew BK631.out)
      replace BK646 := Aside0.mk (blk_drew BK646.out)
      replace BK647 := Aside0.mk (blk_drew BK647.out)
      replace HB := Aside0.mk (below_drew1 HB.out)
      refine start_ (n := 13) (S := fun w' => w'.cell? ⟨gb631, 0, none⟩ = some (.int .i64 a0_0) ∧ w'.cell? ⟨gb631, 1, none⟩ = some (.int .u64 a0_1) ∧ w'.cell? ⟨gb646, 0, none⟩ = some (.bool t638) ∧ w'.cell? ⟨gb646, 1, none⟩ = some (.slice Ao20 t639.length co20)) (ds := []) #[O, O, O, O, O, O, O, O, O, O, O, O, O] (by kernel_rfl) rfl rfl ⟨kc BK631 0, kc BK631 1, kc BK646 0, kc BK646 1⟩ (fun hHeld => ?_); refine with_tabW cobweblaw01_WideSmall.tab3 cobweblaw01_WideSmall.bits3 (fun HT_ HW_ => ?_)
      generalize w37.drew = w38 at HO637 HO641 HO645 BK631 BK646 BK647 HB hHeld ⊢
      refine take_ (i := 0) (N := some 20) (v := ?_) (a' := ?_) #[T, O, O, O, O, O, O, O, O, O, O, O, O] rfl rfl (take_ofW HT_.out HW_.out (by kernel_rfl)) (fun _ _ _ h => h) (Or.inl ⟨by rfl, ?_⟩) hHeld ?_ ?_; rotate_left; focus (rintro w' ⟨s0, s1, s2, s3⟩; go_simp; with_reducible rfl)
      rotate_left; focus (simp only [Act.put, List.setIfInBounds_toArray, List.set_cons_zero, List.set_cons_succ, i64_w, i32_w]; rfl)
      refine take_ (i := 2) (N := some 22) (v := ?_) (a' := ?_) #[T, O, T, O, O, O, O, O, O, O, O, O, O] rfl rfl (take_ofW HT_.out HW_.out (by kernel_rfl)) (fun _ _ _ h => h) (Or.inl ⟨by rfl, ?_⟩) hHeld ?_ ?_; rotate_left; focus (rintro w' ⟨s0, s1, s2, s3⟩; go_simp; with_reducible rfl)
      rotate_left; focus (simp only [Act.put, List.setIfInBounds_toArray, List.set_cons_zero, List.set_cons_succ, i64_w, i32_w]; rfl)
      refine one_ (i := 1) (N := some 21) #[T, T, T, O, O, O, O, O, O, O, O, O, O] rfl rfl (one_of HT_.out (by kernel_rfl)) (by decide) (fun K hK => ?_)
      refine goes_ Try.func19 (by kernel_rfl) rfl #[.agg #[.int .i64 a0_0, .int .u64 a0_1]] (by rfl) rfl rfl (by (try simp only [List.map_toArray, List.map_cons, List.map_nil]); first | done | rfl | (simp only [List.length_drop, List.length_take]; rfl)) ?_
      with_reducible refine (cobweblaw01_num.calls k a0_0 a0_1 t648 t649 _ A24.out).mono ?_
      rintro e w39 ⟨v650, rfl, ho0, hb⟩
      refine ⟨_, rfl, ?_⟩
      have HO651 := Aside0.mk (Kd.V_lower (Kd.V_mono (ok' := fun k_ => k_ ≠ gb631 ∧ k_ ≠ gb646 ∧ k_ ≠ gb647) ho0 (fun k_ hk_ => ⟨(Kd.freshB (g := gb631) (o := .cells #[.int .i64 a0_0, .int .u64 a0_1] 24 (0, 0)) (kx BK631) k_ hk_), (Kd.freshB (g := gb646) (o := .cells #[.bool t638, .slice Ao20 t639.length co20] 32 (0, 0)) (kx BK646) k_ hk_), (Kd.freshB (g := gb647) (o := .cells #[.bool t642, .slice Ao23 t643.length co23] 32 (0, 0)) (kx BK647) k_ hk_)⟩)) (below_size (ky HB)))
      replace HO637 := kV HO637 hb
      replace HO641 := kV HO641 hb
      replace HO645 := kV HO645 hb
      replace BK631 := kb BK631 hb
      replace BK646 := kb BK646 hb
      replace BK647 := kb BK647 hb
      replace HB := kB HB hb
      (try clear hb)
      (try clear hb2)
      (try clear hk)
      (try clear hi)
      (try clear ho0)
      obtain ⟨Ao40, co40, eo40⟩ := Kd.V_slice HO651.out
      (first | subst eo40 | (injection eo40 with f1_ f2_ f3_; have f4_ := f1_.symm; have f5_ := f3_.symm; clear f1_ f2_ f3_; subst f4_; subst f5_))
      refine hK.out _ _ ⟨kc BK631 0, kc BK631 1, kc BK646 0, kc BK646 1⟩ (fun hHeld => ?_)
      clear hK K
      refine norm_ (a' := ?_) ?_ ?_
      rotate_left
      · show Act.put _ (some 21) _ = _
        simp only [Act.put, List.setIfInBounds_toArray, List.set_cons_zero, List.set_cons_succ, i64_w, i32_w]
        rfl
      refine one_ (i := 3) (N := some 23) #[T, T, T, T, O, O, O, O, O, O, O, O, O] rfl rfl (one_of HT_.out (by kernel_rfl)) (by decide) (fun K hK => ?_)
      refine goes_ Try.func25 (by kernel_rfl) rfl #[.agg #[.bool t648, .slice Ao40 t649.length co40], .agg #[.bool t638, .slice Ao20 t639.length co20]] (by rfl) rfl rfl (by (try simp only [List.map_toArray, List.map_cons, List.map_nil]); first | done | rfl | (simp only [List.length_drop, List.length_take]; rfl)) ?_
      with_reducible refine (cobwebref01_Cmp.calls k t648 _ _ t649 t638 _ _ t639 t652 _ ?side1 ?side2 ?side3 ?side4 A25.out).mono ?_
      (case side1 => repeat (first | exact (Kd.V_reads' HO651.out).2.2 | (with_reducible refine Kd.C_alloc ?_ _) | (with_reducible refine Kd.C_drewN ?_ _) | (with_reducible refine Kd.C_drew ?_)))
      (case side2 => exact (Kd.V_reads' HO651.out).2.1)
      (case side3 => repeat (first | exact (Kd.V_reads' HO641.out).2.2 | (with_reducible refine Kd.C_alloc ?_ _) | (with_reducible refine Kd.C_drewN ?_ _) | (with_reducible refine Kd.C_drew ?_)))
      (case side4 => exact (Kd.V_reads' HO641.out).2.1)
      rintro e w41 ⟨rfl, hb⟩
      refine ⟨_, rfl, ?_⟩
      replace HO637 := kV HO637 hb
      replace HO641 := kV HO641 hb
      replace HO645 := kV HO645 hb
      replace HO651 := kV HO651 hb
      replace BK631 := kb BK631 hb
      replace BK646 := kb BK646 hb
      replace BK647 := kb BK647 hb
      replace HB := kB HB hb
      (try clear hb)
      (try clear hb2)
      (try clear hk)
      (try clear hi)
      refine hK.out _ _ ⟨kc BK631 0, kc BK631 1, kc BK646 0, kc BK646 1⟩ (fun hHeld => ?_)
      clear hK K
      refine norm_ (a' := ?_) ?_ ?_
      rotate_left
      · show Act.put _ (some 23) _ = _
        simp only [Act.put, List.setIfInBounds_toArray, List.set_cons_zero, List.set_cons_succ, i64_w, i32_w]
        rfl
      refine pure_ (i := 4) (N := some 24) (v := ?_) (a' := ?_) #[T, T, T, T, T, O, O, O, O, O, O, O, O] rfl rfl (any_of HT_.out (by kernel_rfl)) (fun _ _ _ h => h) (Or.inl ⟨by rfl, ?_⟩) ?_ ?_; rotate_left; focus (intro w'; go_simp; with_reducible rfl)
      rotate_left; focus (simp only [Act.put, List.setIfInBounds_toArray, List.set_cons_zero, List.set_cons_succ, i64_w, i32_w]; rfl)
      refine pure_ (i := 5) (N := some 25) (v := ?_) (a' := ?_) #[T, T, T, T, T, T, O, O, O, O, O, O, O] rfl rfl (any_of HT_.out (by kernel_rfl)) (fun _ _ _ h => h) (Or.inl ⟨by rfl, ?_⟩) ?_ ?_; rotate_left; focus (intro w'; go_simp; with_reducible rfl)
      rotate_left; focus (simp only [Act.put, List.setIfInBounds_toArray, List.set_cons_zero, List.set_cons_succ, i64_w, i32_w]; rfl)
      refine pure_ (i := 6) (N := some 26) (v := undef) (a' := ?_) #[T, T, T, T, T, T, T, O, O, O, O, O, O] rfl rfl (any_of HT_.out (by kernel_rfl)) (fun _ _ _ h => h) (Or.inr ⟨by rfl, rfl⟩) ?_ ?_
      rotate_left
      · simp only [Act.put, List.setIfInBounds_toArray, List.set_cons_zero, List.set_cons_succ, i64_w, i32_w]
        rfl
      refine pure_ (i := 7) (N := some 27) (v := undef) (a' := ?_) #[T, T, T, T, T, T, T, T, O, O, O, O, O] rfl rfl (any_of HT_.out (by kernel_rfl)) (fun _ _ _ h => h) (Or.inr ⟨by rfl, rfl⟩) ?_ ?_
      rotate_left
      · simp only [Act.put, List.setIfInBounds_toArray, List.set_cons_zero, List.set_cons_succ, i64_w, i32_w]
        rfl
      refine pure_ (i := 8) (N := some 28) (v := undef) (a' := ?_) #[T, T, T, T, T, T, T, T, T, O, O, O, O] rfl rfl (any_of HT_.out (by kernel_rfl)) (fun _ _ _ h => h) (Or.inr ⟨by rfl, rfl⟩) ?_ ?_
      rotate_left
      · simp only [Act.put, List.setIfInBounds_toArray, List.set_cons_zero, List.set_cons_succ, i64_w, i32_w]
        rfl
      refine pure_ (i := 9) (N := some 29) (v := undef) (a' := ?_) #[T, T, T, T, T, T, T, T, T, T, O, O, O] rfl rfl (any_of HT_.out (by kernel_rfl)) (fun _ _ _ h => h) (Or.inr ⟨by rfl, rfl⟩) ?_ ?_
      rotate_left
      · simp only [Act.put, List.setIfInBounds_toArray, List.set_cons_zero, List.set_cons_succ, i64_w, i32_w]
        rfl
      refine pure_ (i := 10) (N := some 30) (v := undef) (a' := ?_) #[T, T, T, T, T, T, T, T, T, T, T, O, O] rfl rfl (any_of HT_.out (by kernel_rfl)) (fun _ _ _ h => h) (Or.inr ⟨by rfl, rfl⟩) ?_ ?_
      rotate_left
      · simp only [Act.put, List.setIfInBounds_toArray, List.set_cons_zero, List.set_cons_succ, i64_w, i32_w]
        rfl
      refine pure_ (i := 11) (N := some 31) (v := ?_) (a' := ?_) #[T, T, T, T, T, T, T, T, T, T, T, T, O] rfl rfl (any_of HT_.out (by kernel_rfl)) (fun _ _ _ h => h) (Or.inl ⟨by rfl, ?_⟩) ?_ ?_; rotate_left; focus (intro w'; go_simp; with_reducible rfl)
      rotate_left; focus (simp only [Act.put, List.setIfInBounds_toArray, List.set_cons_zero, List.set_cons_succ, i64_w, i32_w]; rfl)
      refine pure_ (i := 12) (N := some 9) (v := ?_) (a' := ?_) #[T, T, T, T, T, T, T, T, T, T, T, T, T] rfl rfl (any_of HT_.out (by kernel_rfl)) (fun _ _ _ h => h) (Or.inl ⟨by rfl, ?_⟩) ?_ ?_; rotate_left; focus (intro w'; go_simp; with_reducible rfl)
      rotate_left; focus (simp only [Act.put, List.setIfInBounds_toArray, List.set_cons_zero, List.set_cons_succ, i64_w, i32_w]; rfl)
      refine done_ (done_of HT_.out (by kernel_rfl)) ?_
      try go_wp2
      go_meet
      case rel => exact ⟨_, (false), (by first | rfl | (simp; done) | (simp [*]; done)), H', ⟨by first | omega | exact Nat.le_refl _⟩, ⟨by (with_reducible repeat (first | apply Kd.V_alloc | apply Kd.V_drewN | apply Kd.V_drew)); exact HO641.out⟩, ⟨by (with_reducible repeat (first | apply Kd.V_alloc | apply Kd.V_drewN | apply Kd.V_drew)); exact HO645.out⟩, ⟨kx BK631⟩, ⟨kx BK646⟩, ⟨kx BK647⟩, ⟨ky HB⟩⟩
    rw [if_pos c26] at H
    have c26b0 : decide (0 ≤ t652) = true := decide_eq_true c26
    clear c26
    (first | rw [c26b0] | (simp only [i64_w, i32_w]; rw [c26b0]) | skip)
    replace H := Option.bind_eq_some_iff.mp H
    obtain ⟨⟨t653, t654⟩, A270, H⟩ := H
    replace H : ((cobwebref01_Cmp.f k t653 t654 t642 t643).bind fun t657 => (cobweblaw01_WideSmall.j0 k a1 t632 t633 (decide (t657 < 0)) a0_0 a0_1)) = some r := H
    have A27 := Aside0.mk A270
    clear A270
    replace H := Option.bind_eq_some_iff.mp H
    obtain ⟨t657, A280, H⟩ := H
    replace H : (cobweblaw01_WideSmall.j0 k a1 t632 t633 (decide (t657 < 0)) a0_0 a0_1) = some r := H
    have A28 := Aside0.mk A280
    clear A280
    have H' := Aside0.mk H
    clear H
    try go_wp2
    have n0_ : Aside0 (Kd.V (Kd.int .i64) 3 ((((w16.setCell ⟨gb646, 0, none⟩ (.bool t638)).setCell ⟨gb646, 1, none⟩ (.slice Ao20 t639.length co20)).setCell ⟨gb647, 0, none⟩ (.bool t642)).setCell ⟨gb647, 1, none⟩ (.slice Ao23 t643.length co23)) w.heap.size (fun k_ => k_ ≠ gb631 ∧ k_ ≠ gb646 ∧ k_ ≠ gb647) (.slice Ao12 t635.length co12) t635) := ⟨by (with_reducible repeat (first | apply Kd.V_alloc | apply Kd.V_drewN | apply Kd.V_drew)); exact Kd.V_mono (Kd.V_far (p := ⟨gb647, 1, none⟩) (Kd.V_far (p := ⟨gb647, 0, none⟩) (Kd.V_far (p := ⟨gb646, 1, none⟩) (Kd.V_far (p := ⟨gb646, 0, none⟩) (Kd.V_mono (Kd.V_mono HO637.out (fun k_ hk => (⟨hk, hk.1.2⟩ : _ ∧ k_ ≠ gb646))) (fun k_ hk => (⟨hk, hk.1.2⟩ : _ ∧ k_ ≠ gb647))) (fun _ hk => hk.1.2) (.bool t638)) (fun _ hk => hk.1.2) (.slice Ao20 t639.length co20)) (fun _ hk => hk.2) (.bool t642)) (fun _ hk => hk.2) (.slice Ao23 t643.length co23)) (fun _ hk => ⟨hk.1.1.1.1, ⟨hk.1.1.1.2, hk.1.1.2⟩⟩)⟩
    have n1_ : Aside0 (Kd.V (Kd.int .i64) 3 ((((w16.setCell ⟨gb646, 0, none⟩ (.bool t638)).setCell ⟨gb646, 1, none⟩ (.slice Ao20 t639.length co20)).setCell ⟨gb647, 0, none⟩ (.bool t642)).setCell ⟨gb647, 1, none⟩ (.slice Ao23 t643.length co23)) w.heap.size (fun k_ => k_ ≠ gb631 ∧ k_ ≠ gb646 ∧ k_ ≠ gb647) (.slice Ao20 t639.length co20) t639) := ⟨by (with_reducible repeat (first | apply Kd.V_alloc | apply Kd.V_drewN | apply Kd.V_drew)); exact Kd.V_mono (Kd.V_far (p := ⟨gb647, 1, none⟩) (Kd.V_far (p := ⟨gb647, 0, none⟩) (Kd.V_far (p := ⟨gb646, 1, none⟩) (Kd.V_far (p := ⟨gb646, 0, none⟩) (Kd.V_mono (Kd.V_mono HO641.out (fun k_ hk => (⟨hk, hk.1.2⟩ : _ ∧ k_ ≠ gb646))) (fun k_ hk => (⟨hk, hk.1.2⟩ : _ ∧ k_ ≠ gb647))) (fun _ hk => hk.1.2) (.bool t638)) (fun _ hk => hk.1.2) (.slice Ao20 t639.length co20)) (fun _ hk => hk.2) (.bool t642)) (fun _ hk => hk.2) (.slice Ao23 t643.length co23)) (fun _ hk => ⟨hk.1.1.1.1, ⟨hk.1.1.1.2, hk.1.1.2⟩⟩)⟩
    have n2_ : Aside0 (Kd.V (Kd.int .i64) 3 ((((w16.setCell ⟨gb646, 0, none⟩ (.bool t638)).setCell ⟨gb646, 1, none⟩ (.slice Ao20 t639.length co20)).setCell ⟨gb647, 0, none⟩ (.bool t642)).setCell ⟨gb647, 1, none⟩ (.slice Ao23 t643.length co23)) w.heap.size (fun k_ => k_ ≠ gb631 ∧ k_ ≠ gb646 ∧ k_ ≠ gb647) (.slice Ao23 t643.length co23) t643) := ⟨by (with_reducible repeat (first | apply Kd.V_alloc | apply Kd.V_drewN | apply Kd.V_drew)); exact Kd.V_mono (Kd.V_far (p := ⟨gb647, 1, none⟩) (Kd.V_far (p := ⟨gb647, 0, none⟩) (Kd.V_far (p := ⟨gb646, 1, none⟩) (Kd.V_far (p := ⟨gb646, 0, none⟩) (Kd.V_mono (Kd.V_mono HO645.out (fun k_ hk => (⟨hk, hk.1.2⟩ : _ ∧ k_ ≠ gb646))) (fun k_ hk => (⟨hk, hk.1.2⟩ : _ ∧ k_ ≠ gb647))) (fun _ hk => hk.1.2) (.bool t638)) (fun _ hk => hk.1.2) (.slice Ao20 t639.length co20)) (fun _ hk => hk.2) (.bool t642)) (fun _ hk => hk.2) (.slice Ao23 t643.length co23)) (fun _ hk => ⟨hk.1.1.1.1, ⟨hk.1.1.1.2, hk.1.1.2⟩⟩)⟩
    have n3_ : Aside0 (((((w16.setCell ⟨gb646, 0, none⟩ (.bool t638)).setCell ⟨gb646, 1, none⟩ (.slice Ao20 t639.length co20)).setCell ⟨gb647, 0, none⟩ (.bool t642)).setCell ⟨gb647, 1, none⟩ (.slice Ao23 t643.length co23)).heap[gb631]? = some (.cells #[.int .i64 a0_0, .int .u64 a0_1] 24 (0, 0))) := ⟨kx BK631⟩
    have n4_ : Aside0 (((((w16.setCell ⟨gb646, 0, none⟩ (.bool t638)).setCell ⟨gb646, 1, none⟩ (.slice Ao20 t639.length co20)).setCell ⟨gb647, 0, none⟩ (.bool t642)).setCell ⟨gb647, 1, none⟩ (.slice Ao23 t643.length co23)).heap[gb646]? = some (.cells #[.bool t638, .slice Ao20 t639.length co20] 32 (0, 0))) := ⟨by (with_reducible repeat (first | refine blk_drewN ?_ _ | refine blk_drew ?_ | refine blk_alloc ?_ _)); refine blk_far ?_ NB646_647.out _; (with_reducible repeat (first | refine blk_drewN ?_ _ | refine blk_drew ?_ | refine blk_alloc ?_ _)); refine blk_far ?_ NB646_647.out _; (with_reducible repeat (first | refine blk_drewN ?_ _ | refine blk_drew ?_ | refine blk_alloc ?_ _)); refine blk_put (cs := #[.bool t638, .slice none 0 0]) ?_ 1 _ rfl; (with_reducible repeat (first | refine blk_drewN ?_ _ | refine blk_drew ?_ | refine blk_alloc ?_ _)); refine blk_put (cs := #[.bool false, .slice none 0 0]) ?_ 0 _ rfl; (with_reducible repeat (first | refine blk_drewN ?_ _ | refine blk_drew ?_ | refine blk_alloc ?_ _)); exact BK646.out⟩
    have n5_ : Aside0 (((((w16.setCell ⟨gb646, 0, none⟩ (.bool t638)).setCell ⟨gb646, 1, none⟩ (.slice Ao20 t639.length co20)).setCell ⟨gb647, 0, none⟩ (.bool t642)).setCell ⟨gb647, 1, none⟩ (.slice Ao23 t643.length co23)).heap[gb647]? = some (.cells #[.bool t642, .slice Ao23 t643.length co23] 32 (0, 0))) := ⟨by (with_reducible repeat (first | refine blk_drewN ?_ _ | refine blk_drew ?_ | refine blk_alloc ?_ _)); refine blk_put (cs := #[.bool t642, .slice none 0 0]) ?_ 1 _ rfl; (with_reducible repeat (first | refine blk_drewN ?_ _ | refine blk_drew ?_ | refine blk_alloc ?_ _)); refine blk_put (cs := #[.bool false, .slice none 0 0]) ?_ 0 _ rfl; (with_reducible repeat (first | refine blk_drewN ?_ _ | refine blk_drew ?_ | refine blk_alloc ?_ _)); refine blk_far ?_ NB647_646.out _; (with_reducible repeat (first | refine blk_drewN ?_ _ | refine blk_drew ?_ | refine blk_alloc ?_ _)); refine blk_far ?_ NB647_646.out _; (with_reducible repeat (first | refine blk_drewN ?_ _ | refine blk_drew ?_ | refine blk_alloc ?_ _)); exact BK647.out⟩
    have n6_ : Aside0 (Below w.heap.size w ((((w16.setCell ⟨gb646, 0, none⟩ (.bool t638)).setCell ⟨gb646, 1, none⟩ (.slice Ao20 t639.length co20)).setCell ⟨gb647, 0, none⟩ (.bool t642)).setCell ⟨gb647, 1, none⟩ (.slice Ao23 t643.length co23))) := ⟨ky HB⟩
    (try clear HO637)
    (try clear HO641)
    (try clear HO645)
    (try clear BK631)
    (try clear BK646)
    (try clear BK647)
    (try clear HB)
    generalize ((((w16.setCell ⟨gb646, 0, none⟩ (.bool t638)).setCell ⟨gb646, 1, none⟩ (.slice Ao20 t639.length co20)).setCell ⟨gb647, 0, none⟩ (.bool t642)).setCell ⟨gb647, 1, none⟩ (.slice Ao23 t643.length co23)) = w29 at n0_ n1_ n2_ n3_ n4_ n5_ n6_ ⊢
    have HO637 := n0_; have HO641 := n1_; have HO645 := n2_; have BK631 := n3_; have BK646 := n4_; have BK647 := n5_; have HB := n6_
    clear n0_ n1_ n2_ n3_ n4_ n5_ n6_
    replace HO637 := Aside0.mk (Kd.V_drew HO637.out)
    replace HO641 := Aside0.mk (Kd.V_drew HO641.out)
    replace HO645 := Aside0.mk (Kd.V_drew HO645.out)
    replace BK631 := Aside0.mk (blk_drew BK631.out)
    replace BK646 := Aside0.mk (blk_drew BK646.out)
    replace BK647 := Aside0.mk (blk_drew BK647.out)
    replace HB := Aside0.mk (below_drew1 HB.out)
    refine start_ (n := 13) (S := fun w' => w'.cell? ⟨gb631, 0, none⟩ = some (.int .i64 a0_0) ∧ w'.cell? ⟨gb631, 1, none⟩ = some (.int .u64 a0_1) ∧ w'.cell? ⟨gb646, 0, none⟩ = some (.bool t638) ∧ w'.cell? ⟨gb646, 1, none⟩ = some (.slice Ao20 t639.length co20) ∧ w'.cell? ⟨gb647, 0, none⟩ = some (.bool t642) ∧ w'.cell? ⟨gb647, 1, none⟩ = some (.slice Ao23 t643.length co23)) (ds := []) #[O, O, O, O, O, O, O, O, O, O, O, O, O] (by kernel_rfl) rfl rfl ⟨kc BK631 0, kc BK631 1, kc BK646 0, kc BK646 1, kc BK647 0, kc BK647 1⟩ (fun hHeld => ?_); refine with_tabW cobweblaw01_WideSmall.tab3 cobweblaw01_WideSmall.bits3 (fun HT_ HW_ => ?_)
    generalize w29.drew = w30 at HO637 HO641 HO645 BK631 BK646 BK647 HB hHeld ⊢
    refine take_ (i := 0) (N := some 20) (v := ?_) (a' := ?_) #[T, O, O, O, O, O, O, O, O, O, O, O, O] rfl rfl (take_ofW HT_.out HW_.out (by kernel_rfl)) (fun _ _ _ h => h) (Or.inl ⟨by rfl, ?_⟩) hHeld ?_ ?_; rotate_left; focus (rintro w' ⟨s0, s1, s2, s3, s4, s5⟩; go_simp; with_reducible rfl)
    rotate_left; focus (simp only [Act.put, List.setIfInBounds_toArray, List.set_cons_zero, List.set_cons_succ, i64_w, i32_w]; rfl)
    refine take_ (i := 2) (N := some 22) (v := ?_) (a' := ?_) #[T, O, T, O, O, O, O, O, O, O, O, O, O] rfl rfl (take_ofW HT_.out HW_.out (by kernel_rfl)) (fun _ _ _ h => h) (Or.inl ⟨by rfl, ?_⟩) hHeld ?_ ?_; rotate_left; focus (rintro w' ⟨s0, s1, s2, s3, s4, s5⟩; go_simp; with_reducible rfl)
    rotate_left; focus (simp only [Act.put, List.setIfInBounds_toArray, List.set_cons_zero, List.set_cons_succ, i64_w, i32_w]; rfl)
    refine one_ (i := 1) (N := some 21) #[T, T, T, O, O, O, O, O, O, O, O, O, O] rfl rfl (one_of HT_.out (by kernel_rfl)) (by decide) (fun K hK => ?_)
    refine goes_ Try.func19 (by kernel_rfl) rfl #[.agg #[.int .i64 a0_0, .int .u64 a0_1]] (by rfl) rfl rfl (by (try simp only [List.map_toArray, List.map_cons, List.map_nil]); first | done | rfl | (simp only [List.length_drop, List.length_take]; rfl)) ?_
    with_reducible refine (cobweblaw01_num.calls k a0_0 a0_1 t648 t649 _ A24.out).mono ?_
    rintro e w31 ⟨v650, rfl, ho0, hb⟩
    refine ⟨_, rfl, ?_⟩
    have HO651 := Aside0.mk (Kd.V_lower (Kd.V_mono (ok' := fun k_ => k_ ≠ gb631 ∧ k_ ≠ gb646 ∧ k_ ≠ gb647) ho0 (fun k_ hk_ => ⟨(Kd.freshB (g := gb631) (o := .cells #[.int .i64 a0_0, .int .u64 a0_1] 24 (0, 0)) (kx BK631) k_ hk_), (Kd.freshB (g := gb646) (o := .cells #[.bool t638, .slice Ao20 t639.length co20] 32 (0, 0)) (kx BK646) k_ hk_), (Kd.freshB (g := gb647) (o := .cells #[.bool t642, .slice Ao23 t643.length co23] 32 (0, 0)) (kx BK647) k_ hk_)⟩)) (below_size (ky HB)))
    replace HO637 := kV HO637 hb
    replace HO641 := kV HO641 hb
    replace HO645 := kV HO645 hb
    replace BK631 := kb BK631 hb
    replace BK646 := kb BK646 hb
    replace BK647 := kb BK647 hb
    replace HB := kB HB hb
    (try clear hb)
    (try clear hb2)
    (try clear hk)
    (try clear hi)
    (try clear ho0)
    obtain ⟨Ao32, co32, eo32⟩ := Kd.V_slice HO651.out
    (first | subst eo32 | (injection eo32 with f1_ f2_ f3_; have f4_ := f1_.symm; have f5_ := f3_.symm; clear f1_ f2_ f3_; subst f4_; subst f5_))
    refine hK.out _ _ ⟨kc BK631 0, kc BK631 1, kc BK646 0, kc BK646 1, kc BK647 0, kc BK647 1⟩ (fun hHeld => ?_)
    clear hK K
    refine norm_ (a' := ?_) ?_ ?_
    rotate_left
    · show Act.put _ (some 21) _ = _
      simp only [Act.put, List.setIfInBounds_toArray, List.set_cons_zero, List.set_cons_succ, i64_w, i32_w]
      rfl
    refine one_ (i := 3) (N := some 23) #[T, T, T, T, O, O, O, O, O, O, O, O, O] rfl rfl (one_of HT_.out (by kernel_rfl)) (by decide) (fun K hK => ?_)
    refine goes_ Try.func25 (by kernel_rfl) rfl #[.agg #[.bool t648, .slice Ao32 t649.length co32], .agg #[.bool t638, .slice Ao20 t639.length co20]] (by rfl) rfl rfl (by (try simp only [List.map_toArray, List.map_cons, List.map_nil]); first | done | rfl | (simp only [List.length_drop, List.length_take]; rfl)) ?_
    with_reducible refine (cobwebref01_Cmp.calls k t648 _ _ t649 t638 _ _ t639 t652 _ ?side1 ?side2 ?side3 ?side4 A25.out).mono ?_
    (case side1 => repeat (first | exact (Kd.V_reads' HO651.out).2.2 | (with_reducible refine Kd.C_alloc ?_ _) | (with_reducible refine Kd.C_drewN ?_ _) | (with_reducible refine Kd.C_drew ?_)))
    (case side2 => exact (Kd.V_reads' HO651.out).2.1)
    (case side3 => repeat (first | exact (Kd.V_reads' HO641.out).2.2 | (with_reducible refine Kd.C_alloc ?_ _) | (with_reducible refine Kd.C_drewN ?_ _) | (with_reducible refine Kd.C_drew ?_)))
    (case side4 => exact (Kd.V_reads' HO641.out).2.1)
    rintro e w33 ⟨rfl, hb⟩
    refine ⟨_, rfl, ?_⟩
    replace HO637 := kV HO637 hb
    replace HO641 := kV HO641 hb
    replace HO645 := kV HO645 hb
    replace HO651 := kV HO651 hb
    replace BK631 := kb BK631 hb
    replace BK646 := kb BK646 hb
    replace BK647 := kb BK647 hb
    replace HB := kB HB hb
    (try clear hb)
    (try clear hb2)
    (try clear hk)
    (try clear hi)
    refine hK.out _ _ ⟨kc BK631 0, kc BK631 1, kc BK646 0, kc BK646 1, kc BK647 0, kc BK647 1⟩ (fun hHeld => ?_)
    clear hK K
    refine norm_ (a' := ?_) ?_ ?_
    rotate_left
    · show Act.put _ (some 23) _ = _
      simp only [Act.put, List.setIfInBounds_toArray, List.set_cons_zero, List.set_cons_succ, i64_w, i32_w]
      rfl
    refine pure_ (i := 4) (N := some 24) (v := ?_) (a' := ?_) #[T, T, T, T, T, O, O, O, O, O, O, O, O] rfl rfl (any_of HT_.out (by kernel_rfl)) (fun _ _ _ h => h) (Or.inl ⟨by rfl, ?_⟩) ?_ ?_; rotate_left; focus (intro w'; go_simp; with_reducible rfl)
    rotate_left; focus (simp only [Act.put, List.setIfInBounds_toArray, List.set_cons_zero, List.set_cons_succ, i64_w, i32_w]; rfl)
    refine pure_ (i := 5) (N := some 25) (v := ?_) (a' := ?_) #[T, T, T, T, T, T, O, O, O, O, O, O, O] rfl rfl (any_of HT_.out (by kernel_rfl)) (fun _ _ _ h => h) (Or.inl ⟨by rfl, ?_⟩) ?_ ?_; rotate_left; focus (intro w'; go_simp; with_reducible rfl)
    rotate_left; focus (simp only [Act.put, List.setIfInBounds_toArray, List.set_cons_zero, List.set_cons_succ, i64_w, i32_w]; rfl)
    refine take_ (i := 6) (N := some 26) (v := ?_) (a' := ?_) #[T, T, T, T, T, T, T, O, O, O, O, O, O] rfl rfl (take_ofW HT_.out HW_.out (by kernel_rfl)) (fun _ _ _ h => h) (Or.inl ⟨by rfl, ?_⟩) hHeld ?_ ?_; rotate_left; focus (rintro w' ⟨s0, s1, s2, s3, s4, s5⟩; go_simp; with_reducible rfl)
    rotate_left; focus (simp only [Act.put, List.setIfInBounds_toArray, List.set_cons_zero, List.set_cons_succ, i64_w, i32_w]; rfl)
    refine take_ (i := 8) (N := some 28) (v := ?_) (a' := ?_) #[T, T, T, T, T, T, T, O, T, O, O, O, O] rfl rfl (take_ofW HT_.out HW_.out (by kernel_rfl)) (fun _ _ _ h => h) (Or.inl ⟨by rfl, ?_⟩) hHeld ?_ ?_; rotate_left; focus (rintro w' ⟨s0, s1, s2, s3, s4, s5⟩; go_simp; with_reducible rfl)
    rotate_left; focus (simp only [Act.put, List.setIfInBounds_toArray, List.set_cons_zero, List.set_cons_succ, i64_w, i32_w]; rfl)
    refine one_ (i := 7) (N := some 27) #[T, T, T, T, T, T, T, T, T, O, O, O, O] rfl rfl (one_of HT_.out (by kernel_rfl)) (by decide) (fun K hK => ?_)
    refine goes_ Try.func19 (by kernel_rfl) rfl #[.agg #[.int .i64 a0_0, .int .u64 a0_1]] (by rfl) rfl rfl (by (try simp only [List.map_toArray, List.map_cons, List.map_nil]); first | done | rfl | (simp only [List.length_drop, List.length_take]; rfl)) ?_
    with_reducible refine (cobweblaw01_num.calls k a0_0 a0_1 t653 t654 _ A27.out).mono ?_
    rintro e w34 ⟨v655, rfl, ho0, hb⟩
    refine ⟨_, rfl, ?_⟩
    have HO656 := Aside0.mk (Kd.V_lower (Kd.V_mono (ok' := fun k_ => k_ ≠ gb631 ∧ k_ ≠ gb646 ∧ k_ ≠ gb647) ho0 (fun k_ hk_ => ⟨(Kd.freshB (g := gb631) (o := .cells #[.int .i64 a0_0, .int .u64 a0_1] 24 (0, 0)) (kx BK631) k_ hk_), (Kd.freshB (g := gb646) (o := .cells #[.bool t638, .slice Ao20 t639.length co20] 32 (0, 0)) (kx BK646) k_ hk_), (Kd.freshB (g := gb647) (o := .cells #[.bool t642, .slice Ao23 t643.length co23] 32 (0, 0)) (kx BK647) k_ hk_)⟩)) (below_size (ky HB)))
    replace HO637 := kV HO637 hb
    replace HO641 := kV HO641 hb
    replace HO645 := kV HO645 hb
    replace HO651 := kV HO651 hb
    replace BK631 := kb BK631 hb
    replace BK646 := kb BK646 hb
    replace BK647 := kb BK647 hb
    replace HB := kB HB hb
    (try clear hb)
    (try clear hb2)
    (try clear hk)
    (try clear hi)
    (try clear ho0)
    obtain ⟨Ao35, co35, eo35⟩ := Kd.V_slice HO656.out
    (first | subst eo35 | (injection eo35 with f1_ f2_ f3_; have f4_ := f1_.symm; have f5_ := f3_.symm; clear f1_ f2_ f3_; subst f4_; subst f5_))
    refine hK.out _ _ ⟨kc BK631 0, kc BK631 1, kc BK646 0, kc BK646 1, kc BK647 0, kc BK647 1⟩ (fun hHeld => ?_)
    clear hK K
    refine norm_ (a' := ?_) ?_ ?_
    rotate_left
    · show Act.put _ (some 27) _ = _
      simp only [Act.put, List.setIfInBounds_toArray, List.set_cons_zero, List.set_cons_succ, i64_w, i32_w]
      rfl
    refine one_ (i := 9) (N := some 29) #[T, T, T, T, T, T, T, T, T, T, O, O, O] rfl rfl (one_of HT_.out (by kernel_rfl)) (by decide) (fun K hK => ?_)
    refine goes_ Try.func25 (by kernel_rfl) rfl #[.agg #[.bool t653, .slice Ao35 t654.length co35], .agg #[.bool t642, .slice Ao23 t643.length co23]] (by rfl) rfl rfl (by (try simp only [List.map_toArray, List.map_cons, List.map_nil]); first | done | rfl | (simp only [List.length_drop, List.length_take]; rfl)) ?_
    with_reducible refine (cobwebref01_Cmp.calls k t653 _ _ t654 t642 _ _ t643 t657 _ ?side1 ?side2 ?side3 ?side4 A28.out).mono ?_
    (case side1 => repeat (first | exact (Kd.V_reads' HO656.out).2.2 | (with_reducible refine Kd.C_alloc ?_ _) | (with_reducible refine Kd.C_drewN ?_ _) | (with_reducible refine Kd.C_drew ?_)))
    (case side2 => exact (Kd.V_reads' HO656.out).2.1)
    (case side3 => repeat (first | exact (Kd.V_reads' HO645.out).2.2 | (with_reducible refine Kd.C_alloc ?_ _) | (with_reducible refine Kd.C_drewN ?_ _) | (with_reducible refine Kd.C_drew ?_)))
    (case side4 => exact (Kd.V_reads' HO645.out).2.1)
    rintro e w36 ⟨rfl, hb⟩
    refine ⟨_, rfl, ?_⟩
    replace HO637 := kV HO637 hb
    replace HO641 := kV HO641 hb
    replace HO645 := kV HO645 hb
    replace HO651 := kV HO651 hb
    replace HO656 := kV HO656 hb
    replace BK631 := kb BK631 hb
    replace BK646 := kb BK646 hb
    replace BK647 := kb BK647 hb
    replace HB := kB HB hb
    (try clear hb)
    (try clear hb2)
    (try clear hk)
    (try clear hi)
    refine hK.out _ _ ⟨kc BK631 0, kc BK631 1, kc BK646 0, kc BK646 1, kc BK647 0, kc BK647 1⟩ (fun hHeld => ?_)
    clear hK K
    refine norm_ (a' := ?_) ?_ ?_
    rotate_left
    · show Act.put _ (some 29) _ = _
      simp only [Act.put, List.setIfInBounds_toArray, List.set_cons_zero, List.set_cons_succ, i64_w, i32_w]
      rfl
    refine pure_ (i := 10) (N := some 30) (v := ?_) (a' := ?_) #[T, T, T, T, T, T, T, T, T, T, T, O, O] rfl rfl (any_of HT_.out (by kernel_rfl)) (fun _ _ _ h => h) (Or.inl ⟨by rfl, ?_⟩) ?_ ?_; rotate_left; focus (intro w'; go_simp; with_reducible rfl)
    rotate_left; focus (simp only [Act.put, List.setIfInBounds_toArray, List.set_cons_zero, List.set_cons_succ, i64_w, i32_w]; rfl)
    refine pure_ (i := 11) (N := some 31) (v := ?_) (a' := ?_) #[T, T, T, T, T, T, T, T, T, T, T, T, O] rfl rfl (any_of HT_.out (by kernel_rfl)) (fun _ _ _ h => h) (Or.inl ⟨by rfl, ?_⟩) ?_ ?_; rotate_left; focus (intro w'; go_simp; with_reducible rfl)
    rotate_left; focus (simp only [Act.put, List.setIfInBounds_toArray, List.set_cons_zero, List.set_cons_succ, i64_w, i32_w]; rfl)
    refine pure_ (i := 12) (N := some 9) (v := ?_) (a' := ?_) #[T, T, T, T, T, T, T, T, T, T, T, T, T] rfl rfl (any_of HT_.out (by kernel_rfl)) (fun _ _ _ h => h) (Or.inl ⟨by rfl, ?_⟩) ?_ ?_; rotate_left; focus (intro w'; go_simp; with_reducible rfl)
    rotate_left; focus (simp only [Act.put, List.setIfInBounds_toArray, List.set_cons_zero, List.set_cons_succ, i64_w, i32_w]; rfl)
    refine done_ (done_of HT_.out (by kernel_rfl)) ?_
    try go_wp2
    go_meet
    case rel => exact ⟨_, (decide (t657 < 0)), (by first | rfl | (simp; done) | (simp [*]; done)), H', ⟨by first | omega | exact Nat.le_refl _⟩, ⟨by (with_reducible repeat (first | apply Kd.V_alloc | apply Kd.V_drewN | apply Kd.V_drew)); exact HO641.out⟩, ⟨by (with_reducible repeat (first | apply Kd.V_alloc | apply Kd.V_drewN | apply Kd.V_drew)); exact HO645.out⟩, ⟨kx BK631⟩, ⟨kx BK646⟩, ⟨kx BK647⟩, ⟨ky HB⟩⟩
  case rest =>
    clear HC7; try clear c1; try clear c2; try clear p2; try clear c3; try clear c7; try clear c17; try clear c18; try clear c19; try clear c21; try clear c23; try clear c25; try clear c26; try clear c26b0; try clear c30; try clear c31; try clear hcz19_0; try clear hcz19_1; try clear hcz22_0; try clear hcz22_1; try clear hcz9_0; try clear hcz9_1; try clear hfz19_0; try clear hfz19_1; try clear hfz22_0; try clear hfz22_1; try clear hfz9_0; try clear hfz9_1
    obtain ⟨kq, x9_6, rfl, HA, HJ6, HO_647001, HO_648001, BK631, BK646, BK647, HB⟩ := hcut
    cases kq with
    | zero => exact absurd HA.out (by simp [cobweblaw01_WideSmall.j0])
    | succ kj6 =>
      have H := HA.out; clear HA
      simp only [cobweblaw01_WideSmall.j0] at H
      replace H := Option.bind_eq_some_iff.mp H
      obtain ⟨⟨t658, t659⟩, A420, H⟩ := H
      replace H : ((wide_Small.f t658 t659).bind fun bt660 => ((cobweblaw01_alive.f kj6).bind fun t662 => (if t662 = true then (if (t633 == x9_6) = true then (if x9_6 = true then ((cobwebref01_Of.f kj6 t632).bind fun bt663 => ((cobweblaw01_num.f kj6 a0_0 a0_1).bind fun bt667 => ((cobwebref01_Cmp.f kj6 bt663.1 bt663.2 bt667.1 bt667.2).bind fun t671 => (if t671 = 0 then (if bt660.2 = true then (if bt660.1 = a1 then ((wide_Of.f a1).bind fun bt672 => ((cobweblaw01_num.f kj6 bt672.1 bt672.2).bind fun bt674 => ((cobwebref01_Of.f kj6 a1).bind fun bt678 => ((cobwebref01_Cmp.f kj6 bt674.1 bt674.2 bt678.1 bt678.2).bind fun t682 => (some (t682 == 0)))))) else (none)) else (none)) else (none))))) else (if t632 = 0 then (if bt660.2 = true then (if bt660.1 = a1 then ((wide_Of.f a1).bind fun bt683 => ((cobweblaw01_num.f kj6 bt683.1 bt683.2).bind fun bt685 => ((cobwebref01_Of.f kj6 a1).bind fun bt689 => ((cobwebref01_Cmp.f kj6 bt685.1 bt685.2 bt689.1 bt689.2).bind fun t693 => (some (t693 == 0)))))) else (none)) else (none)) else (none))) else (none)) else (none)))) = some r := H
      have A42 := Aside0.mk A420
      clear A420
      replace H := Option.bind_eq_some_iff.mp H
      obtain ⟨⟨t660, t661⟩, A430, H⟩ := H
      replace H : ((cobweblaw01_alive.f kj6).bind fun t662 => (if t662 = true then (if (t633 == x9_6) = true then (if x9_6 = true then ((cobwebref01_Of.f kj6 t632).bind fun bt663 => ((cobweblaw01_num.f kj6 a0_0 a0_1).bind fun bt667 => ((cobwebref01_Cmp.f kj6 bt663.1 bt663.2 bt667.1 bt667.2).bind fun t671 => (if t671 = 0 then (if t661 = true then (if t660 = a1 then ((wide_Of.f a1).bind fun bt672 => ((cobweblaw01_num.f kj6 bt672.1 bt672.2).bind fun bt674 => ((cobwebref01_Of.f kj6 a1).bind fun bt678 => ((cobwebref01_Cmp.f kj6 bt674.1 bt674.2 bt678.1 bt678.2).bind fun t682 => (some (t682 == 0)))))) else (none)) else (none)) else (none))))) else (if t632 = 0 then (if t661 = true then (if t660 = a1 then ((wide_Of.f a1).bind fun bt683 => ((cobweblaw01_num.f kj6 bt683.1 bt683.2).bind fun bt685 => ((cobwebref01_Of.f kj6 a1).bind fun bt689 => ((cobwebref01_Cmp.f kj6 bt685.1 bt685.2 bt689.1 bt689.2).bind fun t693 => (some (t693 == 0)))))) else (none)) else (none)) else (none))) else (none)) else (none))) = some r := H
      have A43 := Aside0.mk A430
      clear A430
      replace H := Option.bind_eq_some_iff.mp H
      obtain ⟨t662, A440, H⟩ := H
      replace H : (if t662 = true then (if (t633 == x9_6) = true then (if x9_6 = true then ((cobwebref01_Of.f kj6 t632).bind fun bt663 => ((cobweblaw01_num.f kj6 a0_0 a0_1).bind fun bt667 => ((cobwebref01_Cmp.f kj6 bt663.1 bt663.2 bt667.1 bt667.2).bind fun t671 => (if t671 = 0 then (if t661 = true then (if t660 = a1 then ((wide_Of.f a1).bind fun bt672 => ((cobweblaw01_num.f kj6 bt672.1 bt672.2).bind fun bt674 => ((cobwebref01_Of.f kj6 a1).bind fun bt678 => ((cobwebref01_Cmp.f kj6 bt674.1 bt674.2 bt678.1 bt678.2).bind fun t682 => (some (t682 == 0)))))) else (none)) else (none)) else (none))))) else (if t632 = 0 then (if t661 = true then (if t660 = a1 then ((wide_Of.f a1).bind fun bt683 => ((cobweblaw01_num.f kj6 bt683.1 bt683.2).bind fun bt685 => ((cobwebref01_Of.f kj6 a1).bind fun bt689 => ((cobwebref01_Cmp.f kj6 bt685.1 bt685.2 bt689.1 bt689.2).bind fun t693 => (some (t693 == 0)))))) else (none)) else (none)) else (none))) else (none)) else (none)) = some r := H
      have A44 := Aside0.mk A440
      clear A440
      by_cases c45 : t662 = true
      rotate_left
      · replace c45 := Bool.eq_false_iff.mpr c45
        subst c45
        have H1 : (none) = some r := by rw [if_neg (show ¬ (false = true) by decide)] at H; exact H
        clear H; have H := H1; clear H1
        exact absurd H (by simp)

      subst c45
      have H1 : (if (t633 == x9_6) = true then (if x9_6 = true then ((cobwebref01_Of.f kj6 t632).bind fun bt663 => ((cobweblaw01_num.f kj6 a0_0 a0_1).bind fun bt667 => ((cobwebref01_Cmp.f kj6 bt663.1 bt663.2 bt667.1 bt667.2).bind fun t671 => (if t671 = 0 then (if t661 = true then (if t660 = a1 then ((wide_Of.f a1).bind fun bt672 => ((cobweblaw01_num.f kj6 bt672.1 bt672.2).bind fun bt674 => ((cobwebref01_Of.f kj6 a1).bind fun bt678 => ((cobwebref01_Cmp.f kj6 bt674.1 bt674.2 bt678.1 bt678.2).bind fun t682 => (some (t682 == 0)))))) else (none)) else (none)) else (none))))) else (if t632 = 0 then (if t661 = true then (if t660 = a1 then ((wide_Of.f a1).bind fun bt683 => ((cobweblaw01_num.f kj6 bt683.1 bt683.2).bind fun bt685 => ((cobwebref01_Of.f kj6 a1).bind fun bt689 => ((cobwebref01_Cmp.f kj6 bt685.1 bt685.2 bt689.1 bt689.2).bind fun t693 => (some (t693 == 0)))))) else (none)) else (none)) else (none))) else (none)) = some r := by rw [if_pos rfl] at H; exact H
      clear H; have H := H1; clear H1
      by_cases c46 : (t633 == x9_6) = true
      rotate_left
      · rw [if_neg c46] at H
        exact absurd H (by simp)
      rw [if_pos c46] at H
      have c46b0 : (t633 == x9_6) = true := c46
      (try (have c46b1 : decide (t633 = x9_6) = true := by simpa using c46))
      (try (have c46b2 : (t633 == x9_6) = true := by simpa using c46))
      clear c46
      by_cases c47 : x9_6 = true
      rotate_left
      · replace c47 := Bool.eq_false_iff.mpr c47
        subst c47
        have H1 : (if t632 = 0 then (if t661 = true then (if t660 = a1 then ((wide_Of.f a1).bind fun bt683 => ((cobweblaw01_num.f kj6 bt683.1 bt683.2).bind fun bt685 => ((cobwebref01_Of.f kj6 a1).bind fun bt689 => ((cobwebref01_Cmp.f kj6 bt685.1 bt685.2 bt689.1 bt689.2).bind fun t693 => (some (t693 == 0)))))) else (none)) else (none)) else (none)) = some r := by rw [if_neg (show ¬ (false = true) by decide)] at H; exact H
        clear H; have H := H1; clear H1
        by_cases c73 : t632 = 0
        rotate_left
        · rw [if_neg c73] at H
          have c73b0 : (t632 == 0) = false := beq_eq_false_iff_ne.mpr c73
          have c73b1 : (t632 != 0) = true := bne_iff_ne.mpr c73
          exact absurd H (by simp)
        rw [if_pos c73] at H
        have c73b0 : (t632 == 0) = true := beq_iff_eq.mpr c73
        have c73b1 : (t632 != 0) = false := bne_eq_false_iff_eq.mpr c73
        clear c73
        by_cases c74 : t661 = true
        rotate_left
        · replace c74 := Bool.eq_false_iff.mpr c74
          subst c74
          have H1 : (none) = some r := by rw [if_neg (show ¬ (false = true) by decide)] at H; exact H
          clear H; have H := H1; clear H1
          exact absurd H (by simp)
        subst c74
        have H1 : (if t660 = a1 then ((wide_Of.f a1).bind fun bt683 => ((cobweblaw01_num.f kj6 bt683.1 bt683.2).bind fun bt685 => ((cobwebref01_Of.f kj6 a1).bind fun bt689 => ((cobwebref01_Cmp.f kj6 bt685.1 bt685.2 bt689.1 bt689.2).bind fun t693 => (some (t693 == 0)))))) else (none)) = some r := by rw [if_pos rfl] at H; exact H
        clear H; have H := H1; clear H1
        by_cases c75 : t660 = a1
        rotate_left
        · rw [if_neg c75] at H
          exact absurd H (by simp)
        rw [if_pos c75] at H
        have c75b0 : (t660 == a1) = true := beq_iff_eq.mpr c75
        have c75b1 : (t660 != a1) = false := bne_eq_false_iff_eq.mpr c75
        clear c75
        replace H := Option.bind_eq_some_iff.mp H
        obtain ⟨⟨t683, t684⟩, A760, H⟩ := H
        replace H : ((cobweblaw01_num.f kj6 t683 t684).bind fun bt685 => ((cobwebref01_Of.f kj6 a1).bind fun bt689 => ((cobwebref01_Cmp.f kj6 bt685.1 bt685.2 bt689.1 bt689.2).bind fun t693 => (some (t693 == 0))))) = some r := H
        have A76 := Aside0.mk A760
        clear A760
        replace H := Option.bind_eq_some_iff.mp H
        obtain ⟨⟨t685, t686⟩, A770, H⟩ := H
        replace H : ((cobwebref01_Of.f kj6 a1).bind fun bt689 => ((cobwebref01_Cmp.f kj6 t685 t686 bt689.1 bt689.2).bind fun t693 => (some (t693 == 0)))) = some r := H
        have A77 := Aside0.mk A770
        clear A770
        replace H := Option.bind_eq_some_iff.mp H
        obtain ⟨⟨t689, t690⟩, A780, H⟩ := H
        replace H : ((cobwebref01_Cmp.f kj6 t685 t686 t689 t690).bind fun t693 => (some (t693 == 0))) = some r := H
        have A78 := Aside0.mk A780
        clear A780
        replace H := Option.bind_eq_some_iff.mp H
        obtain ⟨t693, A790, H⟩ := H
        replace H : (some (t693 == 0)) = some r := H
        have A79 := Aside0.mk A790
        clear A790
        obtain rfl := Option.some.inj H
        try go_wp2_with (first | ((with_reducible refine gate_callee (f := 32) rfl ?_); refine goesL_ (some 34) rfl rfl Try.func32 (by kernel_rfl) rfl #[.int .i64 a1] rfl (by (try simp only [List.map_toArray, List.map_cons, List.map_nil]); first | done | rfl | (simp only [List.length_drop, List.length_take]; rfl)) ?_; (with_reducible refine (wide_Of.calls a1 t658 t659 _ A42.out).mono ?_); rintro e w80 ⟨rfl, hb⟩; refine ⟨_, rfl, ?_⟩; replace HO_647001 := kV HO_647001 hb; replace HO_648001 := kV HO_648001 hb; replace BK631 := kb BK631 hb; replace BK646 := kb BK646 hb; replace BK647 := kb BK647 hb; replace HB := kB HB hb; (try clear hb); (try clear hb2); (try clear hk); (try clear hi)) | ((with_reducible refine gate_callee (f := 30) rfl ?_); refine goesL_ (some 35) rfl rfl Try.func30 (by kernel_rfl) rfl #[.agg #[.int .i64 t658, .int .u64 t659]] rfl (by (try simp only [List.map_toArray, List.map_cons, List.map_nil]); first | done | rfl | (simp only [List.length_drop, List.length_take]; rfl)) ?_; (with_reducible refine (wide_Small.calls t658 t659 t660 true _ A43.out).mono ?_); rintro e w81 ⟨rfl, hb⟩; refine ⟨_, rfl, ?_⟩; replace HO_647001 := kV HO_647001 hb; replace HO_648001 := kV HO_648001 hb; replace BK631 := kb BK631 hb; replace BK646 := kb BK646 hb; replace BK647 := kb BK647 hb; replace HB := kB HB hb; (try clear hb); (try clear hb2); (try clear hk); (try clear hi)))
        replace HO_647001 := Aside0.mk (Kd.V_drew HO_647001.out)
        replace HO_648001 := Aside0.mk (Kd.V_drew HO_648001.out)
        replace BK631 := Aside0.mk (blk_drew BK631.out)
        replace BK646 := Aside0.mk (blk_drew BK646.out)
        replace BK647 := Aside0.mk (blk_drew BK647.out)
        replace HB := Aside0.mk (below_drew1 HB.out)
        refine start_ (n := 43) (S := fun w' => True) (ds := []) #[O, O, O, O, O, O, O, O, O, O, O, O, O, O, O, O, O, O, O, O, O, O, O, O, O, O, O, O, O, O, O, O, O, O, O, O, O, O, O, O, O, O, O] (by kernel_rfl) rfl rfl trivial (fun hHeld => ?_); refine with_tabW cobweblaw01_WideSmall.tab5 cobweblaw01_WideSmall.bits5 (fun HT_ HW_ => ?_)
        generalize w81.drew = w82 at HO_647001 HO_648001 BK631 BK646 BK647 HB hHeld ⊢
        refine one_ (i := 0) (N := some 38) #[T, O, O, O, O, O, O, O, O, O, O, O, O, O, O, O, O, O, O, O, O, O, O, O, O, O, O, O, O, O, O, O, O, O, O, O, O, O, O, O, O, O, O] rfl rfl (one_of HT_.out (by kernel_rfl)) (by decide) (fun K hK => ?_)
        refine goes_ Try.func16 (by kernel_rfl) rfl #[] (by rfl) rfl rfl (by (try simp only [List.map_toArray, List.map_cons, List.map_nil]); first | done | rfl | (simp only [List.length_drop, List.length_take]; rfl)) ?_
        with_reducible refine (cobweblaw01_alive.calls kj6  true _ A44.out).mono ?_
        rintro e w83 ⟨rfl, hb⟩
        refine ⟨_, rfl, ?_⟩
        replace HO_647001 := kV HO_647001 hb
        replace HO_648001 := kV HO_648001 hb
        replace BK631 := kb BK631 hb
        replace BK646 := kb BK646 hb
        replace BK647 := kb BK647 hb
        replace HB := kB HB hb
        (try clear hb)
        (try clear hb2)
        (try clear hk)
        (try clear hi)
        refine hK.out _ _ trivial (fun hHeld => ?_)
        clear hK K
        refine norm_ (a' := ?_) ?_ ?_
        rotate_left
        · show Act.put _ (some 38) _ = _
          simp only [Act.put, List.setIfInBounds_toArray, List.set_cons_zero, List.set_cons_succ, i64_w, i32_w]
          rfl
        refine pure_ (i := 1) (N := some 39) (v := ?_) (a' := ?_) #[T, T, O, O, O, O, O, O, O, O, O, O, O, O, O, O, O, O, O, O, O, O, O, O, O, O, O, O, O, O, O, O, O, O, O, O, O, O, O, O, O, O, O] rfl rfl (any_of HT_.out (by kernel_rfl)) (fun _ _ _ h => h) (Or.inl ⟨by rfl, ?_⟩) ?_ ?_; rotate_left; focus (intro w'; go_simp; with_reducible rfl)
        rotate_left; focus (simp only [Act.put, List.setIfInBounds_toArray, List.set_cons_zero, List.set_cons_succ, i64_w, i32_w]; rfl)
        refine pure_ (i := 2) (N := some 40) (v := ?_) (a' := ?_) #[T, T, T, O, O, O, O, O, O, O, O, O, O, O, O, O, O, O, O, O, O, O, O, O, O, O, O, O, O, O, O, O, O, O, O, O, O, O, O, O, O, O, O] rfl rfl (any_of HT_.out (by kernel_rfl)) (fun _ _ _ h => h) (Or.inl ⟨by rfl, ?_⟩) ?_ ?_; rotate_left; focus (intro w'; go_simp; with_reducible rfl)
        rotate_left; focus (simp only [Act.put, List.setIfInBounds_toArray, List.set_cons_zero, List.set_cons_succ, i64_w, i32_w]; rfl)
        refine pure_ (i := 3) (N := some 41) (v := ?_) (a' := ?_) #[T, T, T, T, O, O, O, O, O, O, O, O, O, O, O, O, O, O, O, O, O, O, O, O, O, O, O, O, O, O, O, O, O, O, O, O, O, O, O, O, O, O, O] rfl rfl (any_of HT_.out (by kernel_rfl)) (fun _ _ _ h => h) (Or.inl ⟨by rfl, ?_⟩) ?_ ?_; rotate_left; focus (intro w'; go_simp; with_reducible rfl)
        rotate_left; focus (simp only [Act.put, List.setIfInBounds_toArray, List.set_cons_zero, List.set_cons_succ, i64_w, i32_w]; rfl)
        refine pure_ (i := 4) (N := some 42) (v := ?_) (a' := ?_) #[T, T, T, T, T, O, O, O, O, O, O, O, O, O, O, O, O, O, O, O, O, O, O, O, O, O, O, O, O, O, O, O, O, O, O, O, O, O, O, O, O, O, O] rfl rfl (any_of HT_.out (by kernel_rfl)) (fun _ _ _ h => h) (Or.inl ⟨by rfl, ?_⟩) ?_ ?_; rotate_left; focus (intro w'; go_simp; with_reducible rfl)
        rotate_left; focus (simp only [Act.put, List.setIfInBounds_toArray, List.set_cons_zero, List.set_cons_succ, i64_w, i32_w]; rfl)
        refine pure_ (i := 5) (N := some 43) (v := ?_) (a' := ?_) #[T, T, T, T, T, T, O, O, O, O, O, O, O, O, O, O, O, O, O, O, O, O, O, O, O, O, O, O, O, O, O, O, O, O, O, O, O, O, O, O, O, O, O] rfl rfl (any_of HT_.out (by kernel_rfl)) (fun _ _ _ h => h) (Or.inl ⟨by rfl, ?_⟩) ?_ ?_; rotate_left; focus (intro w'; go_simp; with_reducible rfl)
        rotate_left; focus (simp only [Act.put, List.setIfInBounds_toArray, List.set_cons_zero, List.set_cons_succ, i64_w, i32_w]; rfl)
        refine pure_ (i := 6) (N := some 44) (v := ?_) (a' := ?_) #[T, T, T, T, T, T, T, O, O, O, O, O, O, O, O, O, O, O, O, O, O, O, O, O, O, O, O, O, O, O, O, O, O, O, O, O, O, O, O, O, O, O, O] rfl rfl (any_of HT_.out (by kernel_rfl)) (fun _ _ _ h => h) (Or.inl ⟨by rfl, ?_⟩) ?_ ?_; rotate_left; focus (intro w'; go_simp; with_reducible rfl)
        rotate_left; focus (simp only [Act.put, List.setIfInBounds_toArray, List.set_cons_zero, List.set_cons_succ, i64_w, i32_w]; rfl)
        refine pure_ (i := 7) (N := some 45) (v := ?_) (a' := ?_) #[T, T, T, T, T, T, T, T, O, O, O, O, O, O, O, O, O, O, O, O, O, O, O, O, O, O, O, O, O, O, O, O, O, O, O, O, O, O, O, O, O, O, O] rfl rfl (any_of HT_.out (by kernel_rfl)) (fun _ _ _ h => h) (Or.inl ⟨by rfl, ?_⟩) ?_ ?_; rotate_left; focus (intro w'; go_simp; with_reducible rfl)
        rotate_left; focus (simp only [Act.put, List.setIfInBounds_toArray, List.set_cons_zero, List.set_cons_succ, i64_w, i32_w]; rfl)
        refine pure_ (i := 8) (N := some 46) (v := ?_) (a' := ?_) #[T, T, T, T, T, T, T, T, T, O, O, O, O, O, O, O, O, O, O, O, O, O, O, O, O, O, O, O, O, O, O, O, O, O, O, O, O, O, O, O, O, O, O] rfl rfl (any_of HT_.out (by kernel_rfl)) (fun _ _ _ h => h) (Or.inl ⟨by rfl, ?_⟩) ?_ ?_; rotate_left; focus (intro w'; go_simp; with_reducible rfl)
        rotate_left; focus (simp only [Act.put, List.setIfInBounds_toArray, List.set_cons_zero, List.set_cons_succ, i64_w, i32_w]; rfl)
        refine pure_ (i := 9) (N := some 47) (v := ?_) (a' := ?_) #[T, T, T, T, T, T, T, T, T, T, O, O, O, O, O, O, O, O, O, O, O, O, O, O, O, O, O, O, O, O, O, O, O, O, O, O, O, O, O, O, O, O, O] rfl rfl (any_of HT_.out (by kernel_rfl)) (fun _ _ _ h => h) (Or.inl ⟨by rfl, ?_⟩) ?_ ?_; rotate_left; focus (intro w'; go_simp; with_reducible rfl)
        rotate_left; focus (simp only [Act.put, List.setIfInBounds_toArray, List.set_cons_zero, List.set_cons_succ, i64_w, i32_w]; rfl)
        refine pure_ (i := 10) (N := some 48) (v := ?_) (a' := ?_) #[T, T, T, T, T, T, T, T, T, T, T, O, O, O, O, O, O, O, O, O, O, O, O, O, O, O, O, O, O, O, O, O, O, O, O, O, O, O, O, O, O, O, O] rfl rfl (any_of HT_.out (by kernel_rfl)) (fun _ _ _ h => h) (Or.inl ⟨by rfl, ?_⟩) ?_ ?_; rotate_left; focus (intro w'; go_simp; with_reducible rfl)
        rotate_left; focus (simp only [Act.put, List.setIfInBounds_toArray, List.set_cons_zero, List.set_cons_succ, i64_w, i32_w]; rfl)
        refine pure_ (i := 11) (N := some 49) (v := ?_) (a' := ?_) #[T, T, T, T, T, T, T, T, T, T, T, T, O, O, O, O, O, O, O, O, O, O, O, O, O, O, O, O, O, O, O, O, O, O, O, O, O, O, O, O, O, O, O] rfl rfl (any_of HT_.out (by kernel_rfl)) (fun _ _ _ h => h) (Or.inl ⟨by rfl, ?_⟩) ?_ ?_; rotate_left; focus (intro w'; go_simp; with_reducible rfl)
        rotate_left; focus (simp only [Act.put, List.setIfInBounds_toArray, List.set_cons_zero, List.set_cons_succ, i64_w, i32_w]; rfl)
        refine pure_ (i := 12) (N := some 50) (v := ?_) (a' := ?_) #[T, T, T, T, T, T, T, T, T, T, T, T, T, O, O, O, O, O, O, O, O, O, O, O, O, O, O, O, O, O, O, O, O, O, O, O, O, O, O, O, O, O, O] rfl rfl (any_of HT_.out (by kernel_rfl)) (fun _ _ _ h => h) (Or.inl ⟨by rfl, ?_⟩) ?_ ?_; rotate_left; focus (intro w'; go_simp; with_reducible rfl)
        rotate_left; focus (simp only [Act.put, List.setIfInBounds_toArray, List.set_cons_zero, List.set_cons_succ, i64_w, i32_w]; rfl)
        refine pure_ (i := 13) (N := some 51) (v := ?_) (a' := ?_) #[T, T, T, T, T, T, T, T, T, T, T, T, T, T, O, O, O, O, O, O, O, O, O, O, O, O, O, O, O, O, O, O, O, O, O, O, O, O, O, O, O, O, O] rfl rfl (any_of HT_.out (by kernel_rfl)) (fun _ _ _ h => h) (Or.inl ⟨by rfl, ?_⟩) ?_ ?_; rotate_left; focus (intro w'; go_simp; with_reducible rfl)
        rotate_left; focus (simp only [Act.put, List.setIfInBounds_toArray, List.set_cons_zero, List.set_cons_succ, i64_w, i32_w]; rfl)
        refine pure_ (i := 14) (N := some 52) (v := undef) (a' := ?_) #[T, T, T, T, T, T, T, T, T, T, T, T, T, T, T, O, O, O, O, O, O, O, O, O, O, O, O, O, O, O, O, O, O, O, O, O, O, O, O, O, O, O, O] rfl rfl (any_of HT_.out (by kernel_rfl)) (fun _ _ _ h => h) (Or.inr ⟨by rfl, rfl⟩) ?_ ?_
        rotate_left
        · simp only [Act.put, List.setIfInBounds_toArray, List.set_cons_zero, List.set_cons_succ, i64_w, i32_w]
          rfl
        refine pure_ (i := 15) (N := some 53) (v := undef) (a' := ?_) #[T, T, T, T, T, T, T, T, T, T, T, T, T, T, T, T, O, O, O, O, O, O, O, O, O, O, O, O, O, O, O, O, O, O, O, O, O, O, O, O, O, O, O] rfl rfl (any_of HT_.out (by kernel_rfl)) (fun _ _ _ h => h) (Or.inr ⟨by rfl, rfl⟩) ?_ ?_
        rotate_left
        · simp only [Act.put, List.setIfInBounds_toArray, List.set_cons_zero, List.set_cons_succ, i64_w, i32_w]
          rfl
        refine pure_ (i := 16) (N := some 54) (v := undef) (a' := ?_) #[T, T, T, T, T, T, T, T, T, T, T, T, T, T, T, T, T, O, O, O, O, O, O, O, O, O, O, O, O, O, O, O, O, O, O, O, O, O, O, O, O, O, O] rfl rfl (any_of HT_.out (by kernel_rfl)) (fun _ _ _ h => h) (Or.inr ⟨by rfl, rfl⟩) ?_ ?_
        rotate_left
        · simp only [Act.put, List.setIfInBounds_toArray, List.set_cons_zero, List.set_cons_succ, i64_w, i32_w]
          rfl
        refine pure_ (i := 17) (N := some 55) (v := undef) (a' := ?_) #[T, T, T, T, T, T, T, T, T, T, T, T, T, T, T, T, T, T, O, O, O, O, O, O, O, O, O, O, O, O, O, O, O, O, O, O, O, O, O, O, O, O, O] rfl rfl (any_of HT_.out (by kernel_rfl)) (fun _ _ _ h => h) (Or.inr ⟨by rfl, rfl⟩) ?_ ?_
        rotate_left
        · simp only [Act.put, List.setIfInBounds_toArray, List.set_cons_zero, List.set_cons_succ, i64_w, i32_w]
          rfl
        refine pure_ (i := 18) (N := some 56) (v := undef) (a' := ?_) #[T, T, T, T, T, T, T, T, T, T, T, T, T, T, T, T, T, T, T, O, O, O, O, O, O, O, O, O, O, O, O, O, O, O, O, O, O, O, O, O, O, O, O] rfl rfl (any_of HT_.out (by kernel_rfl)) (fun _ _ _ h => h) (Or.inr ⟨by rfl, rfl⟩) ?_ ?_
        rotate_left
        · simp only [Act.put, List.setIfInBounds_toArray, List.set_cons_zero, List.set_cons_succ, i64_w, i32_w]
          rfl
        refine pure_ (i := 19) (N := some 57) (v := undef) (a' := ?_) #[T, T, T, T, T, T, T, T, T, T, T, T, T, T, T, T, T, T, T, T, O, O, O, O, O, O, O, O, O, O, O, O, O, O, O, O, O, O, O, O, O, O, O] rfl rfl (any_of HT_.out (by kernel_rfl)) (fun _ _ _ h => h) (Or.inr ⟨by rfl, rfl⟩) ?_ ?_
        rotate_left
        · simp only [Act.put, List.setIfInBounds_toArray, List.set_cons_zero, List.set_cons_succ, i64_w, i32_w]
          rfl
        refine pure_ (i := 20) (N := some 58) (v := undef) (a' := ?_) #[T, T, T, T, T, T, T, T, T, T, T, T, T, T, T, T, T, T, T, T, T, O, O, O, O, O, O, O, O, O, O, O, O, O, O, O, O, O, O, O, O, O, O] rfl rfl (any_of HT_.out (by kernel_rfl)) (fun _ _ _ h => h) (Or.inr ⟨by rfl, rfl⟩) ?_ ?_
        rotate_left
        · simp only [Act.put, List.setIfInBounds_toArray, List.set_cons_zero, List.set_cons_succ, i64_w, i32_w]
          rfl
        refine pure_ (i := 21) (N := some 59) (v := undef) (a' := ?_) #[T, T, T, T, T, T, T, T, T, T, T, T, T, T, T, T, T, T, T, T, T, T, O, O, O, O, O, O, O, O, O, O, O, O, O, O, O, O, O, O, O, O, O] rfl rfl (any_of HT_.out (by kernel_rfl)) (fun _ _ _ h => h) (Or.inr ⟨by rfl, rfl⟩) ?_ ?_
        rotate_left
        · simp only [Act.put, List.setIfInBounds_toArray, List.set_cons_zero, List.set_cons_succ, i64_w, i32_w]
          rfl
        refine pure_ (i := 22) (N := some 60) (v := undef) (a' := ?_) #[T, T, T, T, T, T, T, T, T, T, T, T, T, T, T, T, T, T, T, T, T, T, T, O, O, O, O, O, O, O, O, O, O, O, O, O, O, O, O, O, O, O, O] rfl rfl (any_of HT_.out (by kernel_rfl)) (fun _ _ _ h => h) (Or.inr ⟨by rfl, rfl⟩) ?_ ?_
        rotate_left
        · simp only [Act.put, List.setIfInBounds_toArray, List.set_cons_zero, List.set_cons_succ, i64_w, i32_w]
          rfl
        refine pure_ (i := 23) (N := some 61) (v := ?_) (a' := ?_) #[T, T, T, T, T, T, T, T, T, T, T, T, T, T, T, T, T, T, T, T, T, T, T, T, O, O, O, O, O, O, O, O, O, O, O, O, O, O, O, O, O, O, O] rfl rfl (any_of HT_.out (by kernel_rfl)) (fun _ _ _ h => h) (Or.inl ⟨by rfl, ?_⟩) ?_ ?_; rotate_left; focus (intro w'; go_simp; with_reducible rfl)
        rotate_left; focus (simp only [Act.put, List.setIfInBounds_toArray, List.set_cons_zero, List.set_cons_succ, i64_w, i32_w]; rfl)
        refine pure_ (i := 24) (N := some 62) (v := ?_) (a' := ?_) #[T, T, T, T, T, T, T, T, T, T, T, T, T, T, T, T, T, T, T, T, T, T, T, T, T, O, O, O, O, O, O, O, O, O, O, O, O, O, O, O, O, O, O] rfl rfl (any_of HT_.out (by kernel_rfl)) (fun _ _ _ h => h) (Or.inl ⟨by rfl, ?_⟩) ?_ ?_; rotate_left; focus (intro w'; go_simp; with_reducible rfl)
        rotate_left; focus (simp only [Act.put, List.setIfInBounds_toArray, List.set_cons_zero, List.set_cons_succ, i64_w, i32_w]; rfl)
        refine pure_ (i := 25) (N := some 63) (v := ?_) (a' := ?_) #[T, T, T, T, T, T, T, T, T, T, T, T, T, T, T, T, T, T, T, T, T, T, T, T, T, T, O, O, O, O, O, O, O, O, O, O, O, O, O, O, O, O, O] rfl rfl (any_of HT_.out (by kernel_rfl)) (fun _ _ _ h => h) (Or.inl ⟨by rfl, ?_⟩) ?_ ?_; rotate_left; focus (intro w'; go_simp; with_reducible rfl)
        rotate_left; focus (simp only [Act.put, List.setIfInBounds_toArray, List.set_cons_zero, List.set_cons_succ, i64_w, i32_w]; rfl)
        refine pure_ (i := 26) (N := some 64) (v := ?_) (a' := ?_) #[T, T, T, T, T, T, T, T, T, T, T, T, T, T, T, T, T, T, T, T, T, T, T, T, T, T, T, O, O, O, O, O, O, O, O, O, O, O, O, O, O, O, O] rfl rfl (any_of HT_.out (by kernel_rfl)) (fun _ _ _ h => h) (Or.inl ⟨by rfl, ?_⟩) ?_ ?_; rotate_left; focus (intro w'; go_simp; with_reducible rfl)
        rotate_left; focus (simp only [Act.put, List.setIfInBounds_toArray, List.set_cons_zero, List.set_cons_succ, i64_w, i32_w]; rfl)
        refine pure_ (i := 27) (N := some 65) (v := ?_) (a' := ?_) #[T, T, T, T, T, T, T, T, T, T, T, T, T, T, T, T, T, T, T, T, T, T, T, T, T, T, T, T, O, O, O, O, O, O, O, O, O, O, O, O, O, O, O] rfl rfl (any_of HT_.out (by kernel_rfl)) (fun _ _ _ h => h) (Or.inl ⟨by rfl, ?_⟩) ?_ ?_; rotate_left; focus (intro w'; go_simp; with_reducible rfl)
        rotate_left; focus (simp only [Act.put, List.setIfInBounds_toArray, List.set_cons_zero, List.set_cons_succ, i64_w, i32_w]; rfl)
        refine pure_ (i := 28) (N := some 66) (v := ?_) (a' := ?_) #[T, T, T, T, T, T, T, T, T, T, T, T, T, T, T, T, T, T, T, T, T, T, T, T, T, T, T, T, T, O, O, O, O, O, O, O, O, O, O, O, O, O, O] rfl rfl (any_of HT_.out (by kernel_rfl)) (fun _ _ _ h => h) (Or.inl ⟨by rfl, ?_⟩) ?_ ?_; rotate_left; focus (intro w'; go_simp; with_reducible rfl)
        rotate_left; focus (simp only [Act.put, List.setIfInBounds_toArray, List.set_cons_zero, List.set_cons_succ, i64_w, i32_w]; rfl)
        refine pure_ (i := 29) (N := some 67) (v := ?_) (a' := ?_) #[T, T, T, T, T, T, T, T, T, T, T, T, T, T, T, T, T, T, T, T, T, T, T, T, T, T, T, T, T, T, O, O, O, O, O, O, O, O, O, O, O, O, O] rfl rfl (any_of HT_.out (by kernel_rfl)) (fun _ _ _ h => h) (Or.inl ⟨by rfl, ?_⟩) ?_ ?_; rotate_left; focus (intro w'; go_simp; with_reducible rfl)
        rotate_left; focus (simp only [Act.put, List.setIfInBounds_toArray, List.set_cons_zero, List.set_cons_succ, i64_w, i32_w]; rfl)
        refine pure_ (i := 30) (N := some 68) (v := ?_) (a' := ?_) #[T, T, T, T, T, T, T, T, T, T, T, T, T, T, T, T, T, T, T, T, T, T, T, T, T, T, T, T, T, T, T, O, O, O, O, O, O, O, O, O, O, O, O] rfl rfl (any_of HT_.out (by kernel_rfl)) (fun _ _ _ h => h) (Or.inl ⟨by rfl, ?_⟩) ?_ ?_; rotate_left; focus (intro w'; go_simp; with_reducible rfl)
        rotate_left; focus (simp only [Act.put, List.setIfInBounds_toArray, List.set_cons_zero, List.set_cons_succ, i64_w, i32_w]; rfl)
        refine pure_ (i := 31) (N := some 69) (v := ?_) (a' := ?_) #[T, T, T, T, T, T, T, T, T, T, T, T, T, T, T, T, T, T, T, T, T, T, T, T, T, T, T, T, T, T, T, T, O, O, O, O, O, O, O, O, O, O, O] rfl rfl (any_of HT_.out (by kernel_rfl)) (fun _ _ _ h => h) (Or.inl ⟨by rfl, ?_⟩) ?_ ?_; rotate_left; focus (intro w'; go_simp; with_reducible rfl)
        rotate_left; focus (simp only [Act.put, List.setIfInBounds_toArray, List.set_cons_zero, List.set_cons_succ, i64_w, i32_w]; rfl)
        refine pure_ (i := 32) (N := some 70) (v := ?_) (a' := ?_) #[T, T, T, T, T, T, T, T, T, T, T, T, T, T, T, T, T, T, T, T, T, T, T, T, T, T, T, T, T, T, T, T, T, O, O, O, O, O, O, O, O, O, O] rfl rfl (any_of HT_.out (by kernel_rfl)) (fun _ _ _ h => h) (Or.inl ⟨by rfl, ?_⟩) ?_ ?_; rotate_left; focus (intro w'; go_simp; with_reducible rfl)
        rotate_left; focus (simp only [Act.put, List.setIfInBounds_toArray, List.set_cons_zero, List.set_cons_succ, i64_w, i32_w]; rfl)
        refine pure_ (i := 33) (N := some 71) (v := ?_) (a' := ?_) #[T, T, T, T, T, T, T, T, T, T, T, T, T, T, T, T, T, T, T, T, T, T, T, T, T, T, T, T, T, T, T, T, T, T, O, O, O, O, O, O, O, O, O] rfl rfl (any_of HT_.out (by kernel_rfl)) (fun _ _ _ h => h) (Or.inl ⟨by rfl, ?_⟩) ?_ ?_; rotate_left; focus (intro w'; go_simp; with_reducible rfl)
        rotate_left; focus (simp only [Act.put, List.setIfInBounds_toArray, List.set_cons_zero, List.set_cons_succ, i64_w, i32_w]; rfl)
        refine pure_ (i := 34) (N := some 72) (v := ?_) (a' := ?_) #[T, T, T, T, T, T, T, T, T, T, T, T, T, T, T, T, T, T, T, T, T, T, T, T, T, T, T, T, T, T, T, T, T, T, T, O, O, O, O, O, O, O, O] rfl rfl (any_of HT_.out (by kernel_rfl)) (fun _ _ _ h => h) (Or.inl ⟨by rfl, ?_⟩) ?_ ?_; rotate_left; focus (intro w'; go_simp; with_reducible rfl)
        rotate_left; focus (simp only [Act.put, List.setIfInBounds_toArray, List.set_cons_zero, List.set_cons_succ, i64_w, i32_w]; rfl)
        refine pure_ (i := 37) (N := some 75) (v := ?_) (a' := ?_) #[T, T, T, T, T, T, T, T, T, T, T, T, T, T, T, T, T, T, T, T, T, T, T, T, T, T, T, T, T, T, T, T, T, T, T, O, O, T, O, O, O, O, O] rfl rfl (any_of HT_.out (by kernel_rfl)) (fun _ _ _ h => h) (Or.inl ⟨by rfl, ?_⟩) ?_ ?_; rotate_left; focus (intro w'; go_simp; with_reducible rfl)
        rotate_left; focus (simp only [Act.put, List.setIfInBounds_toArray, List.set_cons_zero, List.set_cons_succ, i64_w, i32_w]; rfl)
        refine one_ (i := 35) (N := some 73) #[T, T, T, T, T, T, T, T, T, T, T, T, T, T, T, T, T, T, T, T, T, T, T, T, T, T, T, T, T, T, T, T, T, T, T, T, O, T, O, O, O, O, O] rfl rfl (one_of HT_.out (by kernel_rfl)) (by decide) (fun K hK => ?_)
        refine goes_ Try.func32 (by kernel_rfl) rfl #[.int .i64 a1] (by rfl) rfl rfl (by (try simp only [List.map_toArray, List.map_cons, List.map_nil]); first | done | rfl | (simp only [List.length_drop, List.length_take]; rfl)) ?_
        with_reducible refine (wide_Of.calls a1 t683 t684 _ A76.out).mono ?_
        rintro e w84 ⟨rfl, hb⟩
        refine ⟨_, rfl, ?_⟩
        replace HO_647001 := kV HO_647001 hb
        replace HO_648001 := kV HO_648001 hb
        replace BK631 := kb BK631 hb
        replace BK646 := kb BK646 hb
        replace BK647 := kb BK647 hb
        replace HB := kB HB hb
        (try clear hb)
        (try clear hb2)
        (try clear hk)
        (try clear hi)
        refine hK.out _ _ trivial (fun hHeld => ?_)
        clear hK K
        refine norm_ (a' := ?_) ?_ ?_
        rotate_left
        · show Act.put _ (some 73) _ = _
          simp only [Act.put, List.setIfInBounds_toArray, List.set_cons_zero, List.set_cons_succ, i64_w, i32_w]
          rfl
        refine one_ (i := 36) (N := some 74) #[T, T, T, T, T, T, T, T, T, T, T, T, T, T, T, T, T, T, T, T, T, T, T, T, T, T, T, T, T, T, T, T, T, T, T, T, T, T, O, O, O, O, O] rfl rfl (one_of HT_.out (by kernel_rfl)) (by decide) (fun K hK => ?_)
        refine goes_ Try.func19 (by kernel_rfl) rfl #[.agg #[.int .i64 t683, .int .u64 t684]] (by rfl) rfl rfl (by (try simp only [List.map_toArray, List.map_cons, List.map_nil]); first | done | rfl | (simp only [List.length_drop, List.length_take]; rfl)) ?_
        with_reducible refine (cobweblaw01_num.calls kj6 t683 t684 t685 t686 _ A77.out).mono ?_
        rintro e w85 ⟨v687, rfl, ho0, hb⟩
        refine ⟨_, rfl, ?_⟩
        have HO688 := Aside0.mk (Kd.V_lower (Kd.V_mono (ok' := fun k_ => k_ ≠ gb631 ∧ k_ ≠ gb646 ∧ k_ ≠ gb647) ho0 (fun k_ hk_ => ⟨(Kd.freshB (g := gb631) (o := .cells #[.int .i64 a0_0, .int .u64 a0_1] 24 (0, 0)) (kx BK631) k_ hk_), (Kd.freshB (g := gb646) (o := .cells #[.bool t638, .slice Ao20 t639.length co20] 32 (0, 0)) (kx BK646) k_ hk_), (Kd.freshB (g := gb647) (o := .cells #[.bool t642, .slice Ao23 t643.length co23] 32 (0, 0)) (kx BK647) k_ hk_)⟩)) (below_size (ky HB)))
        replace HO_647001 := kV HO_647001 hb
        replace HO_648001 := kV HO_648001 hb
        replace BK631 := kb BK631 hb
        replace BK646 := kb BK646 hb
        replace BK647 := kb BK647 hb
        replace HB := kB HB hb
        (try clear hb)
        (try clear hb2)
        (try clear hk)
        (try clear hi)
        (try clear ho0)
        refine hK.out _ _ trivial (fun hHeld => ?_)
        clear hK K
        refine norm_ (a' := ?_) ?_ ?_
        rotate_left
        · show Act.put _ (some 74) _ = _
          simp only [Act.put, List.setIfInBounds_toArray, List.set_cons_zero, List.set_cons_succ, i64_w, i32_w]
          rfl
        refine one_ (i := 38) (N := some 76) #[T, T, T, T, T, T, T, T, T, T, T, T, T, T, T, T, T, T, T, T, T, T, T, T, T, T, T, T, T, T, T, T, T, T, T, T, T, T, T, O, O, O, O] rfl rfl (one_of HT_.out (by kernel_rfl)) (by decide) (fun K hK => ?_)
        refine goes_ Try.func21 (by kernel_rfl) rfl #[.int .i64 a1] (by rfl) rfl rfl (by (try simp only [List.map_toArray, List.map_cons, List.map_nil]); first | done | rfl | (simp only [List.length_drop, List.length_take]; rfl)) ?_
        with_reducible refine (cobwebref01_Of.calls kj6 a1 t689 t690 _ A78.out).mono ?_
        rintro e w86 ⟨v691, rfl, ho0, hb⟩
        refine ⟨_, rfl, ?_⟩
        have n0_ := Aside0.mk (Kd.V_elder' (kv HO_647001) (Kd.R_base ho0) hb)
        have n1_ := Aside0.mk (Kd.V_elder' (kv HO_648001) (Kd.R_base ho0) hb)
        have n2_ := Aside0.mk (Kd.V_elder' (kv HO688) (Kd.R_base ho0) hb)
        have n3_ := Aside0.mk (Kd.R_lower ho0 (below_size (ky HB)))
        have n4_ := kb BK631 hb
        have n5_ := kb BK646 hb
        have n6_ := kb BK647 hb
        have n7_ := kB HB hb
        clear HO_647001; clear HO_648001; clear HO688; clear BK631; clear BK646; clear BK647; clear HB; have HO_647001 := n0_; have HO_648001 := n1_; have HO688 := n2_; have HO692 := n3_; have BK631 := n4_; have BK646 := n5_; have BK647 := n6_; have HB := n7_
        clear n0_ n1_ n2_ n3_ n4_ n5_ n6_ n7_
        (try clear hb)
        (try clear hb2)
        (try clear hk)
        (try clear hi)
        (try clear ho0)
        obtain ⟨Ao87, co87, eo87⟩ := Kd.V_slice HO688.out
        (first | subst eo87 | (injection eo87 with f1_ f2_ f3_; have f4_ := f1_.symm; have f5_ := f3_.symm; clear f1_ f2_ f3_; subst f4_; subst f5_))
        obtain ⟨Ao88, co88, eo88⟩ := Kd.R_slice HO692.out
        (first | subst eo88 | (injection eo88 with f1_ f2_ f3_; have f4_ := f1_.symm; have f5_ := f3_.symm; clear f1_ f2_ f3_; subst f4_; subst f5_))
        refine hK.out _ _ trivial (fun hHeld => ?_)
        clear hK K
        refine norm_ (a' := ?_) ?_ ?_
        rotate_left
        · show Act.put _ (some 76) _ = _
          simp only [Act.put, List.setIfInBounds_toArray, List.set_cons_zero, List.set_cons_succ, i64_w, i32_w]
          rfl
        refine one_ (i := 39) (N := some 77) #[T, T, T, T, T, T, T, T, T, T, T, T, T, T, T, T, T, T, T, T, T, T, T, T, T, T, T, T, T, T, T, T, T, T, T, T, T, T, T, T, O, O, O] rfl rfl (one_of HT_.out (by kernel_rfl)) (by decide) (fun K hK => ?_)
        refine goes_ Try.func25 (by kernel_rfl) rfl #[.agg #[.bool t685, .slice Ao87 t686.length co87], .agg #[.bool t689, .slice Ao88 t690.length co88]] (by rfl) rfl rfl (by (try simp only [List.map_toArray, List.map_cons, List.map_nil]); first | done | rfl | (simp only [List.length_drop, List.length_take]; rfl)) ?_
        with_reducible refine (cobwebref01_Cmp.calls kj6 t685 _ _ t686 t689 _ _ t690 t693 _ ?side1 ?side2 ?side3 ?side4 A79.out).mono ?_
        (case side1 => repeat (first | exact (Kd.V_reads' HO688.out).2.2 | (with_reducible refine Kd.C_alloc ?_ _) | (with_reducible refine Kd.C_drewN ?_ _) | (with_reducible refine Kd.C_drew ?_)))
        (case side2 => exact (Kd.V_reads' HO688.out).2.1)
        (case side3 => repeat (first | exact (Kd.R_reads' HO692.out).2.2 | (with_reducible refine Kd.C_alloc ?_ _) | (with_reducible refine Kd.C_drewN ?_ _) | (with_reducible refine Kd.C_drew ?_)))
        (case side4 => exact (Kd.R_reads' HO692.out).2.1)
        rintro e w89 ⟨rfl, hb⟩
        refine ⟨_, rfl, ?_⟩
        replace HO_647001 := kV HO_647001 hb
        replace HO_648001 := kV HO_648001 hb
        replace HO688 := kV HO688 hb
        replace HO692 := kR HO692 hb
        replace BK631 := kb BK631 hb
        replace BK646 := kb BK646 hb
        replace BK647 := kb BK647 hb
        replace HB := kB HB hb
        (try clear hb)
        (try clear hb2)
        (try clear hk)
        (try clear hi)
        refine hK.out _ _ trivial (fun hHeld => ?_)
        clear hK K
        refine norm_ (a' := ?_) ?_ ?_
        rotate_left
        · show Act.put _ (some 77) _ = _
          simp only [Act.put, List.setIfInBounds_toArray, List.set_cons_zero, List.set_cons_succ, i64_w, i32_w]
          rfl
        refine pure_ (i := 40) (N := some 78) (v := ?_) (a' := ?_) #[T, T, T, T, T, T, T, T, T, T, T, T, T, T, T, T, T, T, T, T, T, T, T, T, T, T, T, T, T, T, T, T, T, T, T, T, T, T, T, T, T, O, O] rfl rfl (any_of HT_.out (by kernel_rfl)) (fun _ _ _ h => h) (Or.inl ⟨by rfl, ?_⟩) ?_ ?_; rotate_left; focus (intro w'; go_simp; with_reducible rfl)
        rotate_left; focus (simp only [Act.put, List.setIfInBounds_toArray, List.set_cons_zero, List.set_cons_succ, i64_w, i32_w]; rfl)
        refine pure_ (i := 41) (N := some 79) (v := ?_) (a' := ?_) #[T, T, T, T, T, T, T, T, T, T, T, T, T, T, T, T, T, T, T, T, T, T, T, T, T, T, T, T, T, T, T, T, T, T, T, T, T, T, T, T, T, T, O] rfl rfl (any_of HT_.out (by kernel_rfl)) (fun _ _ _ h => h) (Or.inl ⟨by rfl, ?_⟩) ?_ ?_; rotate_left; focus (intro w'; go_simp; with_reducible rfl)
        rotate_left; focus (simp only [Act.put, List.setIfInBounds_toArray, List.set_cons_zero, List.set_cons_succ, i64_w, i32_w]; rfl)
        refine pure_ (i := 42) (N := some 4) (v := ?_) (a' := ?_) #[T, T, T, T, T, T, T, T, T, T, T, T, T, T, T, T, T, T, T, T, T, T, T, T, T, T, T, T, T, T, T, T, T, T, T, T, T, T, T, T, T, T, T] rfl rfl (any_of HT_.out (by kernel_rfl)) (fun _ _ _ h => h) (Or.inl ⟨by rfl, ?_⟩) ?_ ?_; rotate_left; focus (intro w'; go_simp; with_reducible rfl)
        rotate_left; focus (simp only [Act.put, List.setIfInBounds_toArray, List.set_cons_zero, List.set_cons_succ, i64_w, i32_w]; rfl)
        refine done_ (done_of HT_.out (by kernel_rfl)) ?_
        try go_wp2
        go_ret
        exact ⟨by first | rfl | (simp [errW_none, errW_some] <;> rfl) | (simp [*, errW_none, errW_some] <;> rfl), ky HB⟩
      subst c47
      have H1 : ((cobwebref01_Of.f kj6 t632).bind fun bt663 => ((cobweblaw01_num.f kj6 a0_0 a0_1).bind fun bt667 => ((cobwebref01_Cmp.f kj6 bt663.1 bt663.2 bt667.1 bt667.2).bind fun t671 => (if t671 = 0 then (if t661 = true then (if t660 = a1 then ((wide_Of.f a1).bind fun bt672 => ((cobweblaw01_num.f kj6 bt672.1 bt672.2).bind fun bt674 => ((cobwebref01_Of.f kj6 a1).bind fun bt678 => ((cobwebref01_Cmp.f kj6 bt674.1 bt674.2 bt678.1 bt678.2).bind fun t682 => (some (t682 == 0)))))) else (none)) else (none)) else (none))))) = some r := by rw [if_pos rfl] at H; exact H
      clear H; have H := H1; clear H1
      replace H := Option.bind_eq_some_iff.mp H
      obtain ⟨⟨t663, t664⟩, A480, H⟩ := H
      replace H : ((cobweblaw01_num.f kj6 a0_0 a0_1).bind fun bt667 => ((cobwebref01_Cmp.f kj6 t663 t664 bt667.1 bt667.2).bind fun t671 => (if t671 = 0 then (if t661 = true then (if t660 = a1 then ((wide_Of.f a1).bind fun bt672 => ((cobweblaw01_num.f kj6 bt672.1 bt672.2).bind fun bt674 => ((cobwebref01_Of.f kj6 a1).bind fun bt678 => ((cobwebref01_Cmp.f kj6 bt674.1 bt674.2 bt678.1 bt678.2).bind fun t682 => (some (t682 == 0)))))) else (none)) else (none)) else (none)))) = some r := H
      have A48 := Aside0.mk A480
      clear A480
      replace H := Option.bind_eq_some_iff.mp H
      obtain ⟨⟨t667, t668⟩, A490, H⟩ := H
      replace H : ((cobwebref01_Cmp.f kj6 t663 t664 t667 t668).bind fun t671 => (if t671 = 0 then (if t661 = true then (if t660 = a1 then ((wide_Of.f a1).bind fun bt672 => ((cobweblaw01_num.f kj6 bt672.1 bt672.2).bind fun bt674 => ((cobwebref01_Of.f kj6 a1).bind fun bt678 => ((cobwebref01_Cmp.f kj6 bt674.1 bt674.2 bt678.1 bt678.2).bind fun t682 => (some (t682 == 0)))))) else (none)) else (none)) else (none))) = some r := H
      have A49 := Aside0.mk A490
      clear A490
      replace H := Option.bind_eq_some_iff.mp H
      obtain ⟨t671, A500, H⟩ := H
      replace H : (if t671 = 0 then (if t661 = true then (if t660 = a1 then ((wide_Of.f a1).bind fun bt672 => ((cobweblaw01_num.f kj6 bt672.1 bt672.2).bind fun bt674 => ((cobwebref01_Of.f kj6 a1).bind fun bt678 => ((cobwebref01_Cmp.f kj6 bt674.1 bt674.2 bt678.1 bt678.2).bind fun t682 => (some (t682 == 0)))))) else (none)) else (none)) else (none)) = some r := H
      have A50 := Aside0.mk A500
      clear A500
      by_cases c51 : t671 = 0
      rotate_left
      · rw [if_neg c51] at H
        exact absurd H (by simp)
      rw [if_pos c51] at H
      have c51b0 : (t671 == 0) = true := beq_iff_eq.mpr c51
      have c51b1 : (t671 != 0) = false := bne_eq_false_iff_eq.mpr c51
      clear c51
      by_cases c52 : t661 = true
      rotate_left
      · replace c52 := Bool.eq_false_iff.mpr c52
        subst c52
        have H1 : (none) = some r := by rw [if_neg (show ¬ (false = true) by decide)] at H; exact H
        clear H; have H := H1; clear H1
        exact absurd H (by simp)
      subst c52
      have H1 : (if t660 = a1 then ((wide_Of.f a1).bind fun bt672 => ((cobweblaw01_num.f kj6 bt672.1 bt672.2).bind fun bt674 => ((cobwebref01_Of.f kj6 a1).bind fun bt678 => ((cobwebref01_Cmp.f kj6 bt674.1 bt674.2 bt678.1 bt678.2).bind fun t682 => (some (t682 == 0)))))) else (none)) = some r := by rw [if_pos rfl] at H; exact H
      clear H; have H := H1; clear H1
      by_cases c53 : t660 = a1
      rotate_left
      · rw [if_neg c53] at H
        exact absurd H (by simp)
      rw [if_pos c53] at H
      have c53b0 : (t660 == a1) = true := beq_iff_eq.mpr c53
      have c53b1 : (t660 != a1) = false := bne_eq_false_iff_eq.mpr c53
      clear c53
      replace H := Option.bind_eq_some_iff.mp H
      obtain ⟨⟨t672, t673⟩, A540, H⟩ := H
      replace H : ((cobweblaw01_num.f kj6 t672 t673).bind fun bt674 => ((cobwebref01_Of.f kj6 a1).bind fun bt678 => ((cobwebref01_Cmp.f kj6 bt674.1 bt674.2 bt678.1 bt678.2).bind fun t682 => (some (t682 == 0))))) = some r := H
      have A54 := Aside0.mk A540
      clear A540
      replace H := Option.bind_eq_some_iff.mp H
      obtain ⟨⟨t674, t675⟩, A550, H⟩ := H
      replace H : ((cobwebref01_Of.f kj6 a1).bind fun bt678 => ((cobwebref01_Cmp.f kj6 t674 t675 bt678.1 bt678.2).bind fun t682 => (some (t682 == 0)))) = some r := H
      have A55 := Aside0.mk A550
      clear A550
      replace H := Option.bind_eq_some_iff.mp H
      obtain ⟨⟨t678, t679⟩, A560, H⟩ := H
      replace H : ((cobwebref01_Cmp.f kj6 t674 t675 t678 t679).bind fun t682 => (some (t682 == 0))) = some r := H
      have A56 := Aside0.mk A560
      clear A560
      replace H := Option.bind_eq_some_iff.mp H
      obtain ⟨t682, A570, H⟩ := H
      replace H : (some (t682 == 0)) = some r := H
      have A57 := Aside0.mk A570
      clear A570
      obtain rfl := Option.some.inj H
      try go_wp2_with (first | ((with_reducible refine gate_callee (f := 32) rfl ?_); refine goesL_ (some 34) rfl rfl Try.func32 (by kernel_rfl) rfl #[.int .i64 a1] rfl (by (try simp only [List.map_toArray, List.map_cons, List.map_nil]); first | done | rfl | (simp only [List.length_drop, List.length_take]; rfl)) ?_; (with_reducible refine (wide_Of.calls a1 t658 t659 _ A42.out).mono ?_); rintro e w58 ⟨rfl, hb⟩; refine ⟨_, rfl, ?_⟩; replace HO_647001 := kV HO_647001 hb; replace HO_648001 := kV HO_648001 hb; replace BK631 := kb BK631 hb; replace BK646 := kb BK646 hb; replace BK647 := kb BK647 hb; replace HB := kB HB hb; (try clear hb); (try clear hb2); (try clear hk); (try clear hi)) | ((with_reducible refine gate_callee (f := 30) rfl ?_); refine goesL_ (some 35) rfl rfl Try.func30 (by kernel_rfl) rfl #[.agg #[.int .i64 t658, .int .u64 t659]] rfl (by (try simp only [List.map_toArray, List.map_cons, List.map_nil]); first | done | rfl | (simp only [List.length_drop, List.length_take]; rfl)) ?_; (with_reducible refine (wide_Small.calls t658 t659 t660 true _ A43.out).mono ?_); rintro e w59 ⟨rfl, hb⟩; refine ⟨_, rfl, ?_⟩; replace HO_647001 := kV HO_647001 hb; replace HO_648001 := kV HO_648001 hb; replace BK631 := kb BK631 hb; replace BK646 := kb BK646 hb; replace BK647 := kb BK647 hb; replace HB := kB HB hb; (try clear hb); (try clear hb2); (try clear hk); (try clear hi)))
      replace HO_647001 := Aside0.mk (Kd.V_drew HO_647001.out)
      replace HO_648001 := Aside0.mk (Kd.V_drew HO_648001.out)
      replace BK631 := Aside0.mk (blk_drew BK631.out)
      replace BK646 := Aside0.mk (blk_drew BK646.out)
      replace BK647 := Aside0.mk (blk_drew BK647.out)
      replace HB := Aside0.mk (below_drew1 HB.out)
      refine start_ (n := 43) (S := fun w' => w'.cell? ⟨gb631, 0, none⟩ = some (.int .i64 a0_0) ∧ w'.cell? ⟨gb631, 1, none⟩ = some (.int .u64 a0_1)) (ds := []) #[O, O, O, O, O, O, O, O, O, O, O, O, O, O, O, O, O, O, O, O, O, O, O, O, O, O, O, O, O, O, O, O, O, O, O, O, O, O, O, O, O, O, O] (by kernel_rfl) rfl rfl ⟨kc BK631 0, kc BK631 1⟩ (fun hHeld => ?_); refine with_tabW cobweblaw01_WideSmall.tab5 cobweblaw01_WideSmall.bits5 (fun HT_ HW_ => ?_)
      generalize w59.drew = w60 at HO_647001 HO_648001 BK631 BK646 BK647 HB hHeld ⊢
      refine one_ (i := 0) (N := some 38) #[T, O, O, O, O, O, O, O, O, O, O, O, O, O, O, O, O, O, O, O, O, O, O, O, O, O, O, O, O, O, O, O, O, O, O, O, O, O, O, O, O, O, O] rfl rfl (one_of HT_.out (by kernel_rfl)) (by decide) (fun K hK => ?_)
      refine goes_ Try.func16 (by kernel_rfl) rfl #[] (by rfl) rfl rfl (by (try simp only [List.map_toArray, List.map_cons, List.map_nil]); first | done | rfl | (simp only [List.length_drop, List.length_take]; rfl)) ?_
      with_reducible refine (cobweblaw01_alive.calls kj6  true _ A44.out).mono ?_
      rintro e w61 ⟨rfl, hb⟩
      refine ⟨_, rfl, ?_⟩
      replace HO_647001 := kV HO_647001 hb
      replace HO_648001 := kV HO_648001 hb
      replace BK631 := kb BK631 hb
      replace BK646 := kb BK646 hb
      replace BK647 := kb BK647 hb
      replace HB := kB HB hb
      (try clear hb)
      (try clear hb2)
      (try clear hk)
      (try clear hi)
      refine hK.out _ _ ⟨kc BK631 0, kc BK631 1⟩ (fun hHeld => ?_)
      clear hK K
      refine norm_ (a' := ?_) ?_ ?_
      rotate_left
      · show Act.put _ (some 38) _ = _
        simp only [Act.put, List.setIfInBounds_toArray, List.set_cons_zero, List.set_cons_succ, i64_w, i32_w]
        rfl
      refine pure_ (i := 1) (N := some 39) (v := ?_) (a' := ?_) #[T, T, O, O, O, O, O, O, O, O, O, O, O, O, O, O, O, O, O, O, O, O, O, O, O, O, O, O, O, O, O, O, O, O, O, O, O, O, O, O, O, O, O] rfl rfl (any_of HT_.out (by kernel_rfl)) (fun _ _ _ h => h) (Or.inl ⟨by rfl, ?_⟩) ?_ ?_; rotate_left; focus (intro w'; go_simp; with_reducible rfl)
      rotate_left; focus (simp only [Act.put, List.setIfInBounds_toArray, List.set_cons_zero, List.set_cons_succ, i64_w, i32_w]; rfl)
      refine pure_ (i := 2) (N := some 40) (v := ?_) (a' := ?_) #[T, T, T, O, O, O, O, O, O, O, O, O, O, O, O, O, O, O, O, O, O, O, O, O, O, O, O, O, O, O, O, O, O, O, O, O, O, O, O, O, O, O, O] rfl rfl (any_of HT_.out (by kernel_rfl)) (fun _ _ _ h => h) (Or.inl ⟨by rfl, ?_⟩) ?_ ?_; rotate_left; focus (intro w'; go_simp; with_reducible rfl)
      rotate_left; focus (simp only [Act.put, List.setIfInBounds_toArray, List.set_cons_zero, List.set_cons_succ, i64_w, i32_w]; rfl)
      refine pure_ (i := 3) (N := some 41) (v := ?_) (a' := ?_) #[T, T, T, T, O, O, O, O, O, O, O, O, O, O, O, O, O, O, O, O, O, O, O, O, O, O, O, O, O, O, O, O, O, O, O, O, O, O, O, O, O, O, O] rfl rfl (any_of HT_.out (by kernel_rfl)) (fun _ _ _ h => h) (Or.inl ⟨by rfl, ?_⟩) ?_ ?_; rotate_left; focus (intro w'; go_simp; with_reducible rfl)
      rotate_left; focus (simp only [Act.put, List.setIfInBounds_toArray, List.set_cons_zero, List.set_cons_succ, i64_w, i32_w]; rfl)
      refine pure_ (i := 4) (N := some 42) (v := ?_) (a' := ?_) #[T, T, T, T, T, O, O, O, O, O, O, O, O, O, O, O, O, O, O, O, O, O, O, O, O, O, O, O, O, O, O, O, O, O, O, O, O, O, O, O, O, O, O] rfl rfl (any_of HT_.out (by kernel_rfl)) (fun _ _ _ h => h) (Or.inl ⟨by rfl, ?_⟩) ?_ ?_; rotate_left; focus (intro w'; go_simp; with_reducible rfl)
      rotate_left; focus (simp only [Act.put, List.setIfInBounds_toArray, List.set_cons_zero, List.set_cons_succ, i64_w, i32_w]; rfl)
      refine pure_ (i := 5) (N := some 43) (v := ?_) (a' := ?_) #[T, T, T, T, T, T, O, O, O, O, O, O, O, O, O, O, O, O, O, O, O, O, O, O, O, O, O, O, O, O, O, O, O, O, O, O, O, O, O, O, O, O, O] rfl rfl (any_of HT_.out (by kernel_rfl)) (fun _ _ _ h => h) (Or.inl ⟨by rfl, ?_⟩) ?_ ?_; rotate_left; focus (intro w'; go_simp; with_reducible rfl)
      rotate_left; focus (simp only [Act.put, List.setIfInBounds_toArray, List.set_cons_zero, List.set_cons_succ, i64_w, i32_w]; rfl)
      refine pure_ (i := 6) (N := some 44) (v := ?_) (a' := ?_) #[T, T, T, T, T, T, T, O, O, O, O, O, O, O, O, O, O, O, O, O, O, O, O, O, O, O, O, O, O, O, O, O, O, O, O, O, O, O, O, O, O, O, O] rfl rfl (any_of HT_.out (by kernel_rfl)) (fun _ _ _ h => h) (Or.inl ⟨by rfl, ?_⟩) ?_ ?_; rotate_left; focus (intro w'; go_simp; with_reducible rfl)
      rotate_left; focus (simp only [Act.put, List.setIfInBounds_toArray, List.set_cons_zero, List.set_cons_succ, i64_w, i32_w]; rfl)
      refine pure_ (i := 7) (N := some 45) (v := ?_) (a' := ?_) #[T, T, T, T, T, T, T, T, O, O, O, O, O, O, O, O, O, O, O, O, O, O, O, O, O, O, O, O, O, O, O, O, O, O, O, O, O, O, O, O, O, O, O] rfl rfl (any_of HT_.out (by kernel_rfl)) (fun _ _ _ h => h) (Or.inl ⟨by rfl, ?_⟩) ?_ ?_; rotate_left; focus (intro w'; go_simp; with_reducible rfl)
      rotate_left; focus (simp only [Act.put, List.setIfInBounds_toArray, List.set_cons_zero, List.set_cons_succ, i64_w, i32_w]; rfl)
      refine pure_ (i := 8) (N := some 46) (v := ?_) (a' := ?_) #[T, T, T, T, T, T, T, T, T, O, O, O, O, O, O, O, O, O, O, O, O, O, O, O, O, O, O, O, O, O, O, O, O, O, O, O, O, O, O, O, O, O, O] rfl rfl (any_of HT_.out (by kernel_rfl)) (fun _ _ _ h => h) (Or.inl ⟨by rfl, ?_⟩) ?_ ?_; rotate_left; focus (intro w'; go_simp; with_reducible rfl)
      rotate_left; focus (simp only [Act.put, List.setIfInBounds_toArray, List.set_cons_zero, List.set_cons_succ, i64_w, i32_w]; rfl)
      refine pure_ (i := 9) (N := some 47) (v := ?_) (a' := ?_) #[T, T, T, T, T, T, T, T, T, T, O, O, O, O, O, O, O, O, O, O, O, O, O, O, O, O, O, O, O, O, O, O, O, O, O, O, O, O, O, O, O, O, O] rfl rfl (any_of HT_.out (by kernel_rfl)) (fun _ _ _ h => h) (Or.inl ⟨by rfl, ?_⟩) ?_ ?_; rotate_left; focus (intro w'; go_simp; with_reducible rfl)
      rotate_left; focus (simp only [Act.put, List.setIfInBounds_toArray, List.set_cons_zero, List.set_cons_succ, i64_w, i32_w]; rfl)
      refine pure_ (i := 10) (N := some 48) (v := undef) (a' := ?_) #[T, T, T, T, T, T, T, T, T, T, T, O, O, O, O, O, O, O, O, O, O, O, O, O, O, O, O, O, O, O, O, O, O, O, O, O, O, O, O, O, O, O, O] rfl rfl (any_of HT_.out (by kernel_rfl)) (fun _ _ _ h => h) (Or.inr ⟨by rfl, rfl⟩) ?_ ?_
      rotate_left
      · simp only [Act.put, List.setIfInBounds_toArray, List.set_cons_zero, List.set_cons_succ, i64_w, i32_w]
        rfl
      refine pure_ (i := 11) (N := some 49) (v := undef) (a' := ?_) #[T, T, T, T, T, T, T, T, T, T, T, T, O, O, O, O, O, O, O, O, O, O, O, O, O, O, O, O, O, O, O, O, O, O, O, O, O, O, O, O, O, O, O] rfl rfl (any_of HT_.out (by kernel_rfl)) (fun _ _ _ h => h) (Or.inr ⟨by rfl, rfl⟩) ?_ ?_
      rotate_left
      · simp only [Act.put, List.setIfInBounds_toArray, List.set_cons_zero, List.set_cons_succ, i64_w, i32_w]
        rfl
      refine pure_ (i := 12) (N := some 50) (v := ?_) (a' := ?_) #[T, T, T, T, T, T, T, T, T, T, T, T, T, O, O, O, O, O, O, O, O, O, O, O, O, O, O, O, O, O, O, O, O, O, O, O, O, O, O, O, O, O, O] rfl rfl (any_of HT_.out (by kernel_rfl)) (fun _ _ _ h => h) (Or.inl ⟨by rfl, ?_⟩) ?_ ?_; rotate_left; focus (intro w'; go_simp; with_reducible rfl)
      rotate_left; focus (simp only [Act.put, List.setIfInBounds_toArray, List.set_cons_zero, List.set_cons_succ, i64_w, i32_w]; rfl)
      refine pure_ (i := 13) (N := some 51) (v := ?_) (a' := ?_) #[T, T, T, T, T, T, T, T, T, T, T, T, T, T, O, O, O, O, O, O, O, O, O, O, O, O, O, O, O, O, O, O, O, O, O, O, O, O, O, O, O, O, O] rfl rfl (any_of HT_.out (by kernel_rfl)) (fun _ _ _ h => h) (Or.inl ⟨by rfl, ?_⟩) ?_ ?_; rotate_left; focus (intro w'; go_simp; with_reducible rfl)
      rotate_left; focus (simp only [Act.put, List.setIfInBounds_toArray, List.set_cons_zero, List.set_cons_succ, i64_w, i32_w]; rfl)
      refine pure_ (i := 14) (N := some 52) (v := ?_) (a' := ?_) #[T, T, T, T, T, T, T, T, T, T, T, T, T, T, T, O, O, O, O, O, O, O, O, O, O, O, O, O, O, O, O, O, O, O, O, O, O, O, O, O, O, O, O] rfl rfl (any_of HT_.out (by kernel_rfl)) (fun _ _ _ h => h) (Or.inl ⟨by rfl, ?_⟩) ?_ ?_; rotate_left; focus (intro w'; go_simp; with_reducible rfl)
      rotate_left; focus (simp only [Act.put, List.setIfInBounds_toArray, List.set_cons_zero, List.set_cons_succ, i64_w, i32_w]; rfl)
      refine pure_ (i := 15) (N := some 53) (v := ?_) (a' := ?_) #[T, T, T, T, T, T, T, T, T, T, T, T, T, T, T, T, O, O, O, O, O, O, O, O, O, O, O, O, O, O, O, O, O, O, O, O, O, O, O, O, O, O, O] rfl rfl (any_of HT_.out (by kernel_rfl)) (fun _ _ _ h => h) (Or.inl ⟨by rfl, ?_⟩) ?_ ?_; rotate_left; focus (intro w'; go_simp; with_reducible rfl)
      rotate_left; focus (simp only [Act.put, List.setIfInBounds_toArray, List.set_cons_zero, List.set_cons_succ, i64_w, i32_w]; rfl)
      refine pure_ (i := 16) (N := some 54) (v := ?_) (a' := ?_) #[T, T, T, T, T, T, T, T, T, T, T, T, T, T, T, T, T, O, O, O, O, O, O, O, O, O, O, O, O, O, O, O, O, O, O, O, O, O, O, O, O, O, O] rfl rfl (any_of HT_.out (by kernel_rfl)) (fun _ _ _ h => h) (Or.inl ⟨by rfl, ?_⟩) ?_ ?_; rotate_left; focus (intro w'; go_simp; with_reducible rfl)
      rotate_left; focus (simp only [Act.put, List.setIfInBounds_toArray, List.set_cons_zero, List.set_cons_succ, i64_w, i32_w]; rfl)
      refine take_ (i := 18) (N := some 56) (v := ?_) (a' := ?_) #[T, T, T, T, T, T, T, T, T, T, T, T, T, T, T, T, T, O, T, O, O, O, O, O, O, O, O, O, O, O, O, O, O, O, O, O, O, O, O, O, O, O, O] rfl rfl (take_ofW HT_.out HW_.out (by kernel_rfl)) (fun _ _ _ h => h) (Or.inl ⟨by rfl, ?_⟩) hHeld ?_ ?_; rotate_left; focus (rintro w' ⟨s0, s1⟩; go_simp; with_reducible rfl)
      rotate_left; focus (simp only [Act.put, List.setIfInBounds_toArray, List.set_cons_zero, List.set_cons_succ, i64_w, i32_w]; rfl)
      refine one_ (i := 17) (N := some 55) #[T, T, T, T, T, T, T, T, T, T, T, T, T, T, T, T, T, T, T, O, O, O, O, O, O, O, O, O, O, O, O, O, O, O, O, O, O, O, O, O, O, O, O] rfl rfl (one_of HT_.out (by kernel_rfl)) (by decide) (fun K hK => ?_)
      refine goes_ Try.func21 (by kernel_rfl) rfl #[.int .i64 t632] (by rfl) rfl rfl (by (try simp only [List.map_toArray, List.map_cons, List.map_nil]); first | done | rfl | (simp only [List.length_drop, List.length_take]; rfl)) ?_
      with_reducible refine (cobwebref01_Of.calls kj6 t632 t663 t664 _ A48.out).mono ?_
      rintro e w62 ⟨v665, rfl, ho0, hb⟩
      refine ⟨_, rfl, ?_⟩
      have n0_ := Aside0.mk (Kd.V_elder' (kv HO_647001) (Kd.R_base ho0) hb)
      have n1_ := Aside0.mk (Kd.V_elder' (kv HO_648001) (Kd.R_base ho0) hb)
      have n2_ := Aside0.mk (Kd.R_lower ho0 (below_size (ky HB)))
      have n3_ := kb BK631 hb
      have n4_ := kb BK646 hb
      have n5_ := kb BK647 hb
      have n6_ := kB HB hb
      clear HO_647001; clear HO_648001; clear BK631; clear BK646; clear BK647; clear HB; have HO_647001 := n0_; have HO_648001 := n1_; have HO666 := n2_; have BK631 := n3_; have BK646 := n4_; have BK647 := n5_; have HB := n6_
      clear n0_ n1_ n2_ n3_ n4_ n5_ n6_
      (try clear hb)
      (try clear hb2)
      (try clear hk)
      (try clear hi)
      (try clear ho0)
      refine hK.out _ _ ⟨kc BK631 0, kc BK631 1⟩ (fun hHeld => ?_)
      clear hK K
      refine norm_ (a' := ?_) ?_ ?_
      rotate_left
      · show Act.put _ (some 55) _ = _
        simp only [Act.put, List.setIfInBounds_toArray, List.set_cons_zero, List.set_cons_succ, i64_w, i32_w]
        rfl
      refine one_ (i := 19) (N := some 57) #[T, T, T, T, T, T, T, T, T, T, T, T, T, T, T, T, T, T, T, T, O, O, O, O, O, O, O, O, O, O, O, O, O, O, O, O, O, O, O, O, O, O, O] rfl rfl (one_of HT_.out (by kernel_rfl)) (by decide) (fun K hK => ?_)
      refine goes_ Try.func19 (by kernel_rfl) rfl #[.agg #[.int .i64 a0_0, .int .u64 a0_1]] (by rfl) rfl rfl (by (try simp only [List.map_toArray, List.map_cons, List.map_nil]); first | done | rfl | (simp only [List.length_drop, List.length_take]; rfl)) ?_
      with_reducible refine (cobweblaw01_num.calls kj6 a0_0 a0_1 t667 t668 _ A49.out).mono ?_
      rintro e w63 ⟨v669, rfl, ho0, hb⟩
      refine ⟨_, rfl, ?_⟩
      have HO670 := Aside0.mk (Kd.V_lower (Kd.V_mono (ok' := fun k_ => some k_ ≠ (v665 : Value).ownBlock ∧ k_ ≠ gb631 ∧ k_ ≠ gb646 ∧ k_ ≠ gb647) ho0 (fun k_ hk_ => ⟨(Kd.fresh' (Kd.R_lt (kr HO666)) k_ hk_), (Kd.freshB (g := gb631) (o := .cells #[.int .i64 a0_0, .int .u64 a0_1] 24 (0, 0)) (kx BK631) k_ hk_), (Kd.freshB (g := gb646) (o := .cells #[.bool t638, .slice Ao20 t639.length co20] 32 (0, 0)) (kx BK646) k_ hk_), (Kd.freshB (g := gb647) (o := .cells #[.bool t642, .slice Ao23 t643.length co23] 32 (0, 0)) (kx BK647) k_ hk_)⟩)) (below_size (ky HB)))
      replace HO_647001 := kV HO_647001 hb
      replace HO_648001 := kV HO_648001 hb
      replace HO666 := kR HO666 hb
      replace BK631 := kb BK631 hb
      replace BK646 := kb BK646 hb
      replace BK647 := kb BK647 hb
      replace HB := kB HB hb
      (try clear hb)
      (try clear hb2)
      (try clear hk)
      (try clear hi)
      (try clear ho0)
      obtain ⟨Ao64, co64, eo64⟩ := Kd.R_slice HO666.out
      (first | subst eo64 | (injection eo64 with f1_ f2_ f3_; have f4_ := f1_.symm; have f5_ := f3_.symm; clear f1_ f2_ f3_; subst f4_; subst f5_))
      obtain ⟨Ao65, co65, eo65⟩ := Kd.V_slice HO670.out
      (first | subst eo65 | (injection eo65 with f1_ f2_ f3_; have f4_ := f1_.symm; have f5_ := f3_.symm; clear f1_ f2_ f3_; subst f4_; subst f5_))
      refine hK.out _ _ ⟨kc BK631 0, kc BK631 1⟩ (fun hHeld => ?_)
      clear hK K
      refine norm_ (a' := ?_) ?_ ?_
      rotate_left
      · show Act.put _ (some 57) _ = _
        simp only [Act.put, List.setIfInBounds_toArray, List.set_cons_zero, List.set_cons_succ, i64_w, i32_w]
        rfl
      refine one_ (i := 20) (N := some 58) #[T, T, T, T, T, T, T, T, T, T, T, T, T, T, T, T, T, T, T, T, T, O, O, O, O, O, O, O, O, O, O, O, O, O, O, O, O, O, O, O, O, O, O] rfl rfl (one_of HT_.out (by kernel_rfl)) (by decide) (fun K hK => ?_)
      refine goes_ Try.func25 (by kernel_rfl) rfl #[.agg #[.bool t663, .slice Ao64 t664.length co64], .agg #[.bool t667, .slice Ao65 t668.length co65]] (by rfl) rfl rfl (by (try simp only [List.map_toArray, List.map_cons, List.map_nil]); first | done | rfl | (simp only [List.length_drop, List.length_take]; rfl)) ?_
      with_reducible refine (cobwebref01_Cmp.calls kj6 t663 _ _ t664 t667 _ _ t668 t671 _ ?side1 ?side2 ?side3 ?side4 A50.out).mono ?_
      (case side1 => repeat (first | exact (Kd.R_reads' HO666.out).2.2 | (with_reducible refine Kd.C_alloc ?_ _) | (with_reducible refine Kd.C_drewN ?_ _) | (with_reducible refine Kd.C_drew ?_)))
      (case side2 => exact (Kd.R_reads' HO666.out).2.1)
      (case side3 => repeat (first | exact (Kd.V_reads' HO670.out).2.2 | (with_reducible refine Kd.C_alloc ?_ _) | (with_reducible refine Kd.C_drewN ?_ _) | (with_reducible refine Kd.C_drew ?_)))
      (case side4 => exact (Kd.V_reads' HO670.out).2.1)
      rintro e w66 ⟨rfl, hb⟩
      refine ⟨_, rfl, ?_⟩
      replace HO_647001 := kV HO_647001 hb
      replace HO_648001 := kV HO_648001 hb
      replace HO666 := kR HO666 hb
      replace HO670 := kV HO670 hb
      replace BK631 := kb BK631 hb
      replace BK646 := kb BK646 hb
      replace BK647 := kb BK647 hb
      replace HB := kB HB hb
      (try clear hb)
      (try clear hb2)
      (try clear hk)
      (try clear hi)
      refine hK.out _ _ ⟨kc BK631 0, kc BK631 1⟩ (fun hHeld => ?_)
      clear hK K
      refine norm_ (a' := ?_) ?_ ?_
      rotate_left
      · show Act.put _ (some 58) _ = _
        simp only [Act.put, List.setIfInBounds_toArray, List.set_cons_zero, List.set_cons_succ, i64_w, i32_w]
        rfl
      refine pure_ (i := 21) (N := some 59) (v := ?_) (a' := ?_) #[T, T, T, T, T, T, T, T, T, T, T, T, T, T, T, T, T, T, T, T, T, T, O, O, O, O, O, O, O, O, O, O, O, O, O, O, O, O, O, O, O, O, O] rfl rfl (any_of HT_.out (by kernel_rfl)) (fun _ _ _ h => h) (Or.inl ⟨by rfl, ?_⟩) ?_ ?_; rotate_left; focus (intro w'; go_simp; with_reducible rfl)
      rotate_left; focus (simp only [Act.put, List.setIfInBounds_toArray, List.set_cons_zero, List.set_cons_succ, i64_w, i32_w]; rfl)
      refine pure_ (i := 22) (N := some 60) (v := ?_) (a' := ?_) #[T, T, T, T, T, T, T, T, T, T, T, T, T, T, T, T, T, T, T, T, T, T, T, O, O, O, O, O, O, O, O, O, O, O, O, O, O, O, O, O, O, O, O] rfl rfl (any_of HT_.out (by kernel_rfl)) (fun _ _ _ h => h) (Or.inl ⟨by rfl, ?_⟩) ?_ ?_; rotate_left; focus (intro w'; go_simp; with_reducible rfl)
      rotate_left; focus (simp only [Act.put, List.setIfInBounds_toArray, List.set_cons_zero, List.set_cons_succ, i64_w, i32_w]; rfl)
      refine pure_ (i := 23) (N := some 61) (v := ?_) (a' := ?_) #[T, T, T, T, T, T, T, T, T, T, T, T, T, T, T, T, T, T, T, T, T, T, T, T, O, O, O, O, O, O, O, O, O, O, O, O, O, O, O, O, O, O, O] rfl rfl (any_of HT_.out (by kernel_rfl)) (fun _ _ _ h => h) (Or.inl ⟨by rfl, ?_⟩) ?_ ?_; rotate_left; focus (intro w'; go_simp; with_reducible rfl)
      rotate_left; focus (simp only [Act.put, List.setIfInBounds_toArray, List.set_cons_zero, List.set_cons_succ, i64_w, i32_w]; rfl)
      refine pure_ (i := 24) (N := some 62) (v := ?_) (a' := ?_) #[T, T, T, T, T, T, T, T, T, T, T, T, T, T, T, T, T, T, T, T, T, T, T, T, T, O, O, O, O, O, O, O, O, O, O, O, O, O, O, O, O, O, O] rfl rfl (any_of HT_.out (by kernel_rfl)) (fun _ _ _ h => h) (Or.inl ⟨by rfl, ?_⟩) ?_ ?_; rotate_left; focus (intro w'; go_simp; with_reducible rfl)
      rotate_left; focus (simp only [Act.put, List.setIfInBounds_toArray, List.set_cons_zero, List.set_cons_succ, i64_w, i32_w]; rfl)
      refine pure_ (i := 25) (N := some 63) (v := ?_) (a' := ?_) #[T, T, T, T, T, T, T, T, T, T, T, T, T, T, T, T, T, T, T, T, T, T, T, T, T, T, O, O, O, O, O, O, O, O, O, O, O, O, O, O, O, O, O] rfl rfl (any_of HT_.out (by kernel_rfl)) (fun _ _ _ h => h) (Or.inl ⟨by rfl, ?_⟩) ?_ ?_; rotate_left; focus (intro w'; go_simp; with_reducible rfl)
      rotate_left; focus (simp only [Act.put, List.setIfInBounds_toArray, List.set_cons_zero, List.set_cons_succ, i64_w, i32_w]; rfl)
      refine pure_ (i := 26) (N := some 64) (v := ?_) (a' := ?_) #[T, T, T, T, T, T, T, T, T, T, T, T, T, T, T, T, T, T, T, T, T, T, T, T, T, T, T, O, O, O, O, O, O, O, O, O, O, O, O, O, O, O, O] rfl rfl (any_of HT_.out (by kernel_rfl)) (fun _ _ _ h => h) (Or.inl ⟨by rfl, ?_⟩) ?_ ?_; rotate_left; focus (intro w'; go_simp; with_reducible rfl)
      rotate_left; focus (simp only [Act.put, List.setIfInBounds_toArray, List.set_cons_zero, List.set_cons_succ, i64_w, i32_w]; rfl)
      refine pure_ (i := 27) (N := some 65) (v := ?_) (a' := ?_) #[T, T, T, T, T, T, T, T, T, T, T, T, T, T, T, T, T, T, T, T, T, T, T, T, T, T, T, T, O, O, O, O, O, O, O, O, O, O, O, O, O, O, O] rfl rfl (any_of HT_.out (by kernel_rfl)) (fun _ _ _ h => h) (Or.inl ⟨by rfl, ?_⟩) ?_ ?_; rotate_left; focus (intro w'; go_simp; with_reducible rfl)
      rotate_left; focus (simp only [Act.put, List.setIfInBounds_toArray, List.set_cons_zero, List.set_cons_succ, i64_w, i32_w]; rfl)
      refine pure_ (i := 28) (N := some 66) (v := ?_) (a' := ?_) #[T, T, T, T, T, T, T, T, T, T, T, T, T, T, T, T, T, T, T, T, T, T, T, T, T, T, T, T, T, O, O, O, O, O, O, O, O, O, O, O, O, O, O] rfl rfl (any_of HT_.out (by kernel_rfl)) (fun _ _ _ h => h) (Or.inl ⟨by rfl, ?_⟩) ?_ ?_; rotate_left; focus (intro w'; go_simp; with_reducible rfl)
      rotate_left; focus (simp only [Act.put, List.setIfInBounds_toArray, List.set_cons_zero, List.set_cons_succ, i64_w, i32_w]; rfl)
      refine pure_ (i := 29) (N := some 67) (v := ?_) (a' := ?_) #[T, T, T, T, T, T, T, T, T, T, T, T, T, T, T, T, T, T, T, T, T, T, T, T, T, T, T, T, T, T, O, O, O, O, O, O, O, O, O, O, O, O, O] rfl rfl (any_of HT_.out (by kernel_rfl)) (fun _ _ _ h => h) (Or.inl ⟨by rfl, ?_⟩) ?_ ?_; rotate_left; focus (intro w'; go_simp; with_reducible rfl)
      rotate_left; focus (simp only [Act.put, List.setIfInBounds_toArray, List.set_cons_zero, List.set_cons_succ, i64_w, i32_w]; rfl)
      refine pure_ (i := 30) (N := some 68) (v := ?_) (a' := ?_) #[T, T, T, T, T, T, T, T, T, T, T, T, T, T, T, T, T, T, T, T, T, T, T, T, T, T, T, T, T, T, T, O, O, O, O, O, O, O, O, O, O, O, O] rfl rfl (any_of HT_.out (by kernel_rfl)) (fun _ _ _ h => h) (Or.inl ⟨by rfl, ?_⟩) ?_ ?_; rotate_left; focus (intro w'; go_simp; with_reducible rfl)
      rotate_left; focus (simp only [Act.put, List.setIfInBounds_toArray, List.set_cons_zero, List.set_cons_succ, i64_w, i32_w]; rfl)
      refine pure_ (i := 31) (N := some 69) (v := ?_) (a' := ?_) #[T, T, T, T, T, T, T, T, T, T, T, T, T, T, T, T, T, T, T, T, T, T, T, T, T, T, T, T, T, T, T, T, O, O, O, O, O, O, O, O, O, O, O] rfl rfl (any_of HT_.out (by kernel_rfl)) (fun _ _ _ h => h) (Or.inl ⟨by rfl, ?_⟩) ?_ ?_; rotate_left; focus (intro w'; go_simp; with_reducible rfl)
      rotate_left; focus (simp only [Act.put, List.setIfInBounds_toArray, List.set_cons_zero, List.set_cons_succ, i64_w, i32_w]; rfl)
      refine pure_ (i := 32) (N := some 70) (v := ?_) (a' := ?_) #[T, T, T, T, T, T, T, T, T, T, T, T, T, T, T, T, T, T, T, T, T, T, T, T, T, T, T, T, T, T, T, T, T, O, O, O, O, O, O, O, O, O, O] rfl rfl (any_of HT_.out (by kernel_rfl)) (fun _ _ _ h => h) (Or.inl ⟨by rfl, ?_⟩) ?_ ?_; rotate_left; focus (intro w'; go_simp; with_reducible rfl)
      rotate_left; focus (simp only [Act.put, List.setIfInBounds_toArray, List.set_cons_zero, List.set_cons_succ, i64_w, i32_w]; rfl)
      refine pure_ (i := 33) (N := some 71) (v := ?_) (a' := ?_) #[T, T, T, T, T, T, T, T, T, T, T, T, T, T, T, T, T, T, T, T, T, T, T, T, T, T, T, T, T, T, T, T, T, T, O, O, O, O, O, O, O, O, O] rfl rfl (any_of HT_.out (by kernel_rfl)) (fun _ _ _ h => h) (Or.inl ⟨by rfl, ?_⟩) ?_ ?_; rotate_left; focus (intro w'; go_simp; with_reducible rfl)
      rotate_left; focus (simp only [Act.put, List.setIfInBounds_toArray, List.set_cons_zero, List.set_cons_succ, i64_w, i32_w]; rfl)
      refine pure_ (i := 34) (N := some 72) (v := ?_) (a' := ?_) #[T, T, T, T, T, T, T, T, T, T, T, T, T, T, T, T, T, T, T, T, T, T, T, T, T, T, T, T, T, T, T, T, T, T, T, O, O, O, O, O, O, O, O] rfl rfl (any_of HT_.out (by kernel_rfl)) (fun _ _ _ h => h) (Or.inl ⟨by rfl, ?_⟩) ?_ ?_; rotate_left; focus (intro w'; go_simp; with_reducible rfl)
      rotate_left; focus (simp only [Act.put, List.setIfInBounds_toArray, List.set_cons_zero, List.set_cons_succ, i64_w, i32_w]; rfl)
      refine pure_ (i := 37) (N := some 75) (v := ?_) (a' := ?_) #[T, T, T, T, T, T, T, T, T, T, T, T, T, T, T, T, T, T, T, T, T, T, T, T, T, T, T, T, T, T, T, T, T, T, T, O, O, T, O, O, O, O, O] rfl rfl (any_of HT_.out (by kernel_rfl)) (fun _ _ _ h => h) (Or.inl ⟨by rfl, ?_⟩) ?_ ?_; rotate_left; focus (intro w'; go_simp; with_reducible rfl)
      rotate_left; focus (simp only [Act.put, List.setIfInBounds_toArray, List.set_cons_zero, List.set_cons_succ, i64_w, i32_w]; rfl)
      refine one_ (i := 35) (N := some 73) #[T, T, T, T, T, T, T, T, T, T, T, T, T, T, T, T, T, T, T, T, T, T, T, T, T, T, T, T, T, T, T, T, T, T, T, T, O, T, O, O, O, O, O] rfl rfl (one_of HT_.out (by kernel_rfl)) (by decide) (fun K hK => ?_)
      refine goes_ Try.func32 (by kernel_rfl) rfl #[.int .i64 a1] (by rfl) rfl rfl (by (try simp only [List.map_toArray, List.map_cons, List.map_nil]); first | done | rfl | (simp only [List.length_drop, List.length_take]; rfl)) ?_
      with_reducible refine (wide_Of.calls a1 t672 t673 _ A54.out).mono ?_
      rintro e w67 ⟨rfl, hb⟩
      refine ⟨_, rfl, ?_⟩
      replace HO_647001 := kV HO_647001 hb
      replace HO_648001 := kV HO_648001 hb
      replace HO666 := kR HO666 hb
      replace HO670 := kV HO670 hb
      replace BK631 := kb BK631 hb
      replace BK646 := kb BK646 hb
      replace BK647 := kb BK647 hb
      replace HB := kB HB hb
      (try clear hb)
      (try clear hb2)
      (try clear hk)
      (try clear hi)
      refine hK.out _ _ ⟨kc BK631 0, kc BK631 1⟩ (fun hHeld => ?_)
      clear hK K
      refine norm_ (a' := ?_) ?_ ?_
      rotate_left
      · show Act.put _ (some 73) _ = _
        simp only [Act.put, List.setIfInBounds_toArray, List.set_cons_zero, List.set_cons_succ, i64_w, i32_w]
        rfl
      refine one_ (i := 36) (N := some 74) #[T, T, T, T, T, T, T, T, T, T, T, T, T, T, T, T, T, T, T, T, T, T, T, T, T, T, T, T, T, T, T, T, T, T, T, T, T, T, O, O, O, O, O] rfl rfl (one_of HT_.out (by kernel_rfl)) (by decide) (fun K hK => ?_)
      refine goes_ Try.func19 (by kernel_rfl) rfl #[.agg #[.int .i64 t672, .int .u64 t673]] (by rfl) rfl rfl (by (try simp only [List.map_toArray, List.map_cons, List.map_nil]); first | done | rfl | (simp only [List.length_drop, List.length_take]; rfl)) ?_
      with_reducible refine (cobweblaw01_num.calls kj6 t672 t673 t674 t675 _ A55.out).mono ?_
      rintro e w68 ⟨v676, rfl, ho0, hb⟩
      refine ⟨_, rfl, ?_⟩
      have HO677 := Aside0.mk (Kd.V_lower (Kd.V_mono (ok' := fun k_ => some k_ ≠ (.slice Ao64 t664.length co64 : Value).ownBlock ∧ k_ ≠ gb631 ∧ k_ ≠ gb646 ∧ k_ ≠ gb647) ho0 (fun k_ hk_ => ⟨(Kd.fresh' (Kd.R_lt (kr HO666)) k_ hk_), (Kd.freshB (g := gb631) (o := .cells #[.int .i64 a0_0, .int .u64 a0_1] 24 (0, 0)) (kx BK631) k_ hk_), (Kd.freshB (g := gb646) (o := .cells #[.bool t638, .slice Ao20 t639.length co20] 32 (0, 0)) (kx BK646) k_ hk_), (Kd.freshB (g := gb647) (o := .cells #[.bool t642, .slice Ao23 t643.length co23] 32 (0, 0)) (kx BK647) k_ hk_)⟩)) (below_size (ky HB)))
      replace HO_647001 := kV HO_647001 hb
      replace HO_648001 := kV HO_648001 hb
      replace HO666 := kR HO666 hb
      replace HO670 := kV HO670 hb
      replace BK631 := kb BK631 hb
      replace BK646 := kb BK646 hb
      replace BK647 := kb BK647 hb
      replace HB := kB HB hb
      (try clear hb)
      (try clear hb2)
      (try clear hk)
      (try clear hi)
      (try clear ho0)
      refine hK.out _ _ ⟨kc BK631 0, kc BK631 1⟩ (fun hHeld => ?_)
      clear hK K
      refine norm_ (a' := ?_) ?_ ?_
      rotate_left
      · show Act.put _ (some 74) _ = _
        simp only [Act.put, List.setIfInBounds_toArray, List.set_cons_zero, List.set_cons_succ, i64_w, i32_w]
        rfl
      refine one_ (i := 38) (N := some 76) #[T, T, T, T, T, T, T, T, T, T, T, T, T, T, T, T, T, T, T, T, T, T, T, T, T, T, T, T, T, T, T, T, T, T, T, T, T, T, T, O, O, O, O] rfl rfl (one_of HT_.out (by kernel_rfl)) (by decide) (fun K hK => ?_)
      refine goes_ Try.func21 (by kernel_rfl) rfl #[.int .i64 a1] (by rfl) rfl rfl (by (try simp only [List.map_toArray, List.map_cons, List.map_nil]); first | done | rfl | (simp only [List.length_drop, List.length_take]; rfl)) ?_
      with_reducible refine (cobwebref01_Of.calls kj6 a1 t678 t679 _ A56.out).mono ?_
      rintro e w69 ⟨v680, rfl, ho0, hb⟩
      refine ⟨_, rfl, ?_⟩
      have n0_ := Aside0.mk (Kd.V_elder' (kv HO_647001) (Kd.R_base ho0) hb)
      have n1_ := Aside0.mk (Kd.V_elder' (kv HO_648001) (Kd.R_base ho0) hb)
      have n2_ := Aside0.mk (Kd.R_elder' (kr HO666) (Kd.R_base ho0) hb)
      have n3_ := Aside0.mk (Kd.V_elder' (kv HO670) (Kd.R_base ho0) hb)
      have n4_ := Aside0.mk (Kd.V_elder' (kv HO677) (Kd.R_base ho0) hb)
      have n5_ := Aside0.mk (Kd.R_lower (Kd.R_new' ho0 (Kd.R_lt (kr HO666))) (below_size (ky HB)))
      have n6_ := kb BK631 hb
      have n7_ := kb BK646 hb
      have n8_ := kb BK647 hb
      have n9_ := kB HB hb
      clear HO_647001; clear HO_648001; clear HO666; clear HO670; clear HO677; clear BK631; clear BK646; clear BK647; clear HB; have HO_647001 := n0_; have HO_648001 := n1_; have HO666 := n2_; have HO670 := n3_; have HO677 := n4_; have HO681 := n5_; have BK631 := n6_; have BK646 := n7_; have BK647 := n8_; have HB := n9_
      clear n0_ n1_ n2_ n3_ n4_ n5_ n6_ n7_ n8_ n9_
      (try clear hb)
      (try clear hb2)
      (try clear hk)
      (try clear hi)
      (try clear ho0)
      obtain ⟨Ao70, co70, eo70⟩ := Kd.V_slice HO677.out
      (first | subst eo70 | (injection eo70 with f1_ f2_ f3_; have f4_ := f1_.symm; have f5_ := f3_.symm; clear f1_ f2_ f3_; subst f4_; subst f5_))
      obtain ⟨Ao71, co71, eo71⟩ := Kd.R_slice HO681.out
      (first | subst eo71 | (injection eo71 with f1_ f2_ f3_; have f4_ := f1_.symm; have f5_ := f3_.symm; clear f1_ f2_ f3_; subst f4_; subst f5_))
      refine hK.out _ _ ⟨kc BK631 0, kc BK631 1⟩ (fun hHeld => ?_)
      clear hK K
      refine norm_ (a' := ?_) ?_ ?_
      rotate_left
      · show Act.put _ (some 76) _ = _
        simp only [Act.put, List.setIfInBounds_toArray, List.set_cons_zero, List.set_cons_succ, i64_w, i32_w]
        rfl
      refine one_ (i := 39) (N := some 77) #[T, T, T, T, T, T, T, T, T, T, T, T, T, T, T, T, T, T, T, T, T, T, T, T, T, T, T, T, T, T, T, T, T, T, T, T, T, T, T, T, O, O, O] rfl rfl (one_of HT_.out (by kernel_rfl)) (by decide) (fun K hK => ?_)
      refine goes_ Try.func25 (by kernel_rfl) rfl #[.agg #[.bool t674, .slice Ao70 t675.length co70], .agg #[.bool t678, .slice Ao71 t679.length co71]] (by rfl) rfl rfl (by (try simp only [List.map_toArray, List.map_cons, List.map_nil]); first | done | rfl | (simp only [List.length_drop, List.length_take]; rfl)) ?_
      with_reducible refine (cobwebref01_Cmp.calls kj6 t674 _ _ t675 t678 _ _ t679 t682 _ ?side1 ?side2 ?side3 ?side4 A57.out).mono ?_
      (case side1 => repeat (first | exact (Kd.V_reads' HO677.out).2.2 | (with_reducible refine Kd.C_alloc ?_ _) | (with_reducible refine Kd.C_drewN ?_ _) | (with_reducible refine Kd.C_drew ?_)))
      (case side2 => exact (Kd.V_reads' HO677.out).2.1)
      (case side3 => repeat (first | exact (Kd.R_reads' HO681.out).2.2 | (with_reducible refine Kd.C_alloc ?_ _) | (with_reducible refine Kd.C_drewN ?_ _) | (with_reducible refine Kd.C_drew ?_)))
      (case side4 => exact (Kd.R_reads' HO681.out).2.1)
      rintro e w72 ⟨rfl, hb⟩
      refine ⟨_, rfl, ?_⟩
      replace HO_647001 := kV HO_647001 hb
      replace HO_648001 := kV HO_648001 hb
      replace HO666 := kR HO666 hb
      replace HO670 := kV HO670 hb
      replace HO677 := kV HO677 hb
      replace HO681 := kR HO681 hb
      replace BK631 := kb BK631 hb
      replace BK646 := kb BK646 hb
      replace BK647 := kb BK647 hb
      replace HB := kB HB hb
      (try clear hb)
      (try clear hb2)
      (try clear hk)
      (try clear hi)
      refine hK.out _ _ ⟨kc BK631 0, kc BK631 1⟩ (fun hHeld => ?_)
      clear hK K
      refine norm_ (a' := ?_) ?_ ?_
      rotate_left
      · show Act.put _ (some 77) _ = _
        simp only [Act.put, List.setIfInBounds_toArray, List.set_cons_zero, List.set_cons_succ, i64_w, i32_w]
        rfl
      refine pure_ (i := 40) (N := some 78) (v := ?_) (a' := ?_) #[T, T, T, T, T, T, T, T, T, T, T, T, T, T, T, T, T, T, T, T, T, T, T, T, T, T, T, T, T, T, T, T, T, T, T, T, T, T, T, T, T, O, O] rfl rfl (any_of HT_.out (by kernel_rfl)) (fun _ _ _ h => h) (Or.inl ⟨by rfl, ?_⟩) ?_ ?_; rotate_left; focus (intro w'; go_simp; with_reducible rfl)
      rotate_left; focus (simp only [Act.put, List.setIfInBounds_toArray, List.set_cons_zero, List.set_cons_succ, i64_w, i32_w]; rfl)
      refine pure_ (i := 41) (N := some 79) (v := ?_) (a' := ?_) #[T, T, T, T, T, T, T, T, T, T, T, T, T, T, T, T, T, T, T, T, T, T, T, T, T, T, T, T, T, T, T, T, T, T, T, T, T, T, T, T, T, T, O] rfl rfl (any_of HT_.out (by kernel_rfl)) (fun _ _ _ h => h) (Or.inl ⟨by rfl, ?_⟩) ?_ ?_; rotate_left; focus (intro w'; go_simp; with_reducible rfl)
      rotate_left; focus (simp only [Act.put, List.setIfInBounds_toArray, List.set_cons_zero, List.set_cons_succ, i64_w, i32_w]; rfl)
      refine pure_ (i := 42) (N := some 4) (v := ?_) (a' := ?_) #[T, T, T, T, T, T, T, T, T, T, T, T, T, T, T, T, T, T, T, T, T, T, T, T, T, T, T, T, T, T, T, T, T, T, T, T, T, T, T, T, T, T, T] rfl rfl (any_of HT_.out (by kernel_rfl)) (fun _ _ _ h => h) (Or.inl ⟨by rfl, ?_⟩) ?_ ?_; rotate_left; focus (intro w'; go_simp; with_reducible rfl)
      rotate_left; focus (simp only [Act.put, List.setIfInBounds_toArray, List.set_cons_zero, List.set_cons_succ, i64_w, i32_w]; rfl)
      refine done_ (done_of HT_.out (by kernel_rfl)) ?_
      try go_wp2
      go_ret
      exact ⟨by first | rfl | (simp [errW_none, errW_some] <;> rfl) | (simp [*, errW_none, errW_some] <;> rfl), ky HB⟩
end Go.Proofs.Ytpjbniihdndlmaa.Q
