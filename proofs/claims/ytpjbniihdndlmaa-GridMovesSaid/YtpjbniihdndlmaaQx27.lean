-- Printed by wip/pp.sh (a session's own turning of the kit's print) for this seat.
import Derived.Test.YtpjbniihdndlmaaQx0
import Derived.Test.YtpjbniihdndlmaaQx6
import Derived.Test.YtpjbniihdndlmaaQx7
import Derived.Test.YtpjbniihdndlmaaQx29
namespace Go.Proofs.Ytpjbniihdndlmaa.Q
open Go.RowKit Go.Proofs.YtpjbniihdndlmaaW.PrintWords Go.Proofs.YtpjbniihdndlmaaW.PrintLast Go.Proofs.YtpjbniihdndlmaaW.PrintMore
open Go.Proofs.Ytpjbniihdndlmaa.H
attribute [local go_sem] hq_add64 hq_sub64 hq_not64 add64c_nn sub64c_nn sub64c_le
attribute [local go_sem] max2_int min2_int max_two min_two max_three min_three max_four min_four   -- for this text's walks alone
set_option linter.unusedVariables false
set_option linter.unusedSimpArgs false

/-! ### frac_Of: function 50 -/
def frac_Of.f (a0 : Int) : Option (Int × Int × Int × Int) := (wide_Of.f a0).bind fun bt696 => ((wide_Of.f 1).bind fun bt698 => (some (bt696.1, bt696.2, bt698.1, bt698.2)))
set_option maxHeartbeats 8000000 in
set_option maxRecDepth 100000 in
theorem frac_Of.calls (a0 : Int) (r1 : Int) (r2 : Int) (r3 : Int) (r4 : Int) (w : World) (h : frac_Of.f a0 = some (r1, r2, r3, r4)) :
    Calls Try.prog 50 #[.int .i64 a0] w fun e w' => e = .returned (.agg #[.int .i64 r1, .int .u64 r2, .int .i64 r3, .int .u64 r4]) ∧ Below w.heap.size w w' := by
  have hu62 := Try.underlying62
  have HB := Aside0.mk (Below.refl w.heap.size w)
  have H : ((wide_Of.f a0).bind fun bt696 => ((wide_Of.f 1).bind fun bt698 => (some (bt696.1, bt696.2, bt698.1, bt698.2)))) = some (r1, r2, r3, r4) := h
  clear h
  replace H := Option.bind_eq_some_iff.mp H
  obtain ⟨⟨t696, t697⟩, A20, H⟩ := H
  replace H : ((wide_Of.f 1).bind fun bt698 => (some (t696, t697, bt698.1, bt698.2))) = some (r1, r2, r3, r4) := H
  have A2 := Aside0.mk A20
  clear A20
  replace H := Option.bind_eq_some_iff.mp H
  obtain ⟨⟨t698, t699⟩, A30, H⟩ := H
  replace H : (some (t696, t697, t698, t699)) = some (r1, r2, r3, r4) := H
  have A3 := Aside0.mk A30
  clear A30
  simp only [Option.some.injEq, Prod.mk.injEq] at H
  obtain ⟨rfl, rfl, rfl, rfl⟩ := H
  go_enter Try.func50, Try.ntmps50
  go_wp2_with (first | ((with_reducible refine gate_dst (N := 2) rfl ?_); refine box_event ?hg (N := 2) ?hd (cs := #[.int .i64 0, .int .u64 0, .int .i64 0, .int .u64 0]) (t := 62) ?hr ?_; (case hd => rfl); (case hg => rfl); (case hr => first | (go_simp; done) | (go_simp; rfl)); intro gb695 hg w4 hbox hb; have BK695 := Aside0.mk (hbox); have GW695 := kS HB hg; have GE695 := kS HB hg; replace HB := kB HB hb; clear hb hbox hg) | ((with_reducible refine gate_callee (f := 32) rfl ?_); refine goesL_ (some 4) rfl rfl Try.func32 (by kernel_rfl) rfl #[.int .i64 a0] rfl (by (try simp only [List.map_toArray, List.map_cons, List.map_nil]); first | done | rfl | (simp only [List.length_drop, List.length_take]; rfl)) ?_; (with_reducible refine (wide_Of.calls a0 t696 t697 _ A2.out).mono ?_); rintro e w5 ⟨rfl, hb⟩; refine ⟨_, rfl, ?_⟩; replace BK695 := kb BK695 hb; replace HB := kB HB hb; (try clear hb); (try clear hb2); (try clear hk); (try clear hi)) | ((with_reducible refine gate_callee (f := 32) rfl ?_); refine goesL_ (some 5) rfl rfl Try.func32 (by kernel_rfl) rfl #[.int .i64 1] rfl (by (try simp only [List.map_toArray, List.map_cons, List.map_nil]); first | done | rfl | (simp only [List.length_drop, List.length_take]; rfl)) ?_; (with_reducible refine (wide_Of.calls 1 t698 t699 _ A3.out).mono ?_); rintro e w6 ⟨rfl, hb⟩; refine ⟨_, rfl, ?_⟩; replace BK695 := kb BK695 hb; replace HB := kB HB hb; (try clear hb); (try clear hb2); (try clear hk); (try clear hi); have hcz7_0 : w6.cell? ⟨gb695, 0, none⟩ = some (.int .i64 0) := kc BK695 0; have hcz7_1 : w6.cell? ⟨gb695, 1, none⟩ = some (.int .u64 0) := kc BK695 1; have hcz7_2 : w6.cell? ⟨gb695, 2, none⟩ = some (.int .i64 0) := kc BK695 2; have hcz7_3 : w6.cell? ⟨gb695, 3, none⟩ = some (.int .u64 0) := kc BK695 3; have hfz7_0 := blk_frozen BK695.out 0; have hfz7_1 := blk_frozen BK695.out 1; have hfz7_2 := blk_frozen BK695.out 2; have hfz7_3 := blk_frozen BK695.out 3))
  refine bodyPost_ret (results_cell_row rfl _ _ gb695 62 #[.int .i64 t696, .int .u64 t697, .int .i64 t698, .int .u64 t699] (0, 0) _ rfl (by (with_reducible repeat (first | refine blk_drewN ?_ _ | refine blk_drew ?_ | refine blk_alloc ?_ _)); refine blk_put (cs := #[.int .i64 t696, .int .u64 t697, .int .i64 t698, .int .u64 0]) ?_ 3 _ rfl; (with_reducible repeat (first | refine blk_drewN ?_ _ | refine blk_drew ?_ | refine blk_alloc ?_ _)); refine blk_put (cs := #[.int .i64 t696, .int .u64 t697, .int .i64 0, .int .u64 0]) ?_ 2 _ rfl; (with_reducible repeat (first | refine blk_drewN ?_ _ | refine blk_drew ?_ | refine blk_alloc ?_ _)); refine blk_put (cs := #[.int .i64 t696, .int .u64 0, .int .i64 0, .int .u64 0]) ?_ 1 _ rfl; (with_reducible repeat (first | refine blk_drewN ?_ _ | refine blk_drew ?_ | refine blk_alloc ?_ _)); refine blk_put (cs := #[.int .i64 0, .int .u64 0, .int .i64 0, .int .u64 0]) ?_ 0 _ rfl; (with_reducible repeat (first | refine blk_drewN ?_ _ | refine blk_drew ?_ | refine blk_alloc ?_ _)); exact BK695.out) Try.underlying62 rfl (by kernel_rfl)) rfl ?_
  exact ⟨by first | rfl | (simp [errW_none, errW_some] <;> rfl) | (simp [*, errW_none, errW_some] <;> rfl), ky HB⟩

/-! ### frac_Floor: function 42 -/
def frac_Floor.f (k : Nat) (a0_0 : Int) (a0_1 : Int) (a0_2 : Int) (a0_3 : Int) : Option (Int × Int) := (wide_Div.f k a0_0 a0_1 a0_2 a0_3).bind fun bt706 => (some (bt706.1, bt706.2.1))
theorem frac_Floor.mono : ∀ a0 a1 a2 a3 k, LeO (frac_Floor.f k a0 a1 a2 a3) (frac_Floor.f (k + 1) a0 a1 a2 a3) := by
  intro a0 a1 a2 a3 k
  unfold frac_Floor.f
  repeat' first
      | (with_reducible exact wide_Div.mono _ _ _ _ _)
      | (with_reducible exact LeO.refl _)
      | (with_reducible exact LeO.none _)
      | (with_reducible refine LeO.ite ?_ ?_)
      | (with_reducible refine LeO.bind ?_ (fun _ => ?_))
      | exact wide_Div.mono _ _ _ _ _
      | exact LeO.none _
      | refine LeO.ite ?_ ?_
      | refine LeO.bind ?_ (fun _ => ?_)
set_option maxHeartbeats 8000000 in
set_option maxRecDepth 100000 in
theorem frac_Floor.calls (k : Nat) (a0_0 : Int) (a0_1 : Int) (a0_2 : Int) (a0_3 : Int) (r1 : Int) (r2 : Int) (w : World) (h : frac_Floor.f k a0_0 a0_1 a0_2 a0_3 = some (r1, r2)) :
    Calls Try.prog 42 #[.agg #[.int .i64 a0_0, .int .u64 a0_1, .int .i64 a0_2, .int .u64 a0_3]] w fun e w' => e = .returned (.agg #[.int .i64 r1, .int .u64 r2]) ∧ Below w.heap.size w w' := by
  have hu62 := Try.underlying62
  have hu24 := Try.underlying24
  have HB := Aside0.mk (Below.refl w.heap.size w)
  have H : ((wide_Div.f k a0_0 a0_1 a0_2 a0_3).bind fun bt706 => (some (bt706.1, bt706.2.1))) = some (r1, r2) := h
  clear h
  replace H := Option.bind_eq_some_iff.mp H
  obtain ⟨⟨t706, t707, t708, t709, t710⟩, A20, H⟩ := H
  replace H : (some (t706, t707)) = some (r1, r2) := H
  have A2 := Aside0.mk A20
  clear A20
  simp only [Option.some.injEq, Prod.mk.injEq] at H
  obtain ⟨rfl, rfl⟩ := H
  go_enter Try.func42, Try.ntmps42
  go_wp2_with (first | ((with_reducible refine gate_dst (N := 1) rfl ?_); refine box_event ?hg (N := 1) ?hd (cs := #[.int .i64 a0_0, .int .u64 a0_1, .int .i64 a0_2, .int .u64 a0_3]) (t := 62) ?hr ?_; (case hd => rfl); (case hg => rfl); (case hr => first | (go_simp; done) | (go_simp; rfl)); intro gb704 hg w3 hbox hb; have BK704 := Aside0.mk (hbox); have GW704 := kS HB hg; have GE704 := kS HB hg; replace HB := kB HB hb; clear hb hbox hg) | ((with_reducible refine gate_dst (N := 2) rfl ?_); refine box_event ?hg (N := 2) ?hd (cs := #[.int .i64 0, .int .u64 0]) (t := 24) ?hr ?_; (case hd => rfl); (case hg => rfl); (case hr => first | (go_simp; done) | (go_simp; rfl)); intro gb705 hg w4 hbox hb; have BK705 := Aside0.mk (hbox); have GW705 := kS HB hg; have GE705 := kS HB hg; have NB704_705 := kN BK704 hg; have NB705_704 := kM BK704 hg; replace BK704 := kb BK704 hb; replace HB := kB HB hb; clear hb hbox hg; have hnb5 := NB704_705.out; have hnc5 := NB705_704.out; have hcz6_0 : w4.cell? ⟨gb704, 0, none⟩ = some (.int .i64 a0_0) := kc BK704 0; have hcz6_1 : w4.cell? ⟨gb704, 1, none⟩ = some (.int .u64 a0_1) := kc BK704 1; have hcz6_2 : w4.cell? ⟨gb704, 2, none⟩ = some (.int .i64 a0_2) := kc BK704 2; have hcz6_3 : w4.cell? ⟨gb704, 3, none⟩ = some (.int .u64 a0_3) := kc BK704 3; have hfz6_0 := blk_frozen BK704.out 0; have hfz6_1 := blk_frozen BK704.out 1; have hfz6_2 := blk_frozen BK704.out 2; have hfz6_3 := blk_frozen BK704.out 3) | ((with_reducible refine gate_callee (f := 27) rfl ?_); refine goesL_ (some 11) rfl rfl Try.func27 (by kernel_rfl) rfl #[.agg #[.int .i64 a0_0, .int .u64 a0_1], .agg #[.int .i64 a0_2, .int .u64 a0_3]] rfl (by (try simp only [List.map_toArray, List.map_cons, List.map_nil]); first | done | rfl | (simp only [List.length_drop, List.length_take]; rfl)) ?_; (with_reducible refine (wide_Div.calls k a0_0 a0_1 a0_2 a0_3 t706 t707 t708 t709 t710 _ A2.out).mono ?_); rintro e w7 ⟨rfl, hb⟩; refine ⟨_, rfl, ?_⟩; replace BK704 := kb BK704 hb; replace BK705 := kb BK705 hb; replace HB := kB HB hb; (try clear hb); (try clear hb2); (try clear hk); (try clear hi)) | ((with_reducible refine gate_dst (N := 3) rfl ?_); refine box_event ?hg (N := 3) ?hd (cs := #[.int .i64 0, .int .u64 0]) (t := 24) ?hr ?_; (case hd => rfl); (case hg => rfl); (case hr => first | (go_simp; done) | (go_simp; rfl)); intro gb711 hg w8 hbox hb; have BK711 := Aside0.mk (hbox); have GW711 := kS HB hg; have GE711 := kS HB hg; have NB704_711 := kN BK704 hg; have NB711_704 := kM BK704 hg; have NB705_711 := kN BK705 hg; have NB711_705 := kM BK705 hg; replace BK704 := kb BK704 hb; replace BK705 := kb BK705 hb; replace HB := kB HB hb; clear hb hbox hg) | ((with_reducible refine gate_dst (N := 4) rfl ?_); refine box_event ?hg (N := 4) ?hd (cs := #[.int .i64 0, .int .u64 0]) (t := 24) ?hr ?_; (case hd => rfl); (case hg => rfl); (case hr => first | (go_simp; done) | (go_simp; rfl)); intro gb712 hg w9 hbox hb; have BK712 := Aside0.mk (hbox); have GW712 := kS HB hg; have GE712 := kS HB hg; have NB704_712 := kN BK704 hg; have NB712_704 := kM BK704 hg; have NB705_712 := kN BK705 hg; have NB712_705 := kM BK705 hg; have NB711_712 := kN BK711 hg; have NB712_711 := kM BK711 hg; replace BK704 := kb BK704 hb; replace BK705 := kb BK705 hb; replace BK711 := kb BK711 hb; replace HB := kB HB hb; clear hb hbox hg; have hnb10 := NB711_704.out; have hnc10 := NB704_711.out; have hnb11 := NB711_705.out; have hnc11 := NB705_711.out; have hnb12 := NB711_712.out; have hnc12 := NB712_711.out; have hcz13_0 : w9.cell? ⟨gb711, 0, none⟩ = some (.int .i64 0) := kc BK711 0; have hcz13_1 : w9.cell? ⟨gb711, 1, none⟩ = some (.int .u64 0) := kc BK711 1; have hfz13_0 := blk_frozen BK711.out 0; have hfz13_1 := blk_frozen BK711.out 1; have hnb14 := NB712_704.out; have hnc14 := NB704_712.out; have hnb15 := NB712_705.out; have hnc15 := NB705_712.out; have hcz16_0 : w9.cell? ⟨gb712, 0, none⟩ = some (.int .i64 0) := kc BK712 0; have hcz16_1 : w9.cell? ⟨gb712, 1, none⟩ = some (.int .u64 0) := kc BK712 1; have hfz16_0 := blk_frozen BK712.out 0; have hfz16_1 := blk_frozen BK712.out 1; have hcz17_0 : w9.cell? ⟨gb705, 0, none⟩ = some (.int .i64 0) := kc BK705 0; have hcz17_1 : w9.cell? ⟨gb705, 1, none⟩ = some (.int .u64 0) := kc BK705 1; have hfz17_0 := blk_frozen BK705.out 0; have hfz17_1 := blk_frozen BK705.out 1))
  refine bodyPost_ret (results_cell_row rfl _ _ gb705 24 #[.int .i64 t706, .int .u64 t707] (0, 0) _ rfl (by (with_reducible repeat (first | refine blk_drewN ?_ _ | refine blk_drew ?_ | refine blk_alloc ?_ _)); refine blk_put (cs := #[.int .i64 t706, .int .u64 0]) ?_ 1 _ rfl; (with_reducible repeat (first | refine blk_drewN ?_ _ | refine blk_drew ?_ | refine blk_alloc ?_ _)); refine blk_put (cs := #[.int .i64 0, .int .u64 0]) ?_ 0 _ rfl; (with_reducible repeat (first | refine blk_drewN ?_ _ | refine blk_drew ?_ | refine blk_alloc ?_ _)); refine blk_far ?_ NB705_712.out _; (with_reducible repeat (first | refine blk_drewN ?_ _ | refine blk_drew ?_ | refine blk_alloc ?_ _)); refine blk_far ?_ NB705_712.out _; (with_reducible repeat (first | refine blk_drewN ?_ _ | refine blk_drew ?_ | refine blk_alloc ?_ _)); refine blk_far ?_ NB705_711.out _; (with_reducible repeat (first | refine blk_drewN ?_ _ | refine blk_drew ?_ | refine blk_alloc ?_ _)); refine blk_far ?_ NB705_711.out _; (with_reducible repeat (first | refine blk_drewN ?_ _ | refine blk_drew ?_ | refine blk_alloc ?_ _)); exact BK705.out) Try.underlying24 rfl (by kernel_rfl)) rfl ?_
  exact ⟨by first | rfl | (simp [errW_none, errW_some] <;> rfl) | (simp [*, errW_none, errW_some] <;> rfl), ky HB⟩

/-! ### frac_Right: function 49 -/
def frac_Right.f (a0_0 : Int) (a0_1 : Int) (a0_2 : Int) (a0_3 : Int) : Option (Bool) := (wide_Sign.f a0_2 a0_3).bind fun t714 => (some (decide (t714 > 0)))
set_option maxHeartbeats 8000000 in
set_option maxRecDepth 100000 in
theorem frac_Right.calls (a0_0 : Int) (a0_1 : Int) (a0_2 : Int) (a0_3 : Int) (r : Bool) (w : World) (h : frac_Right.f a0_0 a0_1 a0_2 a0_3 = some r) :
    Calls Try.prog 49 #[.agg #[.int .i64 a0_0, .int .u64 a0_1, .int .i64 a0_2, .int .u64 a0_3]] w fun e w' => e = .returned (.bool r) ∧ Below w.heap.size w w' := by
  have hu62 := Try.underlying62
  have hu24 := Try.underlying24
  have HB := Aside0.mk (Below.refl w.heap.size w)
  have H : ((wide_Sign.f a0_2 a0_3).bind fun t714 => (some (decide (t714 > 0)))) = some r := h
  clear h
  replace H := Option.bind_eq_some_iff.mp H
  obtain ⟨t714, A20, H⟩ := H
  replace H : (some (decide (t714 > 0))) = some r := H
  have A2 := Aside0.mk A20
  clear A20
  obtain rfl := Option.some.inj H
  go_enter Try.func49, Try.ntmps49
  go_wp2_with (first | ((with_reducible refine gate_dst (N := 1) rfl ?_); refine box_event ?hg (N := 1) ?hd (cs := #[.int .i64 a0_0, .int .u64 a0_1, .int .i64 a0_2, .int .u64 a0_3]) (t := 62) ?hr ?_; (case hd => rfl); (case hg => rfl); (case hr => first | (go_simp; done) | (go_simp; rfl)); intro gb713 hg w3 hbox hb; have BK713 := Aside0.mk (hbox); have GW713 := kS HB hg; have GE713 := kS HB hg; replace HB := kB HB hb; clear hb hbox hg; have hcz4_0 : w3.cell? ⟨gb713, 0, none⟩ = some (.int .i64 a0_0) := kc BK713 0; have hcz4_1 : w3.cell? ⟨gb713, 1, none⟩ = some (.int .u64 a0_1) := kc BK713 1; have hcz4_2 : w3.cell? ⟨gb713, 2, none⟩ = some (.int .i64 a0_2) := kc BK713 2; have hcz4_3 : w3.cell? ⟨gb713, 3, none⟩ = some (.int .u64 a0_3) := kc BK713 3; have hfz4_0 := blk_frozen BK713.out 0; have hfz4_1 := blk_frozen BK713.out 1; have hfz4_2 := blk_frozen BK713.out 2; have hfz4_3 := blk_frozen BK713.out 3) | ((with_reducible refine gate_callee (f := 26) rfl ?_); refine goesL_ (some 5) rfl rfl Try.func26 (by kernel_rfl) rfl #[.agg #[.int .i64 a0_2, .int .u64 a0_3]] rfl (by (try simp only [List.map_toArray, List.map_cons, List.map_nil]); first | done | rfl | (simp only [List.length_drop, List.length_take]; rfl)) ?_; (with_reducible refine (wide_Sign.calls a0_2 a0_3 t714 _ A2.out).mono ?_); rintro e w5 ⟨rfl, hb⟩; refine ⟨_, rfl, ?_⟩; replace BK713 := kb BK713 hb; replace HB := kB HB hb; (try clear hb); (try clear hb2); (try clear hk); (try clear hi)))
  go_ret
  exact ⟨by first | rfl | (simp [errW_none, errW_some] <;> rfl) | (simp [*, errW_none, errW_some] <;> rfl), ky HB⟩

/-! ### frac_up: function 75 -/
def frac_up.f (k : Nat) (a0_0 : Int) (a0_1 : Int) (a1_0 : Int) (a1_1 : Int) (a2_0 : Int) (a2_1 : Int) : Option (Int × Int) := (wide_Sub.f a2_0 a2_1 a1_0 a1_1).bind fun bt733 => ((wide_Cmp.f k a1_0 a1_1 bt733.1 bt733.2.1).bind fun t737 => (if t737 ≥ 0 then ((wide_Of.f 1).bind fun bt738 => ((wide_Add.f a0_0 a0_1 bt738.1 bt738.2).bind fun bt740 => (some (bt740.1, bt740.2.1)))) else (some (a0_0, a0_1))))
theorem frac_up.mono : ∀ a0 a1 a2 a3 a4 a5 k, LeO (frac_up.f k a0 a1 a2 a3 a4 a5) (frac_up.f (k + 1) a0 a1 a2 a3 a4 a5) := by
  intro a0 a1 a2 a3 a4 a5 k
  unfold frac_up.f
  repeat' first
      | (with_reducible exact wide_Cmp.mono _ _ _ _ _)
      | (with_reducible exact LeO.refl _)
      | (with_reducible exact LeO.none _)
      | (with_reducible refine LeO.ite ?_ ?_)
      | (with_reducible refine LeO.bind ?_ (fun _ => ?_))
      | exact wide_Cmp.mono _ _ _ _ _
      | exact LeO.none _
      | refine LeO.ite ?_ ?_
      | refine LeO.bind ?_ (fun _ => ?_)
set_option maxHeartbeats 8000000 in
set_option maxRecDepth 100000 in
theorem frac_up.calls (k : Nat) (a0_0 : Int) (a0_1 : Int) (a1_0 : Int) (a1_1 : Int) (a2_0 : Int) (a2_1 : Int) (r1 : Int) (r2 : Int) (w : World) (h : frac_up.f k a0_0 a0_1 a1_0 a1_1 a2_0 a2_1 = some (r1, r2)) :
    Calls Try.prog 75 #[.agg #[.int .i64 a0_0, .int .u64 a0_1], .agg #[.int .i64 a1_0, .int .u64 a1_1], .agg #[.int .i64 a2_0, .int .u64 a2_1]] w fun e w' => e = .returned (.agg #[.int .i64 r1, .int .u64 r2]) ∧ Below w.heap.size w w' := by
  have hu24 := Try.underlying24
  have HB := Aside0.mk (Below.refl w.heap.size w)
  have H : ((wide_Sub.f a2_0 a2_1 a1_0 a1_1).bind fun bt733 => ((wide_Cmp.f k a1_0 a1_1 bt733.1 bt733.2.1).bind fun t737 => (if t737 ≥ 0 then ((wide_Of.f 1).bind fun bt738 => ((wide_Add.f a0_0 a0_1 bt738.1 bt738.2).bind fun bt740 => (some (bt740.1, bt740.2.1)))) else (some (a0_0, a0_1))))) = some (r1, r2) := h
  clear h
  replace H := Option.bind_eq_some_iff.mp H
  obtain ⟨⟨t733, t734, t735⟩, A40, H⟩ := H
  replace H : ((wide_Cmp.f k a1_0 a1_1 t733 t734).bind fun t737 => (if t737 ≥ 0 then ((wide_Of.f 1).bind fun bt738 => ((wide_Add.f a0_0 a0_1 bt738.1 bt738.2).bind fun bt740 => (some (bt740.1, bt740.2.1)))) else (some (a0_0, a0_1)))) = some (r1, r2) := H
  have A4 := Aside0.mk A40
  clear A40
  replace H := Option.bind_eq_some_iff.mp H
  obtain ⟨t737, A50, H⟩ := H
  replace H : (if t737 ≥ 0 then ((wide_Of.f 1).bind fun bt738 => ((wide_Add.f a0_0 a0_1 bt738.1 bt738.2).bind fun bt740 => (some (bt740.1, bt740.2.1)))) else (some (a0_0, a0_1))) = some (r1, r2) := H
  have A5 := Aside0.mk A50
  clear A50
  by_cases c6 : t737 ≥ 0
  rotate_left
  · rw [if_neg c6] at H
    have c6b0 : decide (0 ≤ t737) = false := decide_eq_false c6
    clear c6
    simp only [Option.some.injEq, Prod.mk.injEq] at H
    obtain ⟨rfl, rfl⟩ := H
    go_enter Try.func75, Try.ntmps75
    go_wp2_with (first | ((with_reducible refine gate_dst (N := 3) rfl ?_); refine box_event ?hg (N := 3) ?hd (cs := #[.int .i64 a0_0, .int .u64 a0_1]) (t := 24) ?hr ?_; (case hd => rfl); (case hg => rfl); (case hr => first | (go_simp; done) | (go_simp; rfl)); intro gb729 hg w37 hbox hb; have BK729 := Aside0.mk (hbox); have GW729 := kS HB hg; have GE729 := kS HB hg; replace HB := kB HB hb; clear hb hbox hg) | ((with_reducible refine gate_dst (N := 4) rfl ?_); refine box_event ?hg (N := 4) ?hd (cs := #[.int .i64 a1_0, .int .u64 a1_1]) (t := 24) ?hr ?_; (case hd => rfl); (case hg => rfl); (case hr => first | (go_simp; done) | (go_simp; rfl)); intro gb730 hg w38 hbox hb; have BK730 := Aside0.mk (hbox); have GW730 := kS HB hg; have GE730 := kS HB hg; have NB729_730 := kN BK729 hg; have NB730_729 := kM BK729 hg; replace BK729 := kb BK729 hb; replace HB := kB HB hb; clear hb hbox hg) | ((with_reducible refine gate_dst (N := 5) rfl ?_); refine box_event ?hg (N := 5) ?hd (cs := #[.int .i64 a2_0, .int .u64 a2_1]) (t := 24) ?hr ?_; (case hd => rfl); (case hg => rfl); (case hr => first | (go_simp; done) | (go_simp; rfl)); intro gb731 hg w39 hbox hb; have BK731 := Aside0.mk (hbox); have GW731 := kS HB hg; have GE731 := kS HB hg; have NB729_731 := kN BK729 hg; have NB731_729 := kM BK729 hg; have NB730_731 := kN BK730 hg; have NB731_730 := kM BK730 hg; replace BK729 := kb BK729 hb; replace BK730 := kb BK730 hb; replace HB := kB HB hb; clear hb hbox hg) | ((with_reducible refine gate_dst (N := 6) rfl ?_); refine box_event ?hg (N := 6) ?hd (cs := #[.int .i64 0, .int .u64 0]) (t := 24) ?hr ?_; (case hd => rfl); (case hg => rfl); (case hr => first | (go_simp; done) | (go_simp; rfl)); intro gb732 hg w40 hbox hb; have BK732 := Aside0.mk (hbox); have GW732 := kS HB hg; have GE732 := kS HB hg; have NB729_732 := kN BK729 hg; have NB732_729 := kM BK729 hg; have NB730_732 := kN BK730 hg; have NB732_730 := kM BK730 hg; have NB731_732 := kN BK731 hg; have NB732_731 := kM BK731 hg; replace BK729 := kb BK729 hb; replace BK730 := kb BK730 hb; replace BK731 := kb BK731 hb; replace HB := kB HB hb; clear hb hbox hg; have hnb41 := NB731_729.out; have hnc41 := NB729_731.out; have hnb42 := NB731_730.out; have hnc42 := NB730_731.out; have hnb43 := NB731_732.out; have hnc43 := NB732_731.out; have hcz44_0 : w40.cell? ⟨gb731, 0, none⟩ = some (.int .i64 a2_0) := kc BK731 0; have hcz44_1 : w40.cell? ⟨gb731, 1, none⟩ = some (.int .u64 a2_1) := kc BK731 1; have hfz44_0 := blk_frozen BK731.out 0; have hfz44_1 := blk_frozen BK731.out 1; have hnb45 := NB730_729.out; have hnc45 := NB729_730.out; have hnb46 := NB730_732.out; have hnc46 := NB732_730.out; have hcz47_0 : w40.cell? ⟨gb730, 0, none⟩ = some (.int .i64 a1_0) := kc BK730 0; have hcz47_1 : w40.cell? ⟨gb730, 1, none⟩ = some (.int .u64 a1_1) := kc BK730 1; have hfz47_0 := blk_frozen BK730.out 0; have hfz47_1 := blk_frozen BK730.out 1) | ((with_reducible refine gate_callee (f := 43) rfl ?_); refine goesL_ (some 12) rfl rfl Try.func43 (by kernel_rfl) rfl #[.agg #[.int .i64 a2_0, .int .u64 a2_1], .agg #[.int .i64 a1_0, .int .u64 a1_1]] rfl (by (try simp only [List.map_toArray, List.map_cons, List.map_nil]); first | done | rfl | (simp only [List.length_drop, List.length_take]; rfl)) ?_; (with_reducible refine (wide_Sub.calls a2_0 a2_1 a1_0 a1_1 t733 t734 t735 _ A4.out).mono ?_); rintro e w48 ⟨rfl, hb⟩; refine ⟨_, rfl, ?_⟩; replace BK729 := kb BK729 hb; replace BK730 := kb BK730 hb; replace BK731 := kb BK731 hb; replace BK732 := kb BK732 hb; replace HB := kB HB hb; (try clear hb); (try clear hb2); (try clear hk); (try clear hi)) | ((with_reducible refine gate_dst (N := 7) rfl ?_); refine box_event ?hg (N := 7) ?hd (cs := #[.int .i64 0, .int .u64 0]) (t := 24) ?hr ?_; (case hd => rfl); (case hg => rfl); (case hr => first | (go_simp; done) | (go_simp; rfl)); intro gb736 hg w49 hbox hb; have BK736 := Aside0.mk (hbox); have GW736 := kS HB hg; have GE736 := kS HB hg; have NB729_736 := kN BK729 hg; have NB736_729 := kM BK729 hg; have NB730_736 := kN BK730 hg; have NB736_730 := kM BK730 hg; have NB731_736 := kN BK731 hg; have NB736_731 := kM BK731 hg; have NB732_736 := kN BK732 hg; have NB736_732 := kM BK732 hg; replace BK729 := kb BK729 hb; replace BK730 := kb BK730 hb; replace BK731 := kb BK731 hb; replace BK732 := kb BK732 hb; replace HB := kB HB hb; clear hb hbox hg; have hnb50 := NB736_729.out; have hnc50 := NB729_736.out; have hnb51 := NB736_730.out; have hnc51 := NB730_736.out; have hnb52 := NB736_731.out; have hnc52 := NB731_736.out; have hnb53 := NB736_732.out; have hnc53 := NB732_736.out; have hcz54_0 : w49.cell? ⟨gb736, 0, none⟩ = some (.int .i64 0) := kc BK736 0; have hcz54_1 : w49.cell? ⟨gb736, 1, none⟩ = some (.int .u64 0) := kc BK736 1; have hfz54_0 := blk_frozen BK736.out 0; have hfz54_1 := blk_frozen BK736.out 1; have hcz55_0 : w49.cell? ⟨gb730, 0, none⟩ = some (.int .i64 a1_0) := kc BK730 0; have hcz55_1 : w49.cell? ⟨gb730, 1, none⟩ = some (.int .u64 a1_1) := kc BK730 1; have hfz55_0 := blk_frozen BK730.out 0; have hfz55_1 := blk_frozen BK730.out 1) | ((with_reducible refine gate_callee (f := 24) rfl ?_); refine goesL_ (some 17) rfl rfl Try.func24 (by kernel_rfl) rfl #[.agg #[.int .i64 a1_0, .int .u64 a1_1], .agg #[.int .i64 t733, .int .u64 t734]] rfl (by (try simp only [List.map_toArray, List.map_cons, List.map_nil]); first | done | rfl | (simp only [List.length_drop, List.length_take]; rfl)) ?_; (with_reducible refine (wide_Cmp.calls k a1_0 a1_1 t733 t734 t737 _ A5.out).mono ?_); rintro e w56 ⟨rfl, hb⟩; refine ⟨_, rfl, ?_⟩; have n0_ := kb BK729 hb; have n1_ := kb BK730 hb; have n2_ := kb BK731 hb; have n3_ := kb BK732 hb; have n4_ := Aside0.mk (blk_below (g := gb736) (o := .cells #[.int .i64 t733, .int .u64 t734] 24 (0, 0)) (by (with_reducible repeat (first | refine blk_drewN ?_ _ | refine blk_drew ?_ | refine blk_alloc ?_ _)); refine blk_put (cs := #[.int .i64 t733, .int .u64 0]) ?_ 1 _ rfl; (with_reducible repeat (first | refine blk_drewN ?_ _ | refine blk_drew ?_ | refine blk_alloc ?_ _)); refine blk_put (cs := #[.int .i64 0, .int .u64 0]) ?_ 0 _ rfl; (with_reducible repeat (first | refine blk_drewN ?_ _ | refine blk_drew ?_ | refine blk_alloc ?_ _)); exact BK736.out) hb); have n5_ := kB HB hb; clear BK729; clear BK730; clear BK731; clear BK732; clear BK736; clear HB; have BK729 := n0_; have BK730 := n1_; have BK731 := n2_; have BK732 := n3_; have BK736 := n4_; have HB := n5_; clear n0_ n1_ n2_ n3_ n4_ n5_; (try clear hb); (try clear hb2); (try clear hk); (try clear hi); have hnb57 := NB729_732.out; have hnc57 := NB732_729.out; have hcz58_0 : w56.cell? ⟨gb729, 0, none⟩ = some (.int .i64 a0_0) := kc BK729 0; have hcz58_1 : w56.cell? ⟨gb729, 1, none⟩ = some (.int .u64 a0_1) := kc BK729 1; have hfz58_0 := blk_frozen BK729.out 0; have hfz58_1 := blk_frozen BK729.out 1; have hcz59_0 : w56.cell? ⟨gb732, 0, none⟩ = some (.int .i64 0) := kc BK732 0; have hcz59_1 : w56.cell? ⟨gb732, 1, none⟩ = some (.int .u64 0) := kc BK732 1; have hfz59_0 := blk_frozen BK732.out 0; have hfz59_1 := blk_frozen BK732.out 1))
    refine bodyPost_ret (results_cell_row rfl _ _ gb732 24 #[.int .i64 a0_0, .int .u64 a0_1] (0, 0) _ rfl (by (with_reducible repeat (first | refine blk_drewN ?_ _ | refine blk_drew ?_ | refine blk_alloc ?_ _)); refine blk_put (cs := #[.int .i64 a0_0, .int .u64 0]) ?_ 1 _ rfl; (with_reducible repeat (first | refine blk_drewN ?_ _ | refine blk_drew ?_ | refine blk_alloc ?_ _)); refine blk_put (cs := #[.int .i64 0, .int .u64 0]) ?_ 0 _ rfl; (with_reducible repeat (first | refine blk_drewN ?_ _ | refine blk_drew ?_ | refine blk_alloc ?_ _)); exact BK732.out) Try.underlying24 rfl (by kernel_rfl)) rfl ?_
    exact ⟨by first | rfl | (simp [errW_none, errW_some] <;> rfl) | (simp [*, errW_none, errW_some] <;> rfl), ky HB⟩

  rw [if_pos c6] at H
  have c6b0 : decide (0 ≤ t737) = true := decide_eq_true c6
  clear c6
  replace H := Option.bind_eq_some_iff.mp H
  obtain ⟨⟨t738, t739⟩, A70, H⟩ := H
  replace H : ((wide_Add.f a0_0 a0_1 t738 t739).bind fun bt740 => (some (bt740.1, bt740.2.1))) = some (r1, r2) := H
  have A7 := Aside0.mk A70
  clear A70
  replace H := Option.bind_eq_some_iff.mp H
  obtain ⟨⟨t740, t741, t742⟩, A80, H⟩ := H
  replace H : (some (t740, t741)) = some (r1, r2) := H
  have A8 := Aside0.mk A80
  clear A80
  simp only [Option.some.injEq, Prod.mk.injEq] at H
  obtain ⟨rfl, rfl⟩ := H
  go_enter Try.func75, Try.ntmps75
  try go_wp2_with (first | ((with_reducible refine gate_dst (N := 3) rfl ?_); refine box_event ?hg (N := 3) ?hd (cs := #[.int .i64 a0_0, .int .u64 a0_1]) (t := 24) ?hr ?_; (case hd => rfl); (case hg => rfl); (case hr => first | (go_simp; done) | (go_simp; rfl)); intro gb729 hg w9 hbox hb; have BK729 := Aside0.mk (hbox); have GW729 := kS HB hg; have GE729 := kS HB hg; replace HB := kB HB hb; clear hb hbox hg) | ((with_reducible refine gate_dst (N := 4) rfl ?_); refine box_event ?hg (N := 4) ?hd (cs := #[.int .i64 a1_0, .int .u64 a1_1]) (t := 24) ?hr ?_; (case hd => rfl); (case hg => rfl); (case hr => first | (go_simp; done) | (go_simp; rfl)); intro gb730 hg w10 hbox hb; have BK730 := Aside0.mk (hbox); have GW730 := kS HB hg; have GE730 := kS HB hg; have NB729_730 := kN BK729 hg; have NB730_729 := kM BK729 hg; replace BK729 := kb BK729 hb; replace HB := kB HB hb; clear hb hbox hg) | ((with_reducible refine gate_dst (N := 5) rfl ?_); refine box_event ?hg (N := 5) ?hd (cs := #[.int .i64 a2_0, .int .u64 a2_1]) (t := 24) ?hr ?_; (case hd => rfl); (case hg => rfl); (case hr => first | (go_simp; done) | (go_simp; rfl)); intro gb731 hg w11 hbox hb; have BK731 := Aside0.mk (hbox); have GW731 := kS HB hg; have GE731 := kS HB hg; have NB729_731 := kN BK729 hg; have NB731_729 := kM BK729 hg; have NB730_731 := kN BK730 hg; have NB731_730 := kM BK730 hg; replace BK729 := kb BK729 hb; replace BK730 := kb BK730 hb; replace HB := kB HB hb; clear hb hbox hg) | ((with_reducible refine gate_dst (N := 6) rfl ?_); refine box_event ?hg (N := 6) ?hd (cs := #[.int .i64 0, .int .u64 0]) (t := 24) ?hr ?_; (case hd => rfl); (case hg => rfl); (case hr => first | (go_simp; done) | (go_simp; rfl)); intro gb732 hg w12 hbox hb; have BK732 := Aside0.mk (hbox); have GW732 := kS HB hg; have GE732 := kS HB hg; have NB729_732 := kN BK729 hg; have NB732_729 := kM BK729 hg; have NB730_732 := kN BK730 hg; have NB732_730 := kM BK730 hg; have NB731_732 := kN BK731 hg; have NB732_731 := kM BK731 hg; replace BK729 := kb BK729 hb; replace BK730 := kb BK730 hb; replace BK731 := kb BK731 hb; replace HB := kB HB hb; clear hb hbox hg; have hnb13 := NB731_729.out; have hnc13 := NB729_731.out; have hnb14 := NB731_730.out; have hnc14 := NB730_731.out; have hnb15 := NB731_732.out; have hnc15 := NB732_731.out; have hcz16_0 : w12.cell? ⟨gb731, 0, none⟩ = some (.int .i64 a2_0) := kc BK731 0; have hcz16_1 : w12.cell? ⟨gb731, 1, none⟩ = some (.int .u64 a2_1) := kc BK731 1; have hfz16_0 := blk_frozen BK731.out 0; have hfz16_1 := blk_frozen BK731.out 1; have hnb17 := NB730_729.out; have hnc17 := NB729_730.out; have hnb18 := NB730_732.out; have hnc18 := NB732_730.out; have hcz19_0 : w12.cell? ⟨gb730, 0, none⟩ = some (.int .i64 a1_0) := kc BK730 0; have hcz19_1 : w12.cell? ⟨gb730, 1, none⟩ = some (.int .u64 a1_1) := kc BK730 1; have hfz19_0 := blk_frozen BK730.out 0; have hfz19_1 := blk_frozen BK730.out 1) | ((with_reducible refine gate_callee (f := 43) rfl ?_); refine goesL_ (some 12) rfl rfl Try.func43 (by kernel_rfl) rfl #[.agg #[.int .i64 a2_0, .int .u64 a2_1], .agg #[.int .i64 a1_0, .int .u64 a1_1]] rfl (by (try simp only [List.map_toArray, List.map_cons, List.map_nil]); first | done | rfl | (simp only [List.length_drop, List.length_take]; rfl)) ?_; (with_reducible refine (wide_Sub.calls a2_0 a2_1 a1_0 a1_1 t733 t734 t735 _ A4.out).mono ?_); rintro e w20 ⟨rfl, hb⟩; refine ⟨_, rfl, ?_⟩; replace BK729 := kb BK729 hb; replace BK730 := kb BK730 hb; replace BK731 := kb BK731 hb; replace BK732 := kb BK732 hb; replace HB := kB HB hb; (try clear hb); (try clear hb2); (try clear hk); (try clear hi)) | ((with_reducible refine gate_dst (N := 7) rfl ?_); refine box_event ?hg (N := 7) ?hd (cs := #[.int .i64 0, .int .u64 0]) (t := 24) ?hr ?_; (case hd => rfl); (case hg => rfl); (case hr => first | (go_simp; done) | (go_simp; rfl)); intro gb736 hg w21 hbox hb; have BK736 := Aside0.mk (hbox); have GW736 := kS HB hg; have GE736 := kS HB hg; have NB729_736 := kN BK729 hg; have NB736_729 := kM BK729 hg; have NB730_736 := kN BK730 hg; have NB736_730 := kM BK730 hg; have NB731_736 := kN BK731 hg; have NB736_731 := kM BK731 hg; have NB732_736 := kN BK732 hg; have NB736_732 := kM BK732 hg; replace BK729 := kb BK729 hb; replace BK730 := kb BK730 hb; replace BK731 := kb BK731 hb; replace BK732 := kb BK732 hb; replace HB := kB HB hb; clear hb hbox hg; have hnb22 := NB736_729.out; have hnc22 := NB729_736.out; have hnb23 := NB736_730.out; have hnc23 := NB730_736.out; have hnb24 := NB736_731.out; have hnc24 := NB731_736.out; have hnb25 := NB736_732.out; have hnc25 := NB732_736.out; have hcz26_0 : w21.cell? ⟨gb736, 0, none⟩ = some (.int .i64 0) := kc BK736 0; have hcz26_1 : w21.cell? ⟨gb736, 1, none⟩ = some (.int .u64 0) := kc BK736 1; have hfz26_0 := blk_frozen BK736.out 0; have hfz26_1 := blk_frozen BK736.out 1; have hcz27_0 : w21.cell? ⟨gb730, 0, none⟩ = some (.int .i64 a1_0) := kc BK730 0; have hcz27_1 : w21.cell? ⟨gb730, 1, none⟩ = some (.int .u64 a1_1) := kc BK730 1; have hfz27_0 := blk_frozen BK730.out 0; have hfz27_1 := blk_frozen BK730.out 1) | ((with_reducible refine gate_callee (f := 24) rfl ?_); refine goesL_ (some 17) rfl rfl Try.func24 (by kernel_rfl) rfl #[.agg #[.int .i64 a1_0, .int .u64 a1_1], .agg #[.int .i64 t733, .int .u64 t734]] rfl (by (try simp only [List.map_toArray, List.map_cons, List.map_nil]); first | done | rfl | (simp only [List.length_drop, List.length_take]; rfl)) ?_; (with_reducible refine (wide_Cmp.calls k a1_0 a1_1 t733 t734 t737 _ A5.out).mono ?_); rintro e w28 ⟨rfl, hb⟩; refine ⟨_, rfl, ?_⟩; have n0_ := kb BK729 hb; have n1_ := kb BK730 hb; have n2_ := kb BK731 hb; have n3_ := kb BK732 hb; have n4_ := Aside0.mk (blk_below (g := gb736) (o := .cells #[.int .i64 t733, .int .u64 t734] 24 (0, 0)) (by (with_reducible repeat (first | refine blk_drewN ?_ _ | refine blk_drew ?_ | refine blk_alloc ?_ _)); refine blk_put (cs := #[.int .i64 t733, .int .u64 0]) ?_ 1 _ rfl; (with_reducible repeat (first | refine blk_drewN ?_ _ | refine blk_drew ?_ | refine blk_alloc ?_ _)); refine blk_put (cs := #[.int .i64 0, .int .u64 0]) ?_ 0 _ rfl; (with_reducible repeat (first | refine blk_drewN ?_ _ | refine blk_drew ?_ | refine blk_alloc ?_ _)); exact BK736.out) hb); have n5_ := kB HB hb; clear BK729; clear BK730; clear BK731; clear BK732; clear BK736; clear HB; have BK729 := n0_; have BK730 := n1_; have BK731 := n2_; have BK732 := n3_; have BK736 := n4_; have HB := n5_; clear n0_ n1_ n2_ n3_ n4_ n5_; (try clear hb); (try clear hb2); (try clear hk); (try clear hi)))
  replace BK729 := Aside0.mk (blk_drew BK729.out)
  replace BK730 := Aside0.mk (blk_drew BK730.out)
  replace BK731 := Aside0.mk (blk_drew BK731.out)
  replace BK732 := Aside0.mk (blk_drew BK732.out)
  replace BK736 := Aside0.mk (blk_drew BK736.out)
  replace HB := Aside0.mk (below_drew1 HB.out)
  refine start_ (n := 7) (S := fun w' => w'.cell? ⟨gb729, 0, none⟩ = some (.int .i64 a0_0) ∧ w'.cell? ⟨gb729, 1, none⟩ = some (.int .u64 a0_1)) (ds := [6]) #[O, O, O, O, O, O, O] (by kernel_rfl) rfl rfl ⟨kc BK729 0, kc BK729 1⟩ (fun hHeld => ?_)
  generalize w28.drew = w29 at BK729 BK730 BK731 BK732 BK736 HB hHeld ⊢
  refine take_ (i := 0) (N := some 20) (v := ?_) (a' := ?_) #[T, O, O, O, O, O, O] rfl rfl (by kernel_rfl) (fun _ _ _ h => h) (Or.inl ⟨by rfl, ?_⟩) hHeld ?_ ?_; rotate_left; focus (rintro w' ⟨s0, s1⟩; go_simp; with_reducible rfl)
  rotate_left; focus (simp only [Act.put, s1, s2, s3, i64_w, i32_w]; rfl)
  refine one_ (i := 1) (N := some 21) #[T, T, O, O, O, O, O] rfl rfl (by kernel_rfl) (by decide) (fun K hK => ?_)
  refine goes_ Try.func32 (by kernel_rfl) rfl #[.int .i64 1] (by rfl) rfl rfl (by (try simp only [List.map_toArray, List.map_cons, List.map_nil]); first | done | rfl | (simp only [List.length_drop, List.length_take]; rfl)) ?_
  with_reducible refine (wide_Of.calls 1 t738 t739 _ A7.out).mono ?_
  rintro e w30 ⟨rfl, hb⟩
  refine ⟨_, rfl, ?_⟩
  replace BK729 := kb BK729 hb
  replace BK730 := kb BK730 hb
  replace BK731 := kb BK731 hb
  replace BK732 := kb BK732 hb
  replace BK736 := kb BK736 hb
  replace HB := kB HB hb
  (try clear hb); (try clear hb2); (try clear hk); (try clear hi)
  refine hK.out _ _ ⟨kc BK729 0, kc BK729 1⟩ (fun hHeld => ?_)
  clear hK K
  refine norm_ (a' := ?_) ?_ ?_; rotate_left; focus (show Act.put _ (some 21) _ = _; simp only [Act.put, s1, s2, s3, i64_w, i32_w]; rfl)
  refine one_ (i := 2) (N := some 22) #[T, T, T, O, O, O, O] rfl rfl (by kernel_rfl) (by decide) (fun K hK => ?_)
  refine goes_ Try.func29 (by kernel_rfl) rfl #[.agg #[.int .i64 a0_0, .int .u64 a0_1], .agg #[.int .i64 t738, .int .u64 t739]] (by rfl) rfl rfl (by (try simp only [List.map_toArray, List.map_cons, List.map_nil]); first | done | rfl | (simp only [List.length_drop, List.length_take]; rfl)) ?_
  with_reducible refine (wide_Add.calls a0_0 a0_1 t738 t739 t740 t741 t742 _ A8.out).mono ?_
  rintro e w31 ⟨rfl, hb⟩
  refine ⟨_, rfl, ?_⟩
  replace BK729 := kb BK729 hb
  replace BK730 := kb BK730 hb
  replace BK731 := kb BK731 hb
  replace BK732 := kb BK732 hb
  replace BK736 := kb BK736 hb
  replace HB := kB HB hb
  (try clear hb); (try clear hb2); (try clear hk); (try clear hi)
  refine hK.out _ _ ⟨kc BK729 0, kc BK729 1⟩ (fun hHeld => ?_)
  clear hK K
  refine norm_ (a' := ?_) ?_ ?_; rotate_left; focus (show Act.put _ (some 22) _ = _; simp only [Act.put, s1, s2, s3, i64_w, i32_w]; rfl)
  refine pure_ (i := 3) (N := some 19) (v := ?_) (a' := ?_) #[T, T, T, T, O, O, O] rfl rfl (by kernel_rfl) (fun _ _ _ h => h) (Or.inl ⟨by rfl, ?_⟩) ?_ ?_; rotate_left; focus (intro w'; go_simp; with_reducible rfl)
  rotate_left; focus (simp only [Act.put, s1, s2, s3, i64_w, i32_w]; rfl)
  refine pure_ (i := 4) (N := some 23) (v := ?_) (a' := ?_) #[T, T, T, T, T, O, O] rfl rfl (by kernel_rfl) (fun _ _ _ h => h) (Or.inl ⟨by rfl, ?_⟩) ?_ ?_; rotate_left; focus (intro w'; go_simp; with_reducible rfl)
  rotate_left; focus (simp only [Act.put, s1, s2, s3, i64_w, i32_w]; rfl)
  refine pure_ (i := 5) (N := some 24) (v := ?_) (a' := ?_) #[T, T, T, T, T, T, O] rfl rfl (by kernel_rfl) (fun _ _ _ h => h) (Or.inl ⟨by rfl, ?_⟩) ?_ ?_; rotate_left; focus (intro w'; go_simp; with_reducible rfl)
  rotate_left; focus (simp only [Act.put, s1, s2, s3, i64_w, i32_w]; rfl)
  refine last_ (i := 6) (N := none) #[T, T, T, T, T, T, T] rfl rfl (by kernel_rfl) (by decide) (fun K hK => ?_)
  have hs32 : w31.cell? ⟨gb729, 0, none⟩ = some (.int .i64 a0_0) := kc BK729 0
  have hfs32 := blk_frozen BK729.out 0
  have hns32_1 := NB730_729.out; have hns32_2 := NB731_729.out; have hns32_3 := NB732_729.out; have hns32_4 := NB736_729.out; have hms32_1 := NB729_730.out; have hms32_2 := NB729_731.out; have hms32_3 := NB729_732.out; have hms32_4 := NB729_736.out
  have hs33 : w31.cell? ⟨gb729, 1, none⟩ = some (.int .u64 a0_1) := kc BK729 1
  have hfs33 := blk_frozen BK729.out 1
  have hns33_1 := NB730_729.out; have hns33_2 := NB731_729.out; have hns33_3 := NB732_729.out; have hns33_4 := NB736_729.out; have hms33_1 := NB729_730.out; have hms33_2 := NB729_731.out; have hms33_3 := NB729_732.out; have hms33_4 := NB729_736.out
  refine skip_ (w1 := ?_) (by rfl) rfl ?_ ?_
  rotate_left
  · go_simp
    rfl
  refine hK.out _ _ ?_
  clear hK K
  refine done_ (by kernel_rfl) ?_
  have hnb34 := NB729_732.out; have hnc34 := NB732_729.out
  have hcz35_0 : w31.cell? ⟨gb729, 0, none⟩ = some (.int .i64 a0_0) := kc BK729 0
  have hcz35_1 : w31.cell? ⟨gb729, 1, none⟩ = some (.int .u64 a0_1) := kc BK729 1
  have hfz35_0 := blk_frozen BK729.out 0
  have hfz35_1 := blk_frozen BK729.out 1
  have hcz36_0 : w31.cell? ⟨gb732, 0, none⟩ = some (.int .i64 0) := kc BK732 0
  have hcz36_1 : w31.cell? ⟨gb732, 1, none⟩ = some (.int .u64 0) := kc BK732 1
  have hfz36_0 := blk_frozen BK732.out 0
  have hfz36_1 := blk_frozen BK732.out 1
  try go_wp2
  refine bodyPost_ret (results_cell_row rfl _ _ gb732 24 #[.int .i64 t740, .int .u64 t741] (0, 0) _ rfl (by (with_reducible repeat (first | refine blk_drewN ?_ _ | refine blk_drew ?_ | refine blk_alloc ?_ _)); refine blk_put (cs := #[.int .i64 t740, .int .u64 0]) ?_ 1 _ rfl; (with_reducible repeat (first | refine blk_drewN ?_ _ | refine blk_drew ?_ | refine blk_alloc ?_ _)); refine blk_put (cs := #[.int .i64 0, .int .u64 0]) ?_ 0 _ rfl; (with_reducible repeat (first | refine blk_drewN ?_ _ | refine blk_drew ?_ | refine blk_alloc ?_ _)); refine blk_far ?_ NB732_729.out _; (with_reducible repeat (first | refine blk_drewN ?_ _ | refine blk_drew ?_ | refine blk_alloc ?_ _)); refine blk_far ?_ NB732_729.out _; (with_reducible repeat (first | refine blk_drewN ?_ _ | refine blk_drew ?_ | refine blk_alloc ?_ _)); exact BK732.out) Try.underlying24 rfl (by kernel_rfl)) rfl ?_
  exact ⟨by first | rfl | (simp [errW_none, errW_some] <;> rfl) | (simp [*, errW_none, errW_some] <;> rfl), ky HB⟩
end Go.Proofs.Ytpjbniihdndlmaa.Q
