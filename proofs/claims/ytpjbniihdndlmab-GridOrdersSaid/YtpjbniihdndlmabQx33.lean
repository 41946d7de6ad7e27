-- Printed by wip/pp.sh (a session's own turning of the kit's print) for this seat.
import Derived.Test.YtpjbniihdndlmabQx0
namespace Go.Proofs.Ytpjbniihdndlmab.Q
open Go.RowKit Go.Proofs.YtpjbniihdndlmabW.PrintWords Go.Proofs.YtpjbniihdndlmabW.PrintLast Go.Proofs.YtpjbniihdndlmabW.PrintMore
open Go.Proofs.Ytpjbniihdndlmab.H
attribute [local go_sem] hq_add64 hq_sub64 hq_not64 add64c_nn sub64c_nn sub64c_le
attribute [local go_sem] max2_int min2_int max_two min_two max_three min_three max_four min_four   -- for this text's walks alone
set_option linter.unusedVariables false
set_option linter.unusedSimpArgs false

/-! ### cobweblaw03_GridOrders_1: function 47 -/
def cobweblaw03_GridOrders_1.f (a0_0 : Int) (a0_1 : Int) (a1_0 : Int) (a1_1 : Int) : Option (Bool) := if a0_0 < a1_0 then (some true) else (if a0_0 = a1_0 then (some (decide (a0_1 < a1_1))) else (some false))
set_option maxHeartbeats 8000000 in
set_option maxRecDepth 100000 in
theorem cobweblaw03_GridOrders_1.calls (a0_0 : Int) (a0_1 : Int) (a1_0 : Int) (a1_1 : Int) (r : Bool) (w : World) (h : cobweblaw03_GridOrders_1.f a0_0 a0_1 a1_0 a1_1 = some r) :
  Calls Try.prog 47 #[.agg #[.int .i64 a0_0, .int .i64 a0_1], .agg #[.int .i64 a1_0, .int .i64 a1_1]] w fun e w' => e = .returned (.bool r) ∧ Below w.heap.size w w' := by
 have hu60 := Try.underlying60; have HB := Aside0.mk (Below.refl w.heap.size w); have H : (if a0_0 < a1_0 then (some true) else (if a0_0 = a1_0 then (some (decide (a0_1 < a1_1))) else (some false))) = some r := h; clear h
 by_cases c3 : a0_0 < a1_0
 ·rw [if_pos c3] at H
  have c3b0 : decide (a0_0 < a1_0) = true := decide_eq_true c3; clear c3; obtain rfl := Option.some.inj H
  go_enter Try.func47, Try.ntmps47
  go_wp2_with (first | ((with_reducible refine gate_dst (N := 2) rfl ?_); refine box_event ?hg (N := 2) ?hd (cs := #[.int .i64 a0_0, .int .i64 a0_1]) (t := 60) ?hr ?_; (case hd => rfl); (case hg => rfl); (case hr => first | (go_simp; done) | (go_simp; rfl)); intro gb1021 hg w4 hbox hb; have BK1021 := Aside0.mk (hbox); have GW1021 := kS HB hg; have GE1021 := kS HB hg; replace HB := kB HB hb; clear hb hbox hg) | ((with_reducible refine gate_dst (N := 3) rfl ?_); refine box_event ?hg (N := 3) ?hd (cs := #[.int .i64 a1_0, .int .i64 a1_1]) (t := 60) ?hr ?_; (case hd => rfl); (case hg => rfl); (case hr => first | (go_simp; done) | (go_simp; rfl)); intro gb1022 hg w5 hbox hb; have BK1022 := Aside0.mk (hbox); have GW1022 := kS HB hg; have GE1022 := kS HB hg; have NB1021_1022 := kN BK1021 hg; have NB1022_1021 := kM BK1021 hg; replace BK1021 := kb BK1021 hb; replace HB := kB HB hb; clear hb hbox hg; have hnb6 := NB1021_1022.out; have hnc6 := NB1022_1021.out; have hcz7_0 : w5.cell? ⟨gb1021, 0, none⟩ = some (.int .i64 a0_0) := kc BK1021 0; have hcz7_1 : w5.cell? ⟨gb1021, 1, none⟩ = some (.int .i64 a0_1) := kc BK1021 1; have hfz7_0 := blk_frozen BK1021.out 0; have hfz7_1 := blk_frozen BK1021.out 1; have hcz8_0 : w5.cell? ⟨gb1022, 0, none⟩ = some (.int .i64 a1_0) := kc BK1022 0; have hcz8_1 : w5.cell? ⟨gb1022, 1, none⟩ = some (.int .i64 a1_1) := kc BK1022 1; have hfz8_0 := blk_frozen BK1022.out 0; have hfz8_1 := blk_frozen BK1022.out 1))
  go_ret
  exact ⟨by first | rfl | (simp [errW_none, errW_some] <;> rfl) | (simp [*, errW_none, errW_some] <;> rfl), ky HB⟩
 rw [if_neg c3] at H
 have c3b0 : decide (a0_0 < a1_0) = false := decide_eq_false c3; clear c3
 by_cases c9 : a0_0 = a1_0
 rotate_left
 ·rw [if_neg c9] at H
  have c9b0 : (a0_0 == a1_0) = false := beq_eq_false_iff_ne.mpr c9; have c9b1 : (a0_0 != a1_0) = true := bne_iff_ne.mpr c9; obtain rfl := Option.some.inj H
  go_enter Try.func47, Try.ntmps47
  go_wp2_with (first | ((with_reducible refine gate_dst (N := 2) rfl ?_); refine box_event ?hg (N := 2) ?hd (cs := #[.int .i64 a0_0, .int .i64 a0_1]) (t := 60) ?hr ?_; (case hd => rfl); (case hg => rfl); (case hr => first | (go_simp; done) | (go_simp; rfl)); intro gb1021 hg w15 hbox hb; have BK1021 := Aside0.mk (hbox); have GW1021 := kS HB hg; have GE1021 := kS HB hg; replace HB := kB HB hb; clear hb hbox hg) | ((with_reducible refine gate_dst (N := 3) rfl ?_); refine box_event ?hg (N := 3) ?hd (cs := #[.int .i64 a1_0, .int .i64 a1_1]) (t := 60) ?hr ?_; (case hd => rfl); (case hg => rfl); (case hr => first | (go_simp; done) | (go_simp; rfl)); intro gb1022 hg w16 hbox hb; have BK1022 := Aside0.mk (hbox); have GW1022 := kS HB hg; have GE1022 := kS HB hg; have NB1021_1022 := kN BK1021 hg; have NB1022_1021 := kM BK1021 hg; replace BK1021 := kb BK1021 hb; replace HB := kB HB hb; clear hb hbox hg; have hnb17 := NB1021_1022.out; have hnc17 := NB1022_1021.out; have hcz18_0 : w16.cell? ⟨gb1021, 0, none⟩ = some (.int .i64 a0_0) := kc BK1021 0; have hcz18_1 : w16.cell? ⟨gb1021, 1, none⟩ = some (.int .i64 a0_1) := kc BK1021 1; have hfz18_0 := blk_frozen BK1021.out 0; have hfz18_1 := blk_frozen BK1021.out 1; have hcz19_0 : w16.cell? ⟨gb1022, 0, none⟩ = some (.int .i64 a1_0) := kc BK1022 0; have hcz19_1 : w16.cell? ⟨gb1022, 1, none⟩ = some (.int .i64 a1_1) := kc BK1022 1; have hfz19_0 := blk_frozen BK1022.out 0; have hfz19_1 := blk_frozen BK1022.out 1))
  go_ret
  exact ⟨by first | rfl | (simp [errW_none, errW_some] <;> rfl) | (simp [*, errW_none, errW_some] <;> rfl), ky HB⟩

 rw [if_pos c9] at H
 have c9b0 : (a0_0 == a1_0) = true := beq_iff_eq.mpr c9; have c9b1 : (a0_0 != a1_0) = false := bne_eq_false_iff_eq.mpr c9; clear c9; obtain rfl := Option.some.inj H
 go_enter Try.func47, Try.ntmps47
 go_wp2_with (first | ((with_reducible refine gate_dst (N := 2) rfl ?_); refine box_event ?hg (N := 2) ?hd (cs := #[.int .i64 a0_0, .int .i64 a0_1]) (t := 60) ?hr ?_; (case hd => rfl); (case hg => rfl); (case hr => first | (go_simp; done) | (go_simp; rfl)); intro gb1021 hg w10 hbox hb; have BK1021 := Aside0.mk (hbox); have GW1021 := kS HB hg; have GE1021 := kS HB hg; replace HB := kB HB hb; clear hb hbox hg) | ((with_reducible refine gate_dst (N := 3) rfl ?_); refine box_event ?hg (N := 3) ?hd (cs := #[.int .i64 a1_0, .int .i64 a1_1]) (t := 60) ?hr ?_; (case hd => rfl); (case hg => rfl); (case hr => first | (go_simp; done) | (go_simp; rfl)); intro gb1022 hg w11 hbox hb; have BK1022 := Aside0.mk (hbox); have GW1022 := kS HB hg; have GE1022 := kS HB hg; have NB1021_1022 := kN BK1021 hg; have NB1022_1021 := kM BK1021 hg; replace BK1021 := kb BK1021 hb; replace HB := kB HB hb; clear hb hbox hg; have hnb12 := NB1021_1022.out; have hnc12 := NB1022_1021.out; have hcz13_0 : w11.cell? ⟨gb1021, 0, none⟩ = some (.int .i64 a0_0) := kc BK1021 0; have hcz13_1 : w11.cell? ⟨gb1021, 1, none⟩ = some (.int .i64 a0_1) := kc BK1021 1; have hfz13_0 := blk_frozen BK1021.out 0; have hfz13_1 := blk_frozen BK1021.out 1; have hcz14_0 : w11.cell? ⟨gb1022, 0, none⟩ = some (.int .i64 a1_0) := kc BK1022 0; have hcz14_1 : w11.cell? ⟨gb1022, 1, none⟩ = some (.int .i64 a1_1) := kc BK1022 1; have hfz14_0 := blk_frozen BK1022.out 0; have hfz14_1 := blk_frozen BK1022.out 1))
 go_ret
 exact ⟨by first | rfl | (simp [errW_none, errW_some] <;> rfl) | (simp [*, errW_none, errW_some] <;> rfl), ky HB⟩
end Go.Proofs.Ytpjbniihdndlmab.Q
