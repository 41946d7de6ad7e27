-- Printed by wip/pp.sh (a session's own turning of the kit's print) for this seat.
import Derived.Test.YtpjbniihdndlmabQx0
import Derived.Test.YtpjbniihdndlmabQx23
namespace Go.Proofs.Ytpjbniihdndlmab.Q
open Go.RowKit Go.Proofs.YtpjbniihdndlmabW.PrintWords Go.Proofs.YtpjbniihdndlmabW.PrintLast Go.Proofs.YtpjbniihdndlmabW.PrintMore
open Go.Proofs.Ytpjbniihdndlmab.H
attribute [local go_sem] hq_add64 hq_sub64 hq_not64 add64c_nn sub64c_nn sub64c_le
attribute [local go_sem] max2_int min2_int max_two min_two max_three min_three max_four min_four   -- for this text's walks alone
set_option linter.unusedVariables false
set_option linter.unusedSimpArgs false

/-! ### frac_Floor: function 19 -/
def frac_Floor.f (k : Nat) (a0_0 : Int) (a0_1 : Int) (a0_2 : Int) (a0_3 : Int) : Option (Int × Int) := (wide_Div.f k a0_0 a0_1 a0_2 a0_3).bind fun bt198 => (some (bt198.1, bt198.2.1))
theorem frac_Floor.mono : ∀ a0 a1 a2 a3 k, LeO (frac_Floor.f k a0 a1 a2 a3) (frac_Floor.f (k + 1) a0 a1 a2 a3) := by
  intro a0 a1 a2 a3 k
  unfold frac_Floor.f
  repeat' first
      | (with_reducible exact wide_Div.mono _ _ _ _ _)
      | (with_reducible exact LeO.refl _)
      | (with_reducible exact LeO.none _)
      | (with_reducible refine LeO.ite ?_ ?_)
      | (with_reducible refine LeO.bind ?_ (fun _ => ?_))
      | exact wide_Div.mono _ _ _ _ _
      | exact LeO.none _
      | refine LeO.ite ?_ ?_
      | refine LeO.bind ?_ (fun _ => ?_)
set_option maxHeartbeats 8000000 in
set_option maxRecDepth 100000 in
theorem frac_Floor.calls (k : Nat) (a0_0 : Int) (a0_1 : Int) (a0_2 : Int) (a0_3 : Int) (r1 : Int) (r2 : Int) (w : World) (h : frac_Floor.f k a0_0 a0_1 a0_2 a0_3 = some (r1, r2)) :
    Calls Try.prog 19 #[.agg #[.int .i64 a0_0, .int .u64 a0_1, .int .i64 a0_2, .int .u64 a0_3]] w fun e w' => e = .returned (.agg #[.int .i64 r1, .int .u64 r2]) ∧ Below w.heap.size w w' := by
  have hu26 := Try.underlying26
  have hu24 := Try.underlying24
  have HB := Aside0.mk (Below.refl w.heap.size w)
  have H : ((wide_Div.f k a0_0 a0_1 a0_2 a0_3).bind fun bt198 => (some (bt198.1, bt198.2.1))) = some (r1, r2) := h
  clear h
  replace H := Option.bind_eq_some_iff.mp H
  obtain ⟨⟨t198, t199, t200, t201, t202⟩, A20, H⟩ := H
  replace H : (some (t198, t199)) = some (r1, r2) := H
  have A2 := Aside0.mk A20
  clear A20
  simp only [Option.some.injEq, Prod.mk.injEq] at H
  obtain ⟨rfl, rfl⟩ := H
  go_enter Try.func19, Try.ntmps19
  go_wp2_with (first | ((with_reducible refine gate_dst (N := 1) rfl ?_); refine box_event ?hg (N := 1) ?hd (cs := #[.int .i64 a0_0, .int .u64 a0_1, .int .i64 a0_2, .int .u64 a0_3]) (t := 26) ?hr ?_; (case hd => rfl); (case hg => rfl); (case hr => first | (go_simp; done) | (go_simp; rfl)); intro gb196 hg w3 hbox hb; have BK196 := Aside0.mk (hbox); have GW196 := kS HB hg; have GE196 := kS HB hg; replace HB := kB HB hb; clear hb hbox hg) | ((with_reducible refine gate_dst (N := 2) rfl ?_); refine box_event ?hg (N := 2) ?hd (cs := #[.int .i64 0, .int .u64 0]) (t := 24) ?hr ?_; (case hd => rfl); (case hg => rfl); (case hr => first | (go_simp; done) | (go_simp; rfl)); intro gb197 hg w4 hbox hb; have BK197 := Aside0.mk (hbox); have GW197 := kS HB hg; have GE197 := kS HB hg; have NB196_197 := kN BK196 hg; have NB197_196 := kM BK196 hg; replace BK196 := kb BK196 hb; replace HB := kB HB hb; clear hb hbox hg; have hnb5 := NB196_197.out; have hnc5 := NB197_196.out; have hcz6_0 : w4.cell? ⟨gb196, 0, none⟩ = some (.int .i64 a0_0) := kc BK196 0; have hcz6_1 : w4.cell? ⟨gb196, 1, none⟩ = some (.int .u64 a0_1) := kc BK196 1; have hcz6_2 : w4.cell? ⟨gb196, 2, none⟩ = some (.int .i64 a0_2) := kc BK196 2; have hcz6_3 : w4.cell? ⟨gb196, 3, none⟩ = some (.int .u64 a0_3) := kc BK196 3; have hfz6_0 := blk_frozen BK196.out 0; have hfz6_1 := blk_frozen BK196.out 1; have hfz6_2 := blk_frozen BK196.out 2; have hfz6_3 := blk_frozen BK196.out 3) | ((with_reducible refine gate_callee (f := 49) rfl ?_); refine goesL_ (some 11) rfl rfl Try.func49 (by kernel_rfl) rfl #[.agg #[.int .i64 a0_0, .int .u64 a0_1], .agg #[.int .i64 a0_2, .int .u64 a0_3]] rfl (by (try simp only [List.map_toArray, List.map_cons, List.map_nil]); first | done | rfl | (simp only [List.length_drop, List.length_take]; rfl)) ?_; (with_reducible refine (wide_Div.calls k a0_0 a0_1 a0_2 a0_3 t198 t199 t200 t201 t202 _ A2.out).mono ?_); rintro e w7 ⟨rfl, hb⟩; refine ⟨_, rfl, ?_⟩; replace BK196 := kb BK196 hb; replace BK197 := kb BK197 hb; replace HB := kB HB hb; (try clear hb); (try clear hb2); (try clear hk); (try clear hi)) | ((with_reducible refine gate_dst (N := 3) rfl ?_); refine box_event ?hg (N := 3) ?hd (cs := #[.int .i64 0, .int .u64 0]) (t := 24) ?hr ?_; (case hd => rfl); (case hg => rfl); (case hr => first | (go_simp; done) | (go_simp; rfl)); intro gb203 hg w8 hbox hb; have BK203 := Aside0.mk (hbox); have GW203 := kS HB hg; have GE203 := kS HB hg; have NB196_203 := kN BK196 hg; have NB203_196 := kM BK196 hg; have NB197_203 := kN BK197 hg; have NB203_197 := kM BK197 hg; replace BK196 := kb BK196 hb; replace BK197 := kb BK197 hb; replace HB := kB HB hb; clear hb hbox hg) | ((with_reducible refine gate_dst (N := 4) rfl ?_); refine box_event ?hg (N := 4) ?hd (cs := #[.int .i64 0, .int .u64 0]) (t := 24) ?hr ?_; (case hd => rfl); (case hg => rfl); (case hr => first | (go_simp; done) | (go_simp; rfl)); intro gb204 hg w9 hbox hb; have BK204 := Aside0.mk (hbox); have GW204 := kS HB hg; have GE204 := kS HB hg; have NB196_204 := kN BK196 hg; have NB204_196 := kM BK196 hg; have NB197_204 := kN BK197 hg; have NB204_197 := kM BK197 hg; have NB203_204 := kN BK203 hg; have NB204_203 := kM BK203 hg; replace BK196 := kb BK196 hb; replace BK197 := kb BK197 hb; replace BK203 := kb BK203 hb; replace HB := kB HB hb; clear hb hbox hg; have hnb10 := NB203_196.out; have hnc10 := NB196_203.out; have hnb11 := NB203_197.out; have hnc11 := NB197_203.out; have hnb12 := NB203_204.out; have hnc12 := NB204_203.out; have hcz13_0 : w9.cell? ⟨gb203, 0, none⟩ = some (.int .i64 0) := kc BK203 0; have hcz13_1 : w9.cell? ⟨gb203, 1, none⟩ = some (.int .u64 0) := kc BK203 1; have hfz13_0 := blk_frozen BK203.out 0; have hfz13_1 := blk_frozen BK203.out 1; have hnb14 := NB204_196.out; have hnc14 := NB196_204.out; have hnb15 := NB204_197.out; have hnc15 := NB197_204.out; have hcz16_0 : w9.cell? ⟨gb204, 0, none⟩ = some (.int .i64 0) := kc BK204 0; have hcz16_1 : w9.cell? ⟨gb204, 1, none⟩ = some (.int .u64 0) := kc BK204 1; have hfz16_0 := blk_frozen BK204.out 0; have hfz16_1 := blk_frozen BK204.out 1; have hcz17_0 : w9.cell? ⟨gb197, 0, none⟩ = some (.int .i64 0) := kc BK197 0; have hcz17_1 : w9.cell? ⟨gb197, 1, none⟩ = some (.int .u64 0) := kc BK197 1; have hfz17_0 := blk_frozen BK197.out 0; have hfz17_1 := blk_frozen BK197.out 1))
  refine bodyPost_ret (results_cell_row rfl _ _ gb197 24 #[.int .i64 t198, .int .u64 t199] (0, 0) _ rfl (by (with_reducible repeat (first | refine blk_drewN ?_ _ | refine blk_drew ?_ | refine blk_alloc ?_ _)); refine blk_put (cs := #[.int .i64 t198, .int .u64 0]) ?_ 1 _ rfl; (with_reducible repeat (first | refine blk_drewN ?_ _ | refine blk_drew ?_ | refine blk_alloc ?_ _)); refine blk_put (cs := #[.int .i64 0, .int .u64 0]) ?_ 0 _ rfl; (with_reducible repeat (first | refine blk_drewN ?_ _ | refine blk_drew ?_ | refine blk_alloc ?_ _)); refine blk_far ?_ NB197_204.out _; (with_reducible repeat (first | refine blk_drewN ?_ _ | refine blk_drew ?_ | refine blk_alloc ?_ _)); refine blk_far ?_ NB197_204.out _; (with_reducible repeat (first | refine blk_drewN ?_ _ | refine blk_drew ?_ | refine blk_alloc ?_ _)); refine blk_far ?_ NB197_203.out _; (with_reducible repeat (first | refine blk_drewN ?_ _ | refine blk_drew ?_ | refine blk_alloc ?_ _)); refine blk_far ?_ NB197_203.out _; (with_reducible repeat (first | refine blk_drewN ?_ _ | refine blk_drew ?_ | refine blk_alloc ?_ _)); exact BK197.out) Try.underlying24 rfl (by kernel_rfl)) rfl ?_
  exact ⟨by first | rfl | (simp [errW_none, errW_some] <;> rfl) | (simp [*, errW_none, errW_some] <;> rfl), ky HB⟩

end Go.Proofs.Ytpjbniihdndlmab.Q
