-- Printed by wip/pp.sh (a session's own turning of the kit's print) for this seat.
import Derived.Test.YtpjbniihdndlmaaQx0
import Derived.Test.YtpjbniihdndlmaaQx1
import Derived.Test.YtpjbniihdndlmaaQx5
import Derived.Test.YtpjbniihdndlmaaQx6
import Derived.Test.YtpjbniihdndlmaaQx7
import Derived.Test.YtpjbniihdndlmaaQx9
import Derived.Test.YtpjbniihdndlmaaQx10
namespace Go.Proofs.Ytpjbniihdndlmaa.Q
open Go.RowKit Go.Proofs.YtpjbniihdndlmaaW.PrintWords Go.Proofs.YtpjbniihdndlmaaW.PrintLast Go.Proofs.YtpjbniihdndlmaaW.PrintMore
open Go.Proofs.Ytpjbniihdndlmaa.H
attribute [local go_sem] hq_add64 hq_sub64 hq_not64 add64c_nn sub64c_nn sub64c_le
attribute [local go_sem] max2_int min2_int max_two min_two max_three min_three max_four min_four   -- for this text's walks alone
set_option linter.unusedVariables false
set_option linter.unusedSimpArgs false

attribute [local go_sem high] eqA24
/-! ### wide_Div: function 27 -/
def wide_Div.j0 : Nat → Bool → Int → Int → Int → Int → Int → Int → Option (Int × Int × Int × Int × Bool)
  | 0, _, _, _, _, _, _, _ => none
  | k + 1, x56, x187000, x187001, x188000, x188001, x189000, x189001 => if x56 = true then ((wide_Of.f (-1)).bind fun bt199 => ((wide_wrap.f x188000 x188001 bt199.1 bt199.2).bind fun bt201 => ((wide_turn.f x189000 x189001).bind fun bt203 => ((wide_wrap.f x187000 x187001 bt203.1 bt203.2).bind fun bt205 => (some (bt201.1, bt201.2, bt205.1, bt205.2, true)))))) else (some (x188000, x188001, x189000, x189001, true))
def wide_Div.f (k : Nat) (a0_0 : Int) (a0_1 : Int) (a1_0 : Int) (a1_1 : Int) : Option (Int × Int × Int × Int × Bool) := (wide_Sign.f a1_0 a1_1).bind fun t189 => (if t189 ≤ 0 then (some (0, 0, 0, 0, false)) else ((wide_size.f a0_0 a0_1).bind fun bt190 => ((wide_divide.f k bt190.1 bt190.2 (IntKind.u64.wrap (a1_0)) a1_1).bind fun bt192 => ((wide_signed.f bt192.1 bt192.2.1 (decide (a0_0 < 0))).bind fun bt196 => (if a0_0 < 0 then (wide_Div.j0 k (!((wrap64 (bt192.2.2.1)) == 0) || (!(bt192.2.2.2 == 0))) a1_0 a1_1 bt196.1 bt196.2.1 (wrap64 (bt192.2.2.1)) bt192.2.2.2) else (wide_Div.j0 k false a1_0 a1_1 bt196.1 bt196.2.1 (wrap64 (bt192.2.2.1)) bt192.2.2.2))))))
theorem wide_Div.mono_l : ∀ k, (∀ y0 y1 y2 y3 y4 y5 y6, LeO (wide_Div.j0 k y0 y1 y2 y3 y4 y5 y6) (wide_Div.j0 (k + 1) y0 y1 y2 y3 y4 y5 y6))
  | 0 => fun _ _ _ _ _ _ _ r h => by simp [wide_Div.j0] at h
  | k + 1 => by
    have ih0 := wide_Div.mono_l k
    · intro y0 y1 y2 y3 y4 y5 y6
      unfold wide_Div.j0
      repeat' first
      | (with_reducible exact ih0 _ _ _ _ _ _ _)
      | (with_reducible exact wide_divide.mono _ _ _ _ _)
      | (with_reducible exact LeO.refl _)
      | (with_reducible exact LeO.none _)
      | (with_reducible refine LeO.ite ?_ ?_)
      | (with_reducible refine LeO.bind ?_ (fun _ => ?_))
      | exact ih0 _ _ _ _ _ _ _
      | exact wide_divide.mono _ _ _ _ _
      | exact LeO.none _
      | refine LeO.ite ?_ ?_
      | refine LeO.bind ?_ (fun _ => ?_)
theorem wide_Div.mono : ∀ a0 a1 a2 a3 k, LeO (wide_Div.f k a0 a1 a2 a3) (wide_Div.f (k + 1) a0 a1 a2 a3) := by
  intro a0 a1 a2 a3 k
  have ih0 := wide_Div.mono_l k
  unfold wide_Div.f
  repeat' first
      | (with_reducible exact ih0 _ _ _ _ _ _ _)
      | (with_reducible exact wide_divide.mono _ _ _ _ _)
      | (with_reducible exact LeO.refl _)
      | (with_reducible exact LeO.none _)
      | (with_reducible refine LeO.ite ?_ ?_)
      | (with_reducible refine LeO.bind ?_ (fun _ => ?_))
      | exact ih0 _ _ _ _ _ _ _
      | exact wide_divide.mono _ _ _ _ _
      | exact LeO.none _
      | refine LeO.ite ?_ ?_
      | refine LeO.bind ?_ (fun _ => ?_)
set_option maxHeartbeats 8000000 in
set_option maxRecDepth 100000 in
theorem wide_Div.calls (k : Nat) (a0_0 : Int) (a0_1 : Int) (a1_0 : Int) (a1_1 : Int) (r1 : Int) (r2 : Int) (r3 : Int) (r4 : Int) (r5 : Bool) (w : World) (h : wide_Div.f k a0_0 a0_1 a1_0 a1_1 = some (r1, r2, r3, r4, r5)) :
    Calls Try.prog 27 #[.agg #[.int .i64 a0_0, .int .u64 a0_1], .agg #[.int .i64 a1_0, .int .u64 a1_1]] w fun e w' => e = .returned (.tuple #[.agg #[.int .i64 r1, .int .u64 r2], .agg #[.int .i64 r3, .int .u64 r4], .bool r5]) ∧ Below w.heap.size w w' := by
  have hu24 := Try.underlying24
  have HB := Aside0.mk (Below.refl w.heap.size w)
  have H : ((wide_Sign.f a1_0 a1_1).bind fun t189 => (if t189 ≤ 0 then (some (0, 0, 0, 0, false)) else ((wide_size.f a0_0 a0_1).bind fun bt190 => ((wide_divide.f k bt190.1 bt190.2 (IntKind.u64.wrap (a1_0)) a1_1).bind fun bt192 => ((wide_signed.f bt192.1 bt192.2.1 (decide (a0_0 < 0))).bind fun bt196 => (if a0_0 < 0 then (wide_Div.j0 k (!((wrap64 (bt192.2.2.1)) == 0) || (!(bt192.2.2.2 == 0))) a1_0 a1_1 bt196.1 bt196.2.1 (wrap64 (bt192.2.2.1)) bt192.2.2.2) else (wide_Div.j0 k false a1_0 a1_1 bt196.1 bt196.2.1 (wrap64 (bt192.2.2.1)) bt192.2.2.2))))))) = some (r1, r2, r3, r4, r5) := h
  clear h
  replace H := Option.bind_eq_some_iff.mp H
  obtain ⟨t189, A30, H⟩ := H
  replace H : (if t189 ≤ 0 then (some (0, 0, 0, 0, false)) else ((wide_size.f a0_0 a0_1).bind fun bt190 => ((wide_divide.f k bt190.1 bt190.2 (IntKind.u64.wrap (a1_0)) a1_1).bind fun bt192 => ((wide_signed.f bt192.1 bt192.2.1 (decide (a0_0 < 0))).bind fun bt196 => (if a0_0 < 0 then (wide_Div.j0 k (!((wrap64 (bt192.2.2.1)) == 0) || (!(bt192.2.2.2 == 0))) a1_0 a1_1 bt196.1 bt196.2.1 (wrap64 (bt192.2.2.1)) bt192.2.2.2) else (wide_Div.j0 k false a1_0 a1_1 bt196.1 bt196.2.1 (wrap64 (bt192.2.2.1)) bt192.2.2.2)))))) = some (r1, r2, r3, r4, r5) := H
  have A3 := Aside0.mk A30
  clear A30
  by_cases c4 : t189 ≤ 0
  · rw [if_pos c4] at H
    have c4b0 : decide (t189 ≤ 0) = true := decide_eq_true c4
    clear c4
    simp only [Option.some.injEq, Prod.mk.injEq] at H
    obtain ⟨rfl, rfl, rfl, rfl, rfl⟩ := H
    go_enter Try.func27, Try.ntmps27
    go_wp2_with (first | ((with_reducible refine gate_dst (N := 2) rfl ?_); refine box_event ?hg (N := 2) ?hd (cs := #[.int .i64 a0_0, .int .u64 a0_1]) (t := 24) ?hr ?_; (case hd => rfl); (case hg => rfl); (case hr => first | (go_simp; done) | (go_simp; rfl)); intro gb185 hg w5 hbox hb; have BK185 := Aside0.mk (hbox); have GW185 := kS HB hg; have GE185 := kS HB hg; replace HB := kB HB hb; clear hb hbox hg) | ((with_reducible refine gate_dst (N := 3) rfl ?_); refine box_event ?hg (N := 3) ?hd (cs := #[.int .i64 a1_0, .int .u64 a1_1]) (t := 24) ?hr ?_; (case hd => rfl); (case hg => rfl); (case hr => first | (go_simp; done) | (go_simp; rfl)); intro gb186 hg w6 hbox hb; have BK186 := Aside0.mk (hbox); have GW186 := kS HB hg; have GE186 := kS HB hg; have NB185_186 := kN BK185 hg; have NB186_185 := kM BK185 hg; replace BK185 := kb BK185 hb; replace HB := kB HB hb; clear hb hbox hg) | ((with_reducible refine gate_dst (N := 4) rfl ?_); refine box_event ?hg (N := 4) ?hd (cs := #[.int .i64 0, .int .u64 0]) (t := 24) ?hr ?_; (case hd => rfl); (case hg => rfl); (case hr => first | (go_simp; done) | (go_simp; rfl)); intro gb187 hg w7 hbox hb; have BK187 := Aside0.mk (hbox); have GW187 := kS HB hg; have GE187 := kS HB hg; have NB185_187 := kN BK185 hg; have NB187_185 := kM BK185 hg; have NB186_187 := kN BK186 hg; have NB187_186 := kM BK186 hg; replace BK185 := kb BK185 hb; replace BK186 := kb BK186 hb; replace HB := kB HB hb; clear hb hbox hg) | ((with_reducible refine gate_dst (N := 5) rfl ?_); refine box_event ?hg (N := 5) ?hd (cs := #[.int .i64 0, .int .u64 0]) (t := 24) ?hr ?_; (case hd => rfl); (case hg => rfl); (case hr => first | (go_simp; done) | (go_simp; rfl)); intro gb188 hg w8 hbox hb; have BK188 := Aside0.mk (hbox); have GW188 := kS HB hg; have GE188 := kS HB hg; have NB185_188 := kN BK185 hg; have NB188_185 := kM BK185 hg; have NB186_188 := kN BK186 hg; have NB188_186 := kM BK186 hg; have NB187_188 := kN BK187 hg; have NB188_187 := kM BK187 hg; replace BK185 := kb BK185 hb; replace BK186 := kb BK186 hb; replace BK187 := kb BK187 hb; replace HB := kB HB hb; clear hb hbox hg; have hnb9 := NB186_185.out; have hnc9 := NB185_186.out; have hnb10 := NB186_187.out; have hnc10 := NB187_186.out; have hnb11 := NB186_188.out; have hnc11 := NB188_186.out; have hcz12_0 : w8.cell? ⟨gb186, 0, none⟩ = some (.int .i64 a1_0) := kc BK186 0; have hcz12_1 : w8.cell? ⟨gb186, 1, none⟩ = some (.int .u64 a1_1) := kc BK186 1; have hfz12_0 := blk_frozen BK186.out 0; have hfz12_1 := blk_frozen BK186.out 1) | ((with_reducible refine gate_callee (f := 26) rfl ?_); refine goesL_ (some 14) rfl rfl Try.func26 (by kernel_rfl) rfl #[.agg #[.int .i64 a1_0, .int .u64 a1_1]] rfl (by (try simp only [List.map_toArray, List.map_cons, List.map_nil]); first | done | rfl | (simp only [List.length_drop, List.length_take]; rfl)) ?_; (with_reducible refine (wide_Sign.calls a1_0 a1_1 t189 _ A3.out).mono ?_); rintro e w13 ⟨rfl, hb⟩; refine ⟨_, rfl, ?_⟩; replace BK185 := kb BK185 hb; replace BK186 := kb BK186 hb; replace BK187 := kb BK187 hb; replace BK188 := kb BK188 hb; replace HB := kB HB hb; (try clear hb); (try clear hb2); (try clear hk); (try clear hi); have hnb14 := NB187_185.out; have hnc14 := NB185_187.out; have hnb15 := NB187_188.out; have hnc15 := NB188_187.out; have hcz16_0 : w13.cell? ⟨gb187, 0, none⟩ = some (.int .i64 0) := kc BK187 0; have hcz16_1 : w13.cell? ⟨gb187, 1, none⟩ = some (.int .u64 0) := kc BK187 1; have hfz16_0 := blk_frozen BK187.out 0; have hfz16_1 := blk_frozen BK187.out 1; have hnb17 := NB188_185.out; have hnc17 := NB185_188.out; have hcz18_0 : w13.cell? ⟨gb188, 0, none⟩ = some (.int .i64 0) := kc BK188 0; have hcz18_1 : w13.cell? ⟨gb188, 1, none⟩ = some (.int .u64 0) := kc BK188 1; have hfz18_0 := blk_frozen BK188.out 0; have hfz18_1 := blk_frozen BK188.out 1))
    refine bodyPost_ret (results_list (rs := [.cell 4 24, .cell 5 24, .tmp 6]) rfl (by simp) (.cell gb187 24 #[.int .i64 0, .int .u64 0] (0, 0) _ rfl (by (with_reducible repeat (first | refine blk_drewN ?_ _ | refine blk_drew ?_ | refine blk_alloc ?_ _)); refine blk_far ?_ NB187_188.out _; (with_reducible repeat (first | refine blk_drewN ?_ _ | refine blk_drew ?_ | refine blk_alloc ?_ _)); refine blk_far ?_ NB187_188.out _; (with_reducible repeat (first | refine blk_drewN ?_ _ | refine blk_drew ?_ | refine blk_alloc ?_ _)); refine blk_put (cs := #[.int .i64 0, .int .u64 0]) ?_ 1 _ rfl; (with_reducible repeat (first | refine blk_drewN ?_ _ | refine blk_drew ?_ | refine blk_alloc ?_ _)); refine blk_put (cs := #[.int .i64 0, .int .u64 0]) ?_ 0 _ rfl; (with_reducible repeat (first | refine blk_drewN ?_ _ | refine blk_drew ?_ | refine blk_alloc ?_ _)); exact BK187.out) Try.underlying24 rfl (by kernel_rfl) (.cell gb188 24 #[.int .i64 0, .int .u64 0] (0, 0) _ rfl (by (with_reducible repeat (first | refine blk_drewN ?_ _ | refine blk_drew ?_ | refine blk_alloc ?_ _)); refine blk_put (cs := #[.int .i64 0, .int .u64 0]) ?_ 1 _ rfl; (with_reducible repeat (first | refine blk_drewN ?_ _ | refine blk_drew ?_ | refine blk_alloc ?_ _)); refine blk_put (cs := #[.int .i64 0, .int .u64 0]) ?_ 0 _ rfl; (with_reducible repeat (first | refine blk_drewN ?_ _ | refine blk_drew ?_ | refine blk_alloc ?_ _)); refine blk_far ?_ NB188_187.out _; (with_reducible repeat (first | refine blk_drewN ?_ _ | refine blk_drew ?_ | refine blk_alloc ?_ _)); refine blk_far ?_ NB188_187.out _; (with_reducible repeat (first | refine blk_drewN ?_ _ | refine blk_drew ?_ | refine blk_alloc ?_ _)); exact BK188.out) Try.underlying24 rfl (by kernel_rfl) (.tmp .nil)))) rfl ?_
    exact ⟨by first | rfl | (simp [errW_none, errW_some] <;> rfl) | (simp [*, errW_none, errW_some] <;> rfl), ky HB⟩
  rw [if_neg c4] at H
  have c4b0 : decide (t189 ≤ 0) = false := decide_eq_false c4
  clear c4
  replace H := Option.bind_eq_some_iff.mp H
  obtain ⟨⟨t190, t191⟩, A190, H⟩ := H
  replace H : ((wide_divide.f k t190 t191 (IntKind.u64.wrap (a1_0)) a1_1).bind fun bt192 => ((wide_signed.f bt192.1 bt192.2.1 (decide (a0_0 < 0))).bind fun bt196 => (if a0_0 < 0 then (wide_Div.j0 k (!((wrap64 (bt192.2.2.1)) == 0) || (!(bt192.2.2.2 == 0))) a1_0 a1_1 bt196.1 bt196.2.1 (wrap64 (bt192.2.2.1)) bt192.2.2.2) else (wide_Div.j0 k false a1_0 a1_1 bt196.1 bt196.2.1 (wrap64 (bt192.2.2.1)) bt192.2.2.2)))) = some (r1, r2, r3, r4, r5) := H
  have A19 := Aside0.mk A190
  clear A190
  replace H := Option.bind_eq_some_iff.mp H
  obtain ⟨⟨t192, t193, t194, t195⟩, A200, H⟩ := H
  replace H : ((wide_signed.f t192 t193 (decide (a0_0 < 0))).bind fun bt196 => (if a0_0 < 0 then (wide_Div.j0 k (!((wrap64 (t194)) == 0) || (!(t195 == 0))) a1_0 a1_1 bt196.1 bt196.2.1 (wrap64 (t194)) t195) else (wide_Div.j0 k false a1_0 a1_1 bt196.1 bt196.2.1 (wrap64 (t194)) t195))) = some (r1, r2, r3, r4, r5) := H
  have A20 := Aside0.mk A200
  clear A200
  replace H := Option.bind_eq_some_iff.mp H
  obtain ⟨⟨t196, t197, t198⟩, A210, H⟩ := H
  replace H : (if a0_0 < 0 then (wide_Div.j0 k (!((wrap64 (t194)) == 0) || (!(t195 == 0))) a1_0 a1_1 t196 t197 (wrap64 (t194)) t195) else (wide_Div.j0 k false a1_0 a1_1 t196 t197 (wrap64 (t194)) t195)) = some (r1, r2, r3, r4, r5) := H
  have A21 := Aside0.mk A210
  clear A210
  have HC22 := Aside0.mk H
  clear H
  go_enter Try.func27, Try.ntmps27
  go_upto_region 7 with (first | ((with_reducible refine gate_dst (N := 2) rfl ?_); refine box_event ?hg (N := 2) ?hd (cs := #[.int .i64 a0_0, .int .u64 a0_1]) (t := 24) ?hr ?_; (case hd => rfl); (case hg => rfl); (case hr => first | (go_simp; done) | (go_simp; rfl)); intro gb185 hg w23 hbox hb; have BK185 := Aside0.mk (hbox); have GW185 := kS HB hg; have GE185 := kS HB hg; replace HB := kB HB hb; clear hb hbox hg) | ((with_reducible refine gate_dst (N := 3) rfl ?_); refine box_event ?hg (N := 3) ?hd (cs := #[.int .i64 a1_0, .int .u64 a1_1]) (t := 24) ?hr ?_; (case hd => rfl); (case hg => rfl); (case hr => first | (go_simp; done) | (go_simp; rfl)); intro gb186 hg w24 hbox hb; have BK186 := Aside0.mk (hbox); have GW186 := kS HB hg; have GE186 := kS HB hg; have NB185_186 := kN BK185 hg; have NB186_185 := kM BK185 hg; replace BK185 := kb BK185 hb; replace HB := kB HB hb; clear hb hbox hg) | ((with_reducible refine gate_dst (N := 4) rfl ?_); refine box_event ?hg (N := 4) ?hd (cs := #[.int .i64 0, .int .u64 0]) (t := 24) ?hr ?_; (case hd => rfl); (case hg => rfl); (case hr => first | (go_simp; done) | (go_simp; rfl)); intro gb187 hg w25 hbox hb; have BK187 := Aside0.mk (hbox); have GW187 := kS HB hg; have GE187 := kS HB hg; have NB185_187 := kN BK185 hg; have NB187_185 := kM BK185 hg; have NB186_187 := kN BK186 hg; have NB187_186 := kM BK186 hg; replace BK185 := kb BK185 hb; replace BK186 := kb BK186 hb; replace HB := kB HB hb; clear hb hbox hg) | ((with_reducible refine gate_dst (N := 5) rfl ?_); refine box_event ?hg (N := 5) ?hd (cs := #[.int .i64 0, .int .u64 0]) (t := 24) ?hr ?_; (case hd => rfl); (case hg => rfl); (case hr => first | (go_simp; done) | (go_simp; rfl)); intro gb188 hg w26 hbox hb; have BK188 := Aside0.mk (hbox); have GW188 := kS HB hg; have GE188 := kS HB hg; have NB185_188 := kN BK185 hg; have NB188_185 := kM BK185 hg; have NB186_188 := kN BK186 hg; have NB188_186 := kM BK186 hg; have NB187_188 := kN BK187 hg; have NB188_187 := kM BK187 hg; replace BK185 := kb BK185 hb; replace BK186 := kb BK186 hb; replace BK187 := kb BK187 hb; replace HB := kB HB hb; clear hb hbox hg; have hnb27 := NB186_185.out; have hnc27 := NB185_186.out; have hnb28 := NB186_187.out; have hnc28 := NB187_186.out; have hnb29 := NB186_188.out; have hnc29 := NB188_186.out; have hcz30_0 : w26.cell? ⟨gb186, 0, none⟩ = some (.int .i64 a1_0) := kc BK186 0; have hcz30_1 : w26.cell? ⟨gb186, 1, none⟩ = some (.int .u64 a1_1) := kc BK186 1; have hfz30_0 := blk_frozen BK186.out 0; have hfz30_1 := blk_frozen BK186.out 1) | ((with_reducible refine gate_callee (f := 26) rfl ?_); refine goesL_ (some 14) rfl rfl Try.func26 (by kernel_rfl) rfl #[.agg #[.int .i64 a1_0, .int .u64 a1_1]] rfl (by (try simp only [List.map_toArray, List.map_cons, List.map_nil]); first | done | rfl | (simp only [List.length_drop, List.length_take]; rfl)) ?_; (with_reducible refine (wide_Sign.calls a1_0 a1_1 t189 _ A3.out).mono ?_); rintro e w31 ⟨rfl, hb⟩; refine ⟨_, rfl, ?_⟩; replace BK185 := kb BK185 hb; replace BK186 := kb BK186 hb; replace BK187 := kb BK187 hb; replace BK188 := kb BK188 hb; replace HB := kB HB hb; (try clear hb); (try clear hb2); (try clear hk); (try clear hi); have hnb32 := NB185_187.out; have hnc32 := NB187_185.out; have hnb33 := NB185_188.out; have hnc33 := NB188_185.out; have hcz34_0 : w31.cell? ⟨gb185, 0, none⟩ = some (.int .i64 a0_0) := kc BK185 0; have hcz34_1 : w31.cell? ⟨gb185, 1, none⟩ = some (.int .u64 a0_1) := kc BK185 1; have hfz34_0 := blk_frozen BK185.out 0; have hfz34_1 := blk_frozen BK185.out 1) | ((with_reducible refine gate_callee (f := 51) rfl ?_); refine goesL_ (some 20) rfl rfl Try.func51 (by kernel_rfl) rfl #[.agg #[.int .i64 a0_0, .int .u64 a0_1]] rfl (by (try simp only [List.map_toArray, List.map_cons, List.map_nil]); first | done | rfl | (simp only [List.length_drop, List.length_take]; rfl)) ?_; (with_reducible refine (wide_size.calls a0_0 a0_1 t190 t191 _ A19.out).mono ?_); rintro e w35 ⟨rfl, hb⟩; refine ⟨_, rfl, ?_⟩; replace BK185 := kb BK185 hb; replace BK186 := kb BK186 hb; replace BK187 := kb BK187 hb; replace BK188 := kb BK188 hb; replace HB := kB HB hb; (try clear hb); (try clear hb2); (try clear hk); (try clear hi); have hcz36_0 : w35.cell? ⟨gb186, 0, none⟩ = some (.int .i64 a1_0) := kc BK186 0; have hcz36_1 : w35.cell? ⟨gb186, 1, none⟩ = some (.int .u64 a1_1) := kc BK186 1; have hfz36_0 := blk_frozen BK186.out 0; have hfz36_1 := blk_frozen BK186.out 1) | ((with_reducible refine gate_callee (f := 64) rfl ?_); refine goesL_ (some 31) rfl rfl Try.func64 (by kernel_rfl) rfl #[.int .u64 t190, .int .u64 t191, .int .u64 (IntKind.u64.wrap (a1_0)), .int .u64 a1_1] rfl (by (try simp only [List.map_toArray, List.map_cons, List.map_nil]); first | done | rfl | (simp only [List.length_drop, List.length_take]; rfl)) ?_; (with_reducible refine (wide_divide.calls k t190 t191 (IntKind.u64.wrap (a1_0)) a1_1 t192 t193 t194 t195 _ A20.out).mono ?_); rintro e w' ⟨rfl, ⟨nd, rfl⟩⟩; refine ⟨_, rfl, ?_⟩; (try (rw [drewN_self w35]; generalize hq_ : World.drewN w35 _ = w35; have n0_ : Aside0 (w35.heap[gb185]? = some (.cells #[.int .i64 a0_0, .int .u64 a0_1] 24 (0, 0))) := ⟨by rw [← hq_]; exact (kx BK185)⟩; have n1_ : Aside0 (w35.heap[gb186]? = some (.cells #[.int .i64 a1_0, .int .u64 a1_1] 24 (0, 0))) := ⟨by rw [← hq_]; exact (kx BK186)⟩; have n2_ : Aside0 (w35.heap[gb187]? = some (.cells #[.int .i64 0, .int .u64 0] 24 (0, 0))) := ⟨by rw [← hq_]; exact (kx BK187)⟩; have n3_ : Aside0 (w35.heap[gb188]? = some (.cells #[.int .i64 0, .int .u64 0] 24 (0, 0))) := ⟨by rw [← hq_]; exact (kx BK188)⟩; have n4_ : Aside0 (Below w.heap.size w w35) := ⟨by rw [← hq_]; exact (ky HB)⟩; clear BK185 BK186 BK187 BK188 HB hq_; have BK185 := n0_; have BK186 := n1_; have BK187 := n2_; have BK188 := n3_; have HB := n4_; clear n0_ n1_ n2_ n3_ n4_)); have hnb37 := NB188_187.out; have hnc37 := NB187_188.out; have hcz38_0 : w35.cell? ⟨gb188, 0, none⟩ = some (.int .i64 0) := kc BK188 0; have hcz38_1 : w35.cell? ⟨gb188, 1, none⟩ = some (.int .u64 0) := kc BK188 1; have hfz38_0 := blk_frozen BK188.out 0; have hfz38_1 := blk_frozen BK188.out 1; have hcz39_0 : w35.cell? ⟨gb185, 0, none⟩ = some (.int .i64 a0_0) := kc BK185 0; have hcz39_1 : w35.cell? ⟨gb185, 1, none⟩ = some (.int .u64 a0_1) := kc BK185 1; have hfz39_0 := blk_frozen BK185.out 0; have hfz39_1 := blk_frozen BK185.out 1) | ((with_reducible refine gate_callee (f := 54) rfl ?_); refine goesL_ (some 46) rfl rfl Try.func54 (by kernel_rfl) rfl #[.int .u64 t192, .int .u64 t193, .bool (decide (a0_0 < 0))] rfl (by (try simp only [List.map_toArray, List.map_cons, List.map_nil]); first | done | rfl | (simp only [List.length_drop, List.length_take]; rfl)) ?_; (with_reducible refine (wide_signed.calls t192 t193 (decide (a0_0 < 0)) t196 t197 t198 _ A21.out).mono ?_); rintro e w40 ⟨rfl, hb⟩; refine ⟨_, rfl, ?_⟩; have n0_ := kb BK185 hb; have n1_ := kb BK186 hb; have n2_ := kb BK187 hb; have n3_ := Aside0.mk (blk_below (g := gb188) (o := .cells #[.int .i64 (wrap64 (t194)), .int .u64 t195] 24 (0, 0)) (by (with_reducible repeat (first | refine blk_drewN ?_ _ | refine blk_drew ?_ | refine blk_alloc ?_ _)); refine blk_put (cs := #[.int .i64 (wrap64 (t194)), .int .u64 0]) ?_ 1 _ rfl; (with_reducible repeat (first | refine blk_drewN ?_ _ | refine blk_drew ?_ | refine blk_alloc ?_ _)); refine blk_put (cs := #[.int .i64 0, .int .u64 0]) ?_ 0 _ rfl; (with_reducible repeat (first | refine blk_drewN ?_ _ | refine blk_drew ?_ | refine blk_alloc ?_ _)); exact BK188.out) hb); have n4_ := kB HB hb; clear BK185; clear BK186; clear BK187; clear BK188; clear HB; have BK185 := n0_; have BK186 := n1_; have BK187 := n2_; have BK188 := n3_; have HB := n4_; clear n0_ n1_ n2_ n3_ n4_; (try clear hb); (try clear hb2); (try clear hk); (try clear hi); have hcz41_0 : w40.cell? ⟨gb187, 0, none⟩ = some (.int .i64 0) := kc BK187 0; have hcz41_1 : w40.cell? ⟨gb187, 1, none⟩ = some (.int .u64 0) := kc BK187 1; have hfz41_0 := blk_frozen BK187.out 0; have hfz41_1 := blk_frozen BK187.out 1))
  (try simp only [Act.put, List.setIfInBounds_toArray, List.set_cons_zero, List.set_cons_succ])
  go_cut [56] (fun v56 wc => ∃ (kq : Nat) (x56_21 : Bool), v56 = .bool x56_21 ∧ Aside0 (wide_Div.j0 kq x56_21 a1_0 a1_1 t196 t197 (wrap64 (t194)) t195 = some (r1, r2, r3, r4, r5)) ∧ Aside0 (kq ≤ k) ∧ Aside0 (wc.heap[gb185]? = some (.cells #[.int .i64 a0_0, .int .u64 a0_1] 24 (0, 0))) ∧ Aside0 (wc.heap[gb186]? = some (.cells #[.int .i64 a1_0, .int .u64 a1_1] 24 (0, 0))) ∧ Aside0 (wc.heap[gb187]? = some (.cells #[.int .i64 t196, .int .u64 t197] 24 (0, 0))) ∧ Aside0 (wc.heap[gb188]? = some (.cells #[.int .i64 (wrap64 (t194)), .int .u64 t195] 24 (0, 0))) ∧ Aside0 (Below w.heap.size w wc))
  case first =>
    have H := HC22.out; clear HC22
    by_cases c42 : a0_0 < 0
    rotate_left
    · rw [if_neg c42] at H
      have c42b0 : decide (a0_0 < 0) = false := decide_eq_false c42
      clear c42
      (first | rw [c42b0] | (simp only [i64_w, i32_w]; rw [c42b0]) | skip)
      have H' := Aside0.mk H
      clear H; have hnb50 := NB185_186.out; have hnc50 := NB186_185.out; have hnb51 := NB185_187.out; have hnc51 := NB187_185.out; have hnb52 := NB185_188.out; have hnc52 := NB188_185.out
      have hcz53_0 : w40.cell? ⟨gb185, 0, none⟩ = some (.int .i64 a0_0) := kc BK185 0
      have hcz53_1 : w40.cell? ⟨gb185, 1, none⟩ = some (.int .u64 a0_1) := kc BK185 1
      have hfz53_0 := blk_frozen BK185.out 0
      have hfz53_1 := blk_frozen BK185.out 1
      go_wp2
      go_meet
      case rel => exact ⟨_, (false), (by first | rfl | (simp; done) | (simp [*]; done)), H', ⟨by first | omega | exact Nat.le_refl _⟩, ⟨kx BK185⟩, ⟨kx BK186⟩, ⟨by (with_reducible repeat (first | refine blk_drewN ?_ _ | refine blk_drew ?_ | refine blk_alloc ?_ _)); refine blk_put (cs := #[.int .i64 t196, .int .u64 0]) ?_ 1 _ rfl; (with_reducible repeat (first | refine blk_drewN ?_ _ | refine blk_drew ?_ | refine blk_alloc ?_ _)); refine blk_put (cs := #[.int .i64 0, .int .u64 0]) ?_ 0 _ rfl; (with_reducible repeat (first | refine blk_drewN ?_ _ | refine blk_drew ?_ | refine blk_alloc ?_ _)); exact BK187.out⟩, ⟨kx BK188⟩, ⟨ky HB⟩⟩
    rw [if_pos c42] at H
    have c42b0 : decide (a0_0 < 0) = true := decide_eq_true c42
    clear c42
    (first | rw [c42b0] | (simp only [i64_w, i32_w]; rw [c42b0]) | skip)
    have H' := Aside0.mk H
    clear H; have hnb43 := NB185_186.out; have hnc43 := NB186_185.out; have hnb44 := NB185_187.out; have hnc44 := NB187_185.out; have hnb45 := NB185_188.out; have hnc45 := NB188_185.out
    have hcz46_0 : w40.cell? ⟨gb185, 0, none⟩ = some (.int .i64 a0_0) := kc BK185 0
    have hcz46_1 : w40.cell? ⟨gb185, 1, none⟩ = some (.int .u64 a0_1) := kc BK185 1
    have hfz46_0 := blk_frozen BK185.out 0
    have hfz46_1 := blk_frozen BK185.out 1
    have hnb47 := NB188_186.out; have hnc47 := NB186_188.out; have hnb48 := NB188_187.out; have hnc48 := NB187_188.out
    have hcz49_0 : w40.cell? ⟨gb188, 0, none⟩ = some (.int .i64 (wrap64 (t194))) := kc BK188 0
    have hcz49_1 : w40.cell? ⟨gb188, 1, none⟩ = some (.int .u64 t195) := kc BK188 1
    have hfz49_0 := blk_frozen BK188.out 0
    have hfz49_1 := blk_frozen BK188.out 1
    go_wp2
    go_meet
    case rel => exact ⟨_, ((!((wrap64 (t194)) == 0) || (!(t195 == 0)))), (by first | rfl | (simp; done) | (simp [*]; done)), H', ⟨by first | omega | exact Nat.le_refl _⟩, ⟨kx BK185⟩, ⟨kx BK186⟩, ⟨by (with_reducible repeat (first | refine blk_drewN ?_ _ | refine blk_drew ?_ | refine blk_alloc ?_ _)); refine blk_put (cs := #[.int .i64 t196, .int .u64 0]) ?_ 1 _ rfl; (with_reducible repeat (first | refine blk_drewN ?_ _ | refine blk_drew ?_ | refine blk_alloc ?_ _)); refine blk_put (cs := #[.int .i64 0, .int .u64 0]) ?_ 0 _ rfl; (with_reducible repeat (first | refine blk_drewN ?_ _ | refine blk_drew ?_ | refine blk_alloc ?_ _)); exact BK187.out⟩, ⟨kx BK188⟩, ⟨ky HB⟩⟩
  case rest =>
    clear HC22; try clear c1; try clear c2; try clear p2; try clear c3; try clear c4; try clear c4b0; try clear c5; try clear c6; try clear p6; try clear c9; try clear c10; try clear c11; try clear c14; try clear c15; try clear c17; try clear c26; try clear c27; try clear c28; try clear c29; try clear c32; try clear c33; try clear c37; try clear c42; try clear c42b0; try clear c43; try clear c44; try clear c45; try clear c47; try clear c48; try clear c50; try clear c51; try clear c52; try clear hcz12_0; try clear hcz12_1; try clear hcz16_0; try clear hcz16_1; try clear hcz18_0; try clear hcz18_1; try clear hcz30_0; try clear hcz30_1; try clear hcz34_0; try clear hcz34_1; try clear hcz36_0; try clear hcz36_1; try clear hcz38_0; try clear hcz38_1; try clear hcz39_0; try clear hcz39_1; try clear hcz41_0; try clear hcz41_1; try clear hcz46_0; try clear hcz46_1; try clear hcz49_0; try clear hcz49_1; try clear hcz53_0; try clear hcz53_1; try clear hfz12_0; try clear hfz12_1; try clear hfz16_0; try clear hfz16_1; try clear hfz18_0; try clear hfz18_1; try clear hfz30_0; try clear hfz30_1; try clear hfz34_0; try clear hfz34_1; try clear hfz36_0; try clear hfz36_1; try clear hfz38_0; try clear hfz38_1; try clear hfz39_0; try clear hfz39_1; try clear hfz41_0; try clear hfz41_1; try clear hfz46_0; try clear hfz46_1; try clear hfz49_0; try clear hfz49_1; try clear hfz53_0; try clear hfz53_1
    obtain ⟨kq, x56_21, rfl, HA, HJ21, BK185, BK186, BK187, BK188, HB⟩ := hcut
    cases kq with
    | zero => exact absurd HA.out (by simp [wide_Div.j0])
    | succ kj21 =>
      have H := HA.out; clear HA
      simp only [wide_Div.j0] at H
      by_cases c54 : x56_21 = true
      rotate_left
      · replace c54 := Bool.eq_false_iff.mpr c54
        subst c54
        have H1 : (some (t196, t197, (wrap64 (t194)), t195, true)) = some (r1, r2, r3, r4, r5) := by rw [if_neg (show ¬ (false = true) by decide)] at H; exact H
        clear H; have H := H1; clear H1
        simp only [Option.some.injEq, Prod.mk.injEq] at H
        obtain ⟨rfl, rfl, rfl, rfl, rfl⟩ := H
        have hnb77 := NB187_185.out; have hnc77 := NB185_187.out; have hnb78 := NB187_186.out; have hnc78 := NB186_187.out; have hnb79 := NB187_188.out; have hnc79 := NB188_187.out
        have hcz80_0 : wc.cell? ⟨gb187, 0, none⟩ = some (.int .i64 t196) := kc BK187 0
        have hcz80_1 : wc.cell? ⟨gb187, 1, none⟩ = some (.int .u64 t197) := kc BK187 1
        have hfz80_0 := blk_frozen BK187.out 0
        have hfz80_1 := blk_frozen BK187.out 1
        have hnb81 := NB188_185.out; have hnc81 := NB185_188.out; have hnb82 := NB188_186.out; have hnc82 := NB186_188.out
        have hcz83_0 : wc.cell? ⟨gb188, 0, none⟩ = some (.int .i64 (wrap64 (t194))) := kc BK188 0
        have hcz83_1 : wc.cell? ⟨gb188, 1, none⟩ = some (.int .u64 t195) := kc BK188 1
        have hfz83_0 := blk_frozen BK188.out 0
        have hfz83_1 := blk_frozen BK188.out 1
        go_wp2_with fail
        go_region
        all_goals go_wp2
        refine bodyPost_ret (results_list (rs := [.cell 4 24, .cell 5 24, .tmp 6]) rfl (by simp) (.cell gb187 24 #[.int .i64 t196, .int .u64 t197] (0, 0) _ rfl (by (with_reducible repeat (first | refine blk_drewN ?_ _ | refine blk_drew ?_ | refine blk_alloc ?_ _)); refine blk_far ?_ NB187_188.out _; (with_reducible repeat (first | refine blk_drewN ?_ _ | refine blk_drew ?_ | refine blk_alloc ?_ _)); refine blk_far ?_ NB187_188.out _; (with_reducible repeat (first | refine blk_drewN ?_ _ | refine blk_drew ?_ | refine blk_alloc ?_ _)); refine blk_put (cs := #[.int .i64 t196, .int .u64 t197]) ?_ 1 _ rfl; (with_reducible repeat (first | refine blk_drewN ?_ _ | refine blk_drew ?_ | refine blk_alloc ?_ _)); refine blk_put (cs := #[.int .i64 t196, .int .u64 t197]) ?_ 0 _ rfl; (with_reducible repeat (first | refine blk_drewN ?_ _ | refine blk_drew ?_ | refine blk_alloc ?_ _)); exact BK187.out) Try.underlying24 rfl (by kernel_rfl) (.cell gb188 24 #[.int .i64 (wrap64 (t194)), .int .u64 t195] (0, 0) _ rfl (by (with_reducible repeat (first | refine blk_drewN ?_ _ | refine blk_drew ?_ | refine blk_alloc ?_ _)); refine blk_put (cs := #[.int .i64 (wrap64 (t194)), .int .u64 t195]) ?_ 1 _ rfl; (with_reducible repeat (first | refine blk_drewN ?_ _ | refine blk_drew ?_ | refine blk_alloc ?_ _)); refine blk_put (cs := #[.int .i64 (wrap64 (t194)), .int .u64 t195]) ?_ 0 _ rfl; (with_reducible repeat (first | refine blk_drewN ?_ _ | refine blk_drew ?_ | refine blk_alloc ?_ _)); refine blk_far ?_ NB188_187.out _; (with_reducible repeat (first | refine blk_drewN ?_ _ | refine blk_drew ?_ | refine blk_alloc ?_ _)); refine blk_far ?_ NB188_187.out _; (with_reducible repeat (first | refine blk_drewN ?_ _ | refine blk_drew ?_ | refine blk_alloc ?_ _)); exact BK188.out) Try.underlying24 rfl (by kernel_rfl) (.tmp .nil)))) rfl ?_
        exact ⟨by first | rfl | (simp [errW_none, errW_some] <;> rfl) | (simp [*, errW_none, errW_some] <;> rfl), ky HB⟩

      subst c54
      have H1 : ((wide_Of.f (-1)).bind fun bt199 => ((wide_wrap.f t196 t197 bt199.1 bt199.2).bind fun bt201 => ((wide_turn.f (wrap64 (t194)) t195).bind fun bt203 => ((wide_wrap.f a1_0 a1_1 bt203.1 bt203.2).bind fun bt205 => (some (bt201.1, bt201.2, bt205.1, bt205.2, true)))))) = some (r1, r2, r3, r4, r5) := by rw [if_pos rfl] at H; exact H
      clear H; have H := H1; clear H1
      replace H := Option.bind_eq_some_iff.mp H
      obtain ⟨⟨t199, t200⟩, A550, H⟩ := H
      replace H : ((wide_wrap.f t196 t197 t199 t200).bind fun bt201 => ((wide_turn.f (wrap64 (t194)) t195).bind fun bt203 => ((wide_wrap.f a1_0 a1_1 bt203.1 bt203.2).bind fun bt205 => (some (bt201.1, bt201.2, bt205.1, bt205.2, true))))) = some (r1, r2, r3, r4, r5) := H
      have A55 := Aside0.mk A550
      clear A550
      replace H := Option.bind_eq_some_iff.mp H
      obtain ⟨⟨t201, t202⟩, A560, H⟩ := H
      replace H : ((wide_turn.f (wrap64 (t194)) t195).bind fun bt203 => ((wide_wrap.f a1_0 a1_1 bt203.1 bt203.2).bind fun bt205 => (some (t201, t202, bt205.1, bt205.2, true)))) = some (r1, r2, r3, r4, r5) := H
      have A56 := Aside0.mk A560
      clear A560
      replace H := Option.bind_eq_some_iff.mp H
      obtain ⟨⟨t203, t204⟩, A570, H⟩ := H
      replace H : ((wide_wrap.f a1_0 a1_1 t203 t204).bind fun bt205 => (some (t201, t202, bt205.1, bt205.2, true))) = some (r1, r2, r3, r4, r5) := H
      have A57 := Aside0.mk A570
      clear A570
      replace H := Option.bind_eq_some_iff.mp H
      obtain ⟨⟨t205, t206⟩, A580, H⟩ := H
      replace H : (some (t201, t202, t205, t206, true)) = some (r1, r2, r3, r4, r5) := H
      have A58 := Aside0.mk A580
      clear A580
      simp only [Option.some.injEq, Prod.mk.injEq] at H
      obtain ⟨rfl, rfl, rfl, rfl, rfl⟩ := H
      try go_wp2
      replace BK185 := Aside0.mk (blk_drew BK185.out)
      replace BK186 := Aside0.mk (blk_drew BK186.out)
      replace BK187 := Aside0.mk (blk_drew BK187.out)
      replace BK188 := Aside0.mk (blk_drew BK188.out)
      replace HB := Aside0.mk (below_drew1 HB.out)
      refine start_ (n := 4) (S := fun w' => w'.cell? ⟨gb187, 0, none⟩ = some (.int .i64 t196) ∧ w'.cell? ⟨gb187, 1, none⟩ = some (.int .u64 t197)) (ds := [3]) #[O, O, O, O] (by kernel_rfl) rfl rfl ⟨kc BK187 0, kc BK187 1⟩ (fun hHeld => ?_)
      generalize wc.drew = w59 at BK185 BK186 BK187 BK188 HB hHeld ⊢
      refine take_ (i := 0) (N := some 57) (v := ?_) (a' := ?_) #[T, O, O, O] rfl rfl (by kernel_rfl) (fun _ _ _ h => h) (Or.inl ⟨by rfl, ?_⟩) hHeld ?_ ?_; rotate_left; focus (rintro w' ⟨s0, s1⟩; go_simp; with_reducible rfl)
      rotate_left; focus (simp only [Act.put, List.setIfInBounds_toArray, List.set_cons_zero, List.set_cons_succ, i64_w, i32_w]; rfl)
      refine one_ (i := 1) (N := some 58) #[T, T, O, O] rfl rfl (by kernel_rfl) (by decide) (fun K hK => ?_)
      refine goes_ Try.func32 (by kernel_rfl) rfl #[.int .i64 (-1)] (by rfl) rfl rfl (by (try simp only [List.map_toArray, List.map_cons, List.map_nil]); first | done | rfl | (simp only [List.length_drop, List.length_take]; rfl)) ?_
      with_reducible refine (wide_Of.calls (-1) t199 t200 _ A55.out).mono ?_
      rintro e w60 ⟨rfl, hb⟩
      refine ⟨_, rfl, ?_⟩
      replace BK185 := kb BK185 hb
      replace BK186 := kb BK186 hb
      replace BK187 := kb BK187 hb
      replace BK188 := kb BK188 hb
      replace HB := kB HB hb
      (try clear hb)
      (try clear hb2)
      (try clear hk)
      (try clear hi)
      refine hK.out _ _ ⟨kc BK187 0, kc BK187 1⟩ (fun hHeld => ?_)
      clear hK K
      refine norm_ (a' := ?_) ?_ ?_
      rotate_left
      · show Act.put _ (some 58) _ = _
        simp only [Act.put, List.setIfInBounds_toArray, List.set_cons_zero, List.set_cons_succ, i64_w, i32_w]
        rfl
      refine one_ (i := 2) (N := some 59) #[T, T, T, O] rfl rfl (by kernel_rfl) (by decide) (fun K hK => ?_)
      refine goes_ Try.func65 (by kernel_rfl) rfl #[.agg #[.int .i64 t196, .int .u64 t197], .agg #[.int .i64 t199, .int .u64 t200]] (by rfl) rfl rfl (by (try simp only [List.map_toArray, List.map_cons, List.map_nil]); first | done | rfl | (simp only [List.length_drop, List.length_take]; rfl)) ?_
      with_reducible refine (wide_wrap.calls t196 t197 t199 t200 t201 t202 _ A56.out).mono ?_
      rintro e w61 ⟨rfl, hb⟩
      refine ⟨_, rfl, ?_⟩
      replace BK185 := kb BK185 hb
      replace BK186 := kb BK186 hb
      replace BK187 := kb BK187 hb
      replace BK188 := kb BK188 hb
      replace HB := kB HB hb
      (try clear hb)
      (try clear hb2)
      (try clear hk)
      (try clear hi)
      refine hK.out _ _ ⟨kc BK187 0, kc BK187 1⟩ (fun hHeld => ?_)
      clear hK K
      refine norm_ (a' := ?_) ?_ ?_
      rotate_left
      · show Act.put _ (some 59) _ = _
        simp only [Act.put, List.setIfInBounds_toArray, List.set_cons_zero, List.set_cons_succ, i64_w, i32_w]
        rfl
      refine last_ (i := 3) (N := none) #[T, T, T, T] rfl rfl (by kernel_rfl) (by decide) (fun K hK => ?_)
      have hs62 : w61.cell? ⟨gb187, 0, none⟩ = some (.int .i64 t196) := kc BK187 0
      have hfs62 := blk_frozen BK187.out 0
      have hns62_0 := NB185_187.out; have hns62_1 := NB186_187.out; have hns62_3 := NB188_187.out; have hms62_0 := NB187_185.out; have hms62_1 := NB187_186.out; have hms62_3 := NB187_188.out
      have hs63 : w61.cell? ⟨gb187, 1, none⟩ = some (.int .u64 t197) := kc BK187 1
      have hfs63 := blk_frozen BK187.out 1
      have hns63_0 := NB185_187.out; have hns63_1 := NB186_187.out; have hns63_3 := NB188_187.out; have hms63_0 := NB187_185.out; have hms63_1 := NB187_186.out; have hms63_3 := NB187_188.out
      refine skip_ (w1 := ?_) (by rfl) rfl ?_ ?_
      rotate_left
      · go_simp
        rfl
      refine hK.out _ _ ?_
      clear hK K
      refine done_ (by kernel_rfl) ?_
      try go_wp2
      have n0_ : Aside0 (((w61.setCell ⟨gb187, 0, none⟩ (.int .i64 t201)).setCell ⟨gb187, 1, none⟩ (.int .u64 t202)).heap[gb185]? = some (.cells #[.int .i64 a0_0, .int .u64 a0_1] 24 (0, 0))) := ⟨kx BK185⟩
      have n1_ : Aside0 (((w61.setCell ⟨gb187, 0, none⟩ (.int .i64 t201)).setCell ⟨gb187, 1, none⟩ (.int .u64 t202)).heap[gb186]? = some (.cells #[.int .i64 a1_0, .int .u64 a1_1] 24 (0, 0))) := ⟨kx BK186⟩
      have n2_ : Aside0 (((w61.setCell ⟨gb187, 0, none⟩ (.int .i64 t201)).setCell ⟨gb187, 1, none⟩ (.int .u64 t202)).heap[gb187]? = some (.cells #[.int .i64 t201, .int .u64 t202] 24 (0, 0))) := ⟨by (with_reducible repeat (first | refine blk_drewN ?_ _ | refine blk_drew ?_ | refine blk_alloc ?_ _)); refine blk_put (cs := #[.int .i64 t201, .int .u64 t197]) ?_ 1 _ rfl; (with_reducible repeat (first | refine blk_drewN ?_ _ | refine blk_drew ?_ | refine blk_alloc ?_ _)); refine blk_put (cs := #[.int .i64 t196, .int .u64 t197]) ?_ 0 _ rfl; (with_reducible repeat (first | refine blk_drewN ?_ _ | refine blk_drew ?_ | refine blk_alloc ?_ _)); exact BK187.out⟩
      have n3_ : Aside0 (((w61.setCell ⟨gb187, 0, none⟩ (.int .i64 t201)).setCell ⟨gb187, 1, none⟩ (.int .u64 t202)).heap[gb188]? = some (.cells #[.int .i64 (wrap64 (t194)), .int .u64 t195] 24 (0, 0))) := ⟨kx BK188⟩
      have n4_ : Aside0 (Below w.heap.size w ((w61.setCell ⟨gb187, 0, none⟩ (.int .i64 t201)).setCell ⟨gb187, 1, none⟩ (.int .u64 t202))) := ⟨ky HB⟩
      (try clear BK185)
      (try clear BK186)
      (try clear BK187)
      (try clear BK188)
      (try clear HB)
      generalize ((w61.setCell ⟨gb187, 0, none⟩ (.int .i64 t201)).setCell ⟨gb187, 1, none⟩ (.int .u64 t202)) = w64 at n0_ n1_ n2_ n3_ n4_ ⊢
      have BK185 := n0_; have BK186 := n1_; have BK187 := n2_; have BK188 := n3_; have HB := n4_
      clear n0_ n1_ n2_ n3_ n4_
      replace BK185 := Aside0.mk (blk_drew BK185.out)
      replace BK186 := Aside0.mk (blk_drew BK186.out)
      replace BK187 := Aside0.mk (blk_drew BK187.out)
      replace BK188 := Aside0.mk (blk_drew BK188.out)
      replace HB := Aside0.mk (below_drew1 HB.out)
      refine start_ (n := 5) (S := fun w' => w'.cell? ⟨gb186, 0, none⟩ = some (.int .i64 a1_0) ∧ w'.cell? ⟨gb186, 1, none⟩ = some (.int .u64 a1_1) ∧ w'.cell? ⟨gb188, 0, none⟩ = some (.int .i64 (wrap64 (t194))) ∧ w'.cell? ⟨gb188, 1, none⟩ = some (.int .u64 t195)) (ds := [4]) #[O, O, O, O, O] (by kernel_rfl) rfl rfl ⟨kc BK186 0, kc BK186 1, kc BK188 0, kc BK188 1⟩ (fun hHeld => ?_)
      generalize w64.drew = w65 at BK185 BK186 BK187 BK188 HB hHeld ⊢
      refine take_ (i := 0) (N := some 60) (v := ?_) (a' := ?_) #[T, O, O, O, O] rfl rfl (by kernel_rfl) (fun _ _ _ h => h) (Or.inl ⟨by rfl, ?_⟩) hHeld ?_ ?_; rotate_left; focus (rintro w' ⟨s0, s1, s2, s3⟩; go_simp; with_reducible rfl)
      rotate_left; focus (simp only [Act.put, List.setIfInBounds_toArray, List.set_cons_zero, List.set_cons_succ, i64_w, i32_w]; rfl)
      refine take_ (i := 1) (N := some 61) (v := ?_) (a' := ?_) #[T, T, O, O, O] rfl rfl (by kernel_rfl) (fun _ _ _ h => h) (Or.inl ⟨by rfl, ?_⟩) hHeld ?_ ?_; rotate_left; focus (rintro w' ⟨s0, s1, s2, s3⟩; go_simp; with_reducible rfl)
      rotate_left; focus (simp only [Act.put, List.setIfInBounds_toArray, List.set_cons_zero, List.set_cons_succ, i64_w, i32_w]; rfl)
      refine one_ (i := 2) (N := some 62) #[T, T, T, O, O] rfl rfl (by kernel_rfl) (by decide) (fun K hK => ?_)
      refine goes_ Try.func66 (by kernel_rfl) rfl #[.agg #[.int .i64 (wrap64 (t194)), .int .u64 t195]] (by rfl) rfl rfl (by (try simp only [List.map_toArray, List.map_cons, List.map_nil]); first | done | rfl | (simp only [List.length_drop, List.length_take]; rfl)) ?_
      with_reducible refine (wide_turn.calls (wrap64 (t194)) t195 t203 t204 _ A57.out).mono ?_
      rintro e w66 ⟨rfl, hb⟩
      refine ⟨_, rfl, ?_⟩
      replace BK185 := kb BK185 hb
      replace BK186 := kb BK186 hb
      replace BK187 := kb BK187 hb
      replace BK188 := kb BK188 hb
      replace HB := kB HB hb
      (try clear hb)
      (try clear hb2)
      (try clear hk)
      (try clear hi)
      refine hK.out _ _ ⟨kc BK186 0, kc BK186 1, kc BK188 0, kc BK188 1⟩ (fun hHeld => ?_)
      clear hK K
      refine norm_ (a' := ?_) ?_ ?_
      rotate_left
      · show Act.put _ (some 62) _ = _
        simp only [Act.put, List.setIfInBounds_toArray, List.set_cons_zero, List.set_cons_succ, i64_w, i32_w]
        rfl
      refine one_ (i := 3) (N := some 63) #[T, T, T, T, O] rfl rfl (by kernel_rfl) (by decide) (fun K hK => ?_)
      refine goes_ Try.func65 (by kernel_rfl) rfl #[.agg #[.int .i64 a1_0, .int .u64 a1_1], .agg #[.int .i64 t203, .int .u64 t204]] (by rfl) rfl rfl (by (try simp only [List.map_toArray, List.map_cons, List.map_nil]); first | done | rfl | (simp only [List.length_drop, List.length_take]; rfl)) ?_
      with_reducible refine (wide_wrap.calls a1_0 a1_1 t203 t204 t205 t206 _ A58.out).mono ?_
      rintro e w67 ⟨rfl, hb⟩
      refine ⟨_, rfl, ?_⟩
      replace BK185 := kb BK185 hb
      replace BK186 := kb BK186 hb
      replace BK187 := kb BK187 hb
      replace BK188 := kb BK188 hb
      replace HB := kB HB hb
      (try clear hb)
      (try clear hb2)
      (try clear hk)
      (try clear hi)
      refine hK.out _ _ ⟨kc BK186 0, kc BK186 1, kc BK188 0, kc BK188 1⟩ (fun hHeld => ?_)
      clear hK K
      refine norm_ (a' := ?_) ?_ ?_
      rotate_left
      · show Act.put _ (some 63) _ = _
        simp only [Act.put, List.setIfInBounds_toArray, List.set_cons_zero, List.set_cons_succ, i64_w, i32_w]
        rfl
      refine last_ (i := 4) (N := none) #[T, T, T, T, T] rfl rfl (by kernel_rfl) (by decide) (fun K hK => ?_)
      have hs68 : w67.cell? ⟨gb188, 0, none⟩ = some (.int .i64 (wrap64 (t194))) := kc BK188 0
      have hfs68 := blk_frozen BK188.out 0
      have hns68_0 := NB185_188.out; have hns68_1 := NB186_188.out; have hns68_2 := NB187_188.out; have hms68_0 := NB188_185.out; have hms68_1 := NB188_186.out; have hms68_2 := NB188_187.out
      have hs69 : w67.cell? ⟨gb188, 1, none⟩ = some (.int .u64 t195) := kc BK188 1
      have hfs69 := blk_frozen BK188.out 1
      have hns69_0 := NB185_188.out; have hns69_1 := NB186_188.out; have hns69_2 := NB187_188.out; have hms69_0 := NB188_185.out; have hms69_1 := NB188_186.out; have hms69_2 := NB188_187.out
      refine skip_ (w1 := ?_) (by rfl) rfl ?_ ?_
      rotate_left
      · go_simp
        rfl
      refine hK.out _ _ ?_
      clear hK K
      refine done_ (by kernel_rfl) ?_
      have hnb70 := NB187_185.out; have hnc70 := NB185_187.out; have hnb71 := NB187_186.out; have hnc71 := NB186_187.out; have hnb72 := NB187_188.out; have hnc72 := NB188_187.out
      have hcz73_0 : w67.cell? ⟨gb187, 0, none⟩ = some (.int .i64 t201) := kc BK187 0
      have hcz73_1 : w67.cell? ⟨gb187, 1, none⟩ = some (.int .u64 t202) := kc BK187 1
      have hfz73_0 := blk_frozen BK187.out 0
      have hfz73_1 := blk_frozen BK187.out 1
      have hnb74 := NB188_185.out; have hnc74 := NB185_188.out; have hnb75 := NB188_186.out; have hnc75 := NB186_188.out
      have hcz76_0 : w67.cell? ⟨gb188, 0, none⟩ = some (.int .i64 (wrap64 (t194))) := kc BK188 0
      have hcz76_1 : w67.cell? ⟨gb188, 1, none⟩ = some (.int .u64 t195) := kc BK188 1
      have hfz76_0 := blk_frozen BK188.out 0
      have hfz76_1 := blk_frozen BK188.out 1
      go_wp2_with fail
      go_region
      all_goals go_wp2
      refine bodyPost_ret (results_list (rs := [.cell 4 24, .cell 5 24, .tmp 6]) rfl (by simp) (.cell gb187 24 #[.int .i64 t201, .int .u64 t202] (0, 0) _ rfl (by (with_reducible repeat (first | refine blk_drewN ?_ _ | refine blk_drew ?_ | refine blk_alloc ?_ _)); refine blk_far ?_ NB187_188.out _; (with_reducible repeat (first | refine blk_drewN ?_ _ | refine blk_drew ?_ | refine blk_alloc ?_ _)); refine blk_far ?_ NB187_188.out _; (with_reducible repeat (first | refine blk_drewN ?_ _ | refine blk_drew ?_ | refine blk_alloc ?_ _)); refine blk_put (cs := #[.int .i64 t201, .int .u64 t202]) ?_ 1 _ rfl; (with_reducible repeat (first | refine blk_drewN ?_ _ | refine blk_drew ?_ | refine blk_alloc ?_ _)); refine blk_put (cs := #[.int .i64 t201, .int .u64 t202]) ?_ 0 _ rfl; (with_reducible repeat (first | refine blk_drewN ?_ _ | refine blk_drew ?_ | refine blk_alloc ?_ _)); refine blk_far ?_ NB187_188.out _; (with_reducible repeat (first | refine blk_drewN ?_ _ | refine blk_drew ?_ | refine blk_alloc ?_ _)); refine blk_far ?_ NB187_188.out _; (with_reducible repeat (first | refine blk_drewN ?_ _ | refine blk_drew ?_ | refine blk_alloc ?_ _)); exact BK187.out) Try.underlying24 rfl (by kernel_rfl) (.cell gb188 24 #[.int .i64 t205, .int .u64 t206] (0, 0) _ rfl (by (with_reducible repeat (first | refine blk_drewN ?_ _ | refine blk_drew ?_ | refine blk_alloc ?_ _)); refine blk_put (cs := #[.int .i64 t205, .int .u64 t206]) ?_ 1 _ rfl; (with_reducible repeat (first | refine blk_drewN ?_ _ | refine blk_drew ?_ | refine blk_alloc ?_ _)); refine blk_put (cs := #[.int .i64 t205, .int .u64 t206]) ?_ 0 _ rfl; (with_reducible repeat (first | refine blk_drewN ?_ _ | refine blk_drew ?_ | refine blk_alloc ?_ _)); refine blk_far ?_ NB188_187.out _; (with_reducible repeat (first | refine blk_drewN ?_ _ | refine blk_drew ?_ | refine blk_alloc ?_ _)); refine blk_far ?_ NB188_187.out _; (with_reducible repeat (first | refine blk_drewN ?_ _ | refine blk_drew ?_ | refine blk_alloc ?_ _)); refine blk_put (cs := #[.int .i64 t205, .int .u64 t195]) ?_ 1 _ rfl; (with_reducible repeat (first | refine blk_drewN ?_ _ | refine blk_drew ?_ | refine blk_alloc ?_ _)); refine blk_put (cs := #[.int .i64 (wrap64 (t194)), .int .u64 t195]) ?_ 0 _ rfl; (with_reducible repeat (first | refine blk_drewN ?_ _ | refine blk_drew ?_ | refine blk_alloc ?_ _)); exact BK188.out) Try.underlying24 rfl (by kernel_rfl) (.tmp .nil)))) rfl ?_
      exact ⟨by first | rfl | (simp [errW_none, errW_some] <;> rfl) | (simp [*, errW_none, errW_some] <;> rfl), ky HB⟩
end Go.Proofs.Ytpjbniihdndlmaa.Q
