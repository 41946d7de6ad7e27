-- Printed by wip/pp.sh (a session's own turning of the kit's print) for this seat.
import Derived.Test.YtpjbniihdndlmabQx0
import Derived.Test.YtpjbniihdndlmabQx1
import Derived.Test.YtpjbniihdndlmabQx5
import Derived.Test.YtpjbniihdndlmabQx13
import Derived.Test.YtpjbniihdndlmabQx15
import Derived.Test.YtpjbniihdndlmabQx16
import Derived.Test.YtpjbniihdndlmabQx17
import Derived.Test.YtpjbniihdndlmabQx20
import Derived.Test.YtpjbniihdndlmabQx22
namespace Go.Proofs.Ytpjbniihdndlmab.Q
open Go.RowKit Go.Proofs.YtpjbniihdndlmabW.PrintWords Go.Proofs.YtpjbniihdndlmabW.PrintLast Go.Proofs.YtpjbniihdndlmabW.PrintMore
open Go.Proofs.Ytpjbniihdndlmab.H
attribute [local go_sem] hq_add64 hq_sub64 hq_not64 add64c_nn sub64c_nn sub64c_le
attribute [local go_sem] max2_int min2_int max_two min_two max_three min_three max_four min_four   -- for this text's walks alone
set_option linter.unusedVariables false
set_option linter.unusedSimpArgs false

attribute [local go_sem high] eqA24
/-! ### wide_Div: function 49 -/
def wide_Div.j0 : Nat → Bool → Int → Int → Int → Int → Int → Int → Option (Int × Int × Int × Int × Bool)
  | 0, _, _, _, _, _, _, _ => none
  | k + 1, x56, x151000, x151001, x152000, x152001, x153000, x153001 => if x56 = true then ((wide_Of.f (-1)).bind fun bt163 => ((wide_wrap.f x152000 x152001 bt163.1 bt163.2).bind fun bt165 => ((wide_turn.f x153000 x153001).bind fun bt167 => ((wide_wrap.f x151000 x151001 bt167.1 bt167.2).bind fun bt169 => (some (bt165.1, bt165.2, bt169.1, bt169.2, true)))))) else (some (x152000, x152001, x153000, x153001, true))
def wide_Div.f (k : Nat) (a0_0 : Int) (a0_1 : Int) (a1_0 : Int) (a1_1 : Int) : Option (Int × Int × Int × Int × Bool) := (wide_Sign.f a1_0 a1_1).bind fun t153 => (if t153 ≤ 0 then (some (0, 0, 0, 0, false)) else ((wide_size.f a0_0 a0_1).bind fun bt154 => ((wide_divide.f k bt154.1 bt154.2 (IntKind.u64.wrap (a1_0)) a1_1).bind fun bt156 => ((wide_signed.f bt156.1 bt156.2.1 (decide (a0_0 < 0))).bind fun bt160 => (if a0_0 < 0 then (wide_Div.j0 k (!((wrap64 (bt156.2.2.1)) == 0) || (!(bt156.2.2.2 == 0))) a1_0 a1_1 bt160.1 bt160.2.1 (wrap64 (bt156.2.2.1)) bt156.2.2.2) else (wide_Div.j0 k false a1_0 a1_1 bt160.1 bt160.2.1 (wrap64 (bt156.2.2.1)) bt156.2.2.2))))))
theorem wide_Div.mono_l : ∀ k, (∀ y0 y1 y2 y3 y4 y5 y6, LeO (wide_Div.j0 k y0 y1 y2 y3 y4 y5 y6) (wide_Div.j0 (k + 1) y0 y1 y2 y3 y4 y5 y6))
  | 0 => fun _ _ _ _ _ _ _ r h => by simp [wide_Div.j0] at h
  | k + 1 => by
    have ih0 := wide_Div.mono_l k
    · intro y0 y1 y2 y3 y4 y5 y6
      unfold wide_Div.j0
      repeat' first
      | (with_reducible exact ih0 _ _ _ _ _ _ _)
      | (with_reducible exact wide_divide.mono _ _ _ _ _)
      | (with_reducible exact LeO.refl _)
      | (with_reducible exact LeO.none _)
      | (with_reducible refine LeO.ite ?_ ?_)
      | (with_reducible refine LeO.bind ?_ (fun _ => ?_))
      | exact ih0 _ _ _ _ _ _ _
      | exact wide_divide.mono _ _ _ _ _
      | exact LeO.none _
      | refine LeO.ite ?_ ?_
      | refine LeO.bind ?_ (fun _ => ?_)
theorem wide_Div.mono : ∀ a0 a1 a2 a3 k, LeO (wide_Div.f k a0 a1 a2 a3) (wide_Div.f (k + 1) a0 a1 a2 a3) := by
  intro a0 a1 a2 a3 k
  have ih0 := wide_Div.mono_l k
  unfold wide_Div.f
  repeat' first
      | (with_reducible exact ih0 _ _ _ _ _ _ _)
      | (with_reducible exact wide_divide.mono _ _ _ _ _)
      | (with_reducible exact LeO.refl _)
      | (with_reducible exact LeO.none _)
      | (with_reducible refine LeO.ite ?_ ?_)
      | (with_reducible refine LeO.bind ?_ (fun _ => ?_))
      | exact ih0 _ _ _ _ _ _ _
      | exact wide_divide.mono _ _ _ _ _
      | exact LeO.none _
      | refine LeO.ite ?_ ?_
      | refine LeO.bind ?_ (fun _ => ?_)
set_option maxHeartbeats 8000000 in
set_option maxRecDepth 100000 in
theorem wide_Div.calls (k : Nat) (a0_0 : Int) (a0_1 : Int) (a1_0 : Int) (a1_1 : Int) (r1 : Int) (r2 : Int) (r3 : Int) (r4 : Int) (r5 : Bool) (w : World) (h : wide_Div.f k a0_0 a0_1 a1_0 a1_1 = some (r1, r2, r3, r4, r5)) :
    Calls Try.prog 49 #[.agg #[.int .i64 a0_0, .int .u64 a0_1], .agg #[.int .i64 a1_0, .int .u64 a1_1]] w fun e w' => e = .returned (.tuple #[.agg #[.int .i64 r1, .int .u64 r2], .agg #[.int .i64 r3, .int .u64 r4], .bool r5]) ∧ Below w.heap.size w w' := by
  have hu24 := Try.underlying24
  have HB := Aside0.mk (Below.refl w.heap.size w)
  have H : ((wide_Sign.f a1_0 a1_1).bind fun t153 => (if t153 ≤ 0 then (some (0, 0, 0, 0, false)) else ((wide_size.f a0_0 a0_1).bind fun bt154 => ((wide_divide.f k bt154.1 bt154.2 (IntKind.u64.wrap (a1_0)) a1_1).bind fun bt156 => ((wide_signed.f bt156.1 bt156.2.1 (decide (a0_0 < 0))).bind fun bt160 => (if a0_0 < 0 then (wide_Div.j0 k (!((wrap64 (bt156.2.2.1)) == 0) || (!(bt156.2.2.2 == 0))) a1_0 a1_1 bt160.1 bt160.2.1 (wrap64 (bt156.2.2.1)) bt156.2.2.2) else (wide_Div.j0 k false a1_0 a1_1 bt160.1 bt160.2.1 (wrap64 (bt156.2.2.1)) bt156.2.2.2))))))) = some (r1, r2, r3, r4, r5) := h
  clear h
  replace H := Option.bind_eq_some_iff.mp H
  obtain ⟨t153, A30, H⟩ := H
  replace H : (if t153 ≤ 0 then (some (0, 0, 0, 0, false)) else ((wide_size.f a0_0 a0_1).bind fun bt154 => ((wide_divide.f k bt154.1 bt154.2 (IntKind.u64.wrap (a1_0)) a1_1).bind fun bt156 => ((wide_signed.f bt156.1 bt156.2.1 (decide (a0_0 < 0))).bind fun bt160 => (if a0_0 < 0 then (wide_Div.j0 k (!((wrap64 (bt156.2.2.1)) == 0) || (!(bt156.2.2.2 == 0))) a1_0 a1_1 bt160.1 bt160.2.1 (wrap64 (bt156.2.2.1)) bt156.2.2.2) else (wide_Div.j0 k false a1_0 a1_1 bt160.1 bt160.2.1 (wrap64 (bt156.2.2.1)) bt156.2.2.2)))))) = some (r1, r2, r3, r4, r5) := H
  have A3 := Aside0.mk A30
  clear A30
  by_cases c4 : t153 ≤ 0
  · rw [if_pos c4] at H
    have c4b0 : decide (t153 ≤ 0) = true := decide_eq_true c4
    clear c4
    simp only [Option.some.injEq, Prod.mk.injEq] at H
    obtain ⟨rfl, rfl, rfl, rfl, rfl⟩ := H
    go_enter Try.func49, Try.ntmps49
    go_wp2_with (first | ((with_reducible refine gate_dst (N := 2) rfl ?_); refine box_event ?hg (N := 2) ?hd (cs := #[.int .i64 a0_0, .int .u64 a0_1]) (t := 24) ?hr ?_; (case hd => rfl); (case hg => rfl); (case hr => first | (go_simp; done) | (go_simp; rfl)); intro gb149 hg w5 hbox hb; have BK149 := Aside0.mk (hbox); have GW149 := kS HB hg; have GE149 := kS HB hg; replace HB := kB HB hb; clear hb hbox hg) | ((with_reducible refine gate_dst (N := 3) rfl ?_); refine box_event ?hg (N := 3) ?hd (cs := #[.int .i64 a1_0, .int .u64 a1_1]) (t := 24) ?hr ?_; (case hd => rfl); (case hg => rfl); (case hr => first | (go_simp; done) | (go_simp; rfl)); intro gb150 hg w6 hbox hb; have BK150 := Aside0.mk (hbox); have GW150 := kS HB hg; have GE150 := kS HB hg; have NB149_150 := kN BK149 hg; have NB150_149 := kM BK149 hg; replace BK149 := kb BK149 hb; replace HB := kB HB hb; clear hb hbox hg) | ((with_reducible refine gate_dst (N := 4) rfl ?_); refine box_event ?hg (N := 4) ?hd (cs := #[.int .i64 0, .int .u64 0]) (t := 24) ?hr ?_; (case hd => rfl); (case hg => rfl); (case hr => first | (go_simp; done) | (go_simp; rfl)); intro gb151 hg w7 hbox hb; have BK151 := Aside0.mk (hbox); have GW151 := kS HB hg; have GE151 := kS HB hg; have NB149_151 := kN BK149 hg; have NB151_149 := kM BK149 hg; have NB150_151 := kN BK150 hg; have NB151_150 := kM BK150 hg; replace BK149 := kb BK149 hb; replace BK150 := kb BK150 hb; replace HB := kB HB hb; clear hb hbox hg) | ((with_reducible refine gate_dst (N := 5) rfl ?_); refine box_event ?hg (N := 5) ?hd (cs := #[.int .i64 0, .int .u64 0]) (t := 24) ?hr ?_; (case hd => rfl); (case hg => rfl); (case hr => first | (go_simp; done) | (go_simp; rfl)); intro gb152 hg w8 hbox hb; have BK152 := Aside0.mk (hbox); have GW152 := kS HB hg; have GE152 := kS HB hg; have NB149_152 := kN BK149 hg; have NB152_149 := kM BK149 hg; have NB150_152 := kN BK150 hg; have NB152_150 := kM BK150 hg; have NB151_152 := kN BK151 hg; have NB152_151 := kM BK151 hg; replace BK149 := kb BK149 hb; replace BK150 := kb BK150 hb; replace BK151 := kb BK151 hb; replace HB := kB HB hb; clear hb hbox hg; have hnb9 := NB150_149.out; have hnc9 := NB149_150.out; have hnb10 := NB150_151.out; have hnc10 := NB151_150.out; have hnb11 := NB150_152.out; have hnc11 := NB152_150.out; have hcz12_0 : w8.cell? ⟨gb150, 0, none⟩ = some (.int .i64 a1_0) := kc BK150 0; have hcz12_1 : w8.cell? ⟨gb150, 1, none⟩ = some (.int .u64 a1_1) := kc BK150 1; have hfz12_0 := blk_frozen BK150.out 0; have hfz12_1 := blk_frozen BK150.out 1) | ((with_reducible refine gate_callee (f := 15) rfl ?_); refine goesL_ (some 14) rfl rfl Try.func15 (by kernel_rfl) rfl #[.agg #[.int .i64 a1_0, .int .u64 a1_1]] rfl (by (try simp only [List.map_toArray, List.map_cons, List.map_nil]); first | done | rfl | (simp only [List.length_drop, List.length_take]; rfl)) ?_; (with_reducible refine (wide_Sign.calls a1_0 a1_1 t153 _ A3.out).mono ?_); rintro e w13 ⟨rfl, hb⟩; refine ⟨_, rfl, ?_⟩; replace BK149 := kb BK149 hb; replace BK150 := kb BK150 hb; replace BK151 := kb BK151 hb; replace BK152 := kb BK152 hb; replace HB := kB HB hb; (try clear hb); (try clear hb2); (try clear hk); (try clear hi); have hnb14 := NB151_149.out; have hnc14 := NB149_151.out; have hnb15 := NB151_152.out; have hnc15 := NB152_151.out; have hcz16_0 : w13.cell? ⟨gb151, 0, none⟩ = some (.int .i64 0) := kc BK151 0; have hcz16_1 : w13.cell? ⟨gb151, 1, none⟩ = some (.int .u64 0) := kc BK151 1; have hfz16_0 := blk_frozen BK151.out 0; have hfz16_1 := blk_frozen BK151.out 1; have hnb17 := NB152_149.out; have hnc17 := NB149_152.out; have hcz18_0 : w13.cell? ⟨gb152, 0, none⟩ = some (.int .i64 0) := kc BK152 0; have hcz18_1 : w13.cell? ⟨gb152, 1, none⟩ = some (.int .u64 0) := kc BK152 1; have hfz18_0 := blk_frozen BK152.out 0; have hfz18_1 := blk_frozen BK152.out 1))
    refine bodyPost_ret (results_list (rs := [.cell 4 24, .cell 5 24, .tmp 6]) rfl (by simp) (.cell gb151 24 #[.int .i64 0, .int .u64 0] (0, 0) _ rfl (by (with_reducible repeat (first | refine blk_drewN ?_ _ | refine blk_drew ?_ | refine blk_alloc ?_ _)); refine blk_far ?_ NB151_152.out _; (with_reducible repeat (first | refine blk_drewN ?_ _ | refine blk_drew ?_ | refine blk_alloc ?_ _)); refine blk_far ?_ NB151_152.out _; (with_reducible repeat (first | refine blk_drewN ?_ _ | refine blk_drew ?_ | refine blk_alloc ?_ _)); refine blk_put (cs := #[.int .i64 0, .int .u64 0]) ?_ 1 _ rfl; (with_reducible repeat (first | refine blk_drewN ?_ _ | refine blk_drew ?_ | refine blk_alloc ?_ _)); refine blk_put (cs := #[.int .i64 0, .int .u64 0]) ?_ 0 _ rfl; (with_reducible repeat (first | refine blk_drewN ?_ _ | refine blk_drew ?_ | refine blk_alloc ?_ _)); exact BK151.out) Try.underlying24 rfl (by kernel_rfl) (.cell gb152 24 #[.int .i64 0, .int .u64 0] (0, 0) _ rfl (by (with_reducible repeat (first | refine blk_drewN ?_ _ | refine blk_drew ?_ | refine blk_alloc ?_ _)); refine blk_put (cs := #[.int .i64 0, .int .u64 0]) ?_ 1 _ rfl; (with_reducible repeat (first | refine blk_drewN ?_ _ | refine blk_drew ?_ | refine blk_alloc ?_ _)); refine blk_put (cs := #[.int .i64 0, .int .u64 0]) ?_ 0 _ rfl; (with_reducible repeat (first | refine blk_drewN ?_ _ | refine blk_drew ?_ | refine blk_alloc ?_ _)); refine blk_far ?_ NB152_151.out _; (with_reducible repeat (first | refine blk_drewN ?_ _ | refine blk_drew ?_ | refine blk_alloc ?_ _)); refine blk_far ?_ NB152_151.out _; (with_reducible repeat (first | refine blk_drewN ?_ _ | refine blk_drew ?_ | refine blk_alloc ?_ _)); exact BK152.out) Try.underlying24 rfl (by kernel_rfl) (.tmp .nil)))) rfl ?_
    exact ⟨by first | rfl | (simp [errW_none, errW_some] <;> rfl) | (simp [*, errW_none, errW_some] <;> rfl), ky HB⟩
  rw [if_neg c4] at H
  have c4b0 : decide (t153 ≤ 0) = false := decide_eq_false c4
  clear c4
  replace H := Option.bind_eq_some_iff.mp H
  obtain ⟨⟨t154, t155⟩, A190, H⟩ := H
  replace H : ((wide_divide.f k t154 t155 (IntKind.u64.wrap (a1_0)) a1_1).bind fun bt156 => ((wide_signed.f bt156.1 bt156.2.1 (decide (a0_0 < 0))).bind fun bt160 => (if a0_0 < 0 then (wide_Div.j0 k (!((wrap64 (bt156.2.2.1)) == 0) || (!(bt156.2.2.2 == 0))) a1_0 a1_1 bt160.1 bt160.2.1 (wrap64 (bt156.2.2.1)) bt156.2.2.2) else (wide_Div.j0 k false a1_0 a1_1 bt160.1 bt160.2.1 (wrap64 (bt156.2.2.1)) bt156.2.2.2)))) = some (r1, r2, r3, r4, r5) := H
  have A19 := Aside0.mk A190
  clear A190
  replace H := Option.bind_eq_some_iff.mp H
  obtain ⟨⟨t156, t157, t158, t159⟩, A200, H⟩ := H
  replace H : ((wide_signed.f t156 t157 (decide (a0_0 < 0))).bind fun bt160 => (if a0_0 < 0 then (wide_Div.j0 k (!((wrap64 (t158)) == 0) || (!(t159 == 0))) a1_0 a1_1 bt160.1 bt160.2.1 (wrap64 (t158)) t159) else (wide_Div.j0 k false a1_0 a1_1 bt160.1 bt160.2.1 (wrap64 (t158)) t159))) = some (r1, r2, r3, r4, r5) := H
  have A20 := Aside0.mk A200
  clear A200
  replace H := Option.bind_eq_some_iff.mp H
  obtain ⟨⟨t160, t161, t162⟩, A210, H⟩ := H
  replace H : (if a0_0 < 0 then (wide_Div.j0 k (!((wrap64 (t158)) == 0) || (!(t159 == 0))) a1_0 a1_1 t160 t161 (wrap64 (t158)) t159) else (wide_Div.j0 k false a1_0 a1_1 t160 t161 (wrap64 (t158)) t159)) = some (r1, r2, r3, r4, r5) := H
  have A21 := Aside0.mk A210
  clear A210
  have HC22 := Aside0.mk H
  clear H
  go_enter Try.func49, Try.ntmps49
  go_upto_region 7 with (first | ((with_reducible refine gate_dst (N := 2) rfl ?_); refine box_event ?hg (N := 2) ?hd (cs := #[.int .i64 a0_0, .int .u64 a0_1]) (t := 24) ?hr ?_; (case hd => rfl); (case hg => rfl); (case hr => first | (go_simp; done) | (go_simp; rfl)); intro gb149 hg w23 hbox hb; have BK149 := Aside0.mk (hbox); have GW149 := kS HB hg; have GE149 := kS HB hg; replace HB := kB HB hb; clear hb hbox hg) | ((with_reducible refine gate_dst (N := 3) rfl ?_); refine box_event ?hg (N := 3) ?hd (cs := #[.int .i64 a1_0, .int .u64 a1_1]) (t := 24) ?hr ?_; (case hd => rfl); (case hg => rfl); (case hr => first | (go_simp; done) | (go_simp; rfl)); intro gb150 hg w24 hbox hb; have BK150 := Aside0.mk (hbox); have GW150 := kS HB hg; have GE150 := kS HB hg; have NB149_150 := kN BK149 hg; have NB150_149 := kM BK149 hg; replace BK149 := kb BK149 hb; replace HB := kB HB hb; clear hb hbox hg) | ((with_reducible refine gate_dst (N := 4) rfl ?_); refine box_event ?hg (N := 4) ?hd (cs := #[.int .i64 0, .int .u64 0]) (t := 24) ?hr ?_; (case hd => rfl); (case hg => rfl); (case hr => first | (go_simp; done) | (go_simp; rfl)); intro gb151 hg w25 hbox hb; have BK151 := Aside0.mk (hbox); have GW151 := kS HB hg; have GE151 := kS HB hg; have NB149_151 := kN BK149 hg; have NB151_149 := kM BK149 hg; have NB150_151 := kN BK150 hg; have NB151_150 := kM BK150 hg; replace BK149 := kb BK149 hb; replace BK150 := kb BK150 hb; replace HB := kB HB hb; clear hb hbox hg) | ((with_reducible refine gate_dst (N := 5) rfl ?_); refine box_event ?hg (N := 5) ?hd (cs := #[.int .i64 0, .int .u64 0]) (t := 24) ?hr ?_; (case hd => rfl); (case hg => rfl); (case hr => first | (go_simp; done) | (go_simp; rfl)); intro gb152 hg w26 hbox hb; have BK152 := Aside0.mk (hbox); have GW152 := kS HB hg; have GE152 := kS HB hg; have NB149_152 := kN BK149 hg; have NB152_149 := kM BK149 hg; have NB150_152 := kN BK150 hg; have NB152_150 := kM BK150 hg; have NB151_152 := kN BK151 hg; have NB152_151 := kM BK151 hg; replace BK149 := kb BK149 hb; replace BK150 := kb BK150 hb; replace BK151 := kb BK151 hb; replace HB := kB HB hb; clear hb hbox hg; have hnb27 := NB150_149.out; have hnc27 := NB149_150.out; have hnb28 := NB150_151.out; have hnc28 := NB151_150.out; have hnb29 := NB150_152.out; have hnc29 := NB152_150.out; have hcz30_0 : w26.cell? ⟨gb150, 0, none⟩ = some (.int .i64 a1_0) := kc BK150 0; have hcz30_1 : w26.cell? ⟨gb150, 1, none⟩ = some (.int .u64 a1_1) := kc BK150 1; have hfz30_0 := blk_frozen BK150.out 0; have hfz30_1 := blk_frozen BK150.out 1) | ((with_reducible refine gate_callee (f := 15) rfl ?_); refine goesL_ (some 14) rfl rfl Try.func15 (by kernel_rfl) rfl #[.agg #[.int .i64 a1_0, .int .u64 a1_1]] rfl (by (try simp only [List.map_toArray, List.map_cons, List.map_nil]); first | done | rfl | (simp only [List.length_drop, List.length_take]; rfl)) ?_; (with_reducible refine (wide_Sign.calls a1_0 a1_1 t153 _ A3.out).mono ?_); rintro e w31 ⟨rfl, hb⟩; refine ⟨_, rfl, ?_⟩; replace BK149 := kb BK149 hb; replace BK150 := kb BK150 hb; replace BK151 := kb BK151 hb; replace BK152 := kb BK152 hb; replace HB := kB HB hb; (try clear hb); (try clear hb2); (try clear hk); (try clear hi); have hnb32 := NB149_151.out; have hnc32 := NB151_149.out; have hnb33 := NB149_152.out; have hnc33 := NB152_149.out; have hcz34_0 : w31.cell? ⟨gb149, 0, none⟩ = some (.int .i64 a0_0) := kc BK149 0; have hcz34_1 : w31.cell? ⟨gb149, 1, none⟩ = some (.int .u64 a0_1) := kc BK149 1; have hfz34_0 := blk_frozen BK149.out 0; have hfz34_1 := blk_frozen BK149.out 1) | ((with_reducible refine gate_callee (f := 60) rfl ?_); refine goesL_ (some 20) rfl rfl Try.func60 (by kernel_rfl) rfl #[.agg #[.int .i64 a0_0, .int .u64 a0_1]] rfl (by (try simp only [List.map_toArray, List.map_cons, List.map_nil]); first | done | rfl | (simp only [List.length_drop, List.length_take]; rfl)) ?_; (with_reducible refine (wide_size.calls a0_0 a0_1 t154 t155 _ A19.out).mono ?_); rintro e w35 ⟨rfl, hb⟩; refine ⟨_, rfl, ?_⟩; replace BK149 := kb BK149 hb; replace BK150 := kb BK150 hb; replace BK151 := kb BK151 hb; replace BK152 := kb BK152 hb; replace HB := kB HB hb; (try clear hb); (try clear hb2); (try clear hk); (try clear hi); have hcz36_0 : w35.cell? ⟨gb150, 0, none⟩ = some (.int .i64 a1_0) := kc BK150 0; have hcz36_1 : w35.cell? ⟨gb150, 1, none⟩ = some (.int .u64 a1_1) := kc BK150 1; have hfz36_0 := blk_frozen BK150.out 0; have hfz36_1 := blk_frozen BK150.out 1) | ((with_reducible refine gate_callee (f := 72) rfl ?_); refine goesL_ (some 31) rfl rfl Try.func72 (by kernel_rfl) rfl #[.int .u64 t154, .int .u64 t155, .int .u64 (IntKind.u64.wrap (a1_0)), .int .u64 a1_1] rfl (by (try simp only [List.map_toArray, List.map_cons, List.map_nil]); first | done | rfl | (simp only [List.length_drop, List.length_take]; rfl)) ?_; (with_reducible refine (wide_divide.calls k t154 t155 (IntKind.u64.wrap (a1_0)) a1_1 t156 t157 t158 t159 _ A20.out).mono ?_); rintro e w' ⟨rfl, ⟨nd, rfl⟩⟩; refine ⟨_, rfl, ?_⟩; (try (rw [drewN_self w35]; generalize hq_ : World.drewN w35 _ = w35; have n0_ : Aside0 (w35.heap[gb149]? = some (.cells #[.int .i64 a0_0, .int .u64 a0_1] 24 (0, 0))) := ⟨by rw [← hq_]; exact (kx BK149)⟩; have n1_ : Aside0 (w35.heap[gb150]? = some (.cells #[.int .i64 a1_0, .int .u64 a1_1] 24 (0, 0))) := ⟨by rw [← hq_]; exact (kx BK150)⟩; have n2_ : Aside0 (w35.heap[gb151]? = some (.cells #[.int .i64 0, .int .u64 0] 24 (0, 0))) := ⟨by rw [← hq_]; exact (kx BK151)⟩; have n3_ : Aside0 (w35.heap[gb152]? = some (.cells #[.int .i64 0, .int .u64 0] 24 (0, 0))) := ⟨by rw [← hq_]; exact (kx BK152)⟩; have n4_ : Aside0 (Below w.heap.size w w35) := ⟨by rw [← hq_]; exact (ky HB)⟩; clear BK149 BK150 BK151 BK152 HB hq_; have BK149 := n0_; have BK150 := n1_; have BK151 := n2_; have BK152 := n3_; have HB := n4_; clear n0_ n1_ n2_ n3_ n4_)); have hnb37 := NB152_151.out; have hnc37 := NB151_152.out; have hcz38_0 : w35.cell? ⟨gb152, 0, none⟩ = some (.int .i64 0) := kc BK152 0; have hcz38_1 : w35.cell? ⟨gb152, 1, none⟩ = some (.int .u64 0) := kc BK152 1; have hfz38_0 := blk_frozen BK152.out 0; have hfz38_1 := blk_frozen BK152.out 1; have hcz39_0 : w35.cell? ⟨gb149, 0, none⟩ = some (.int .i64 a0_0) := kc BK149 0; have hcz39_1 : w35.cell? ⟨gb149, 1, none⟩ = some (.int .u64 a0_1) := kc BK149 1; have hfz39_0 := blk_frozen BK149.out 0; have hfz39_1 := blk_frozen BK149.out 1) | ((with_reducible refine gate_callee (f := 61) rfl ?_); refine goesL_ (some 46) rfl rfl Try.func61 (by kernel_rfl) rfl #[.int .u64 t156, .int .u64 t157, .bool (decide (a0_0 < 0))] rfl (by (try simp only [List.map_toArray, List.map_cons, List.map_nil]); first | done | rfl | (simp only [List.length_drop, List.length_take]; rfl)) ?_; (with_reducible refine (wide_signed.calls t156 t157 (decide (a0_0 < 0)) t160 t161 t162 _ A21.out).mono ?_); rintro e w40 ⟨rfl, hb⟩; refine ⟨_, rfl, ?_⟩; have n0_ := kb BK149 hb; have n1_ := kb BK150 hb; have n2_ := kb BK151 hb; have n3_ := Aside0.mk (blk_below (g := gb152) (o := .cells #[.int .i64 (wrap64 (t158)), .int .u64 t159] 24 (0, 0)) (by (with_reducible repeat (first | refine blk_drewN ?_ _ | refine blk_drew ?_ | refine blk_alloc ?_ _)); refine blk_put (cs := #[.int .i64 (wrap64 (t158)), .int .u64 0]) ?_ 1 _ rfl; (with_reducible repeat (first | refine blk_drewN ?_ _ | refine blk_drew ?_ | refine blk_alloc ?_ _)); refine blk_put (cs := #[.int .i64 0, .int .u64 0]) ?_ 0 _ rfl; (with_reducible repeat (first | refine blk_drewN ?_ _ | refine blk_drew ?_ | refine blk_alloc ?_ _)); exact BK152.out) hb); have n4_ := kB HB hb; clear BK149; clear BK150; clear BK151; clear BK152; clear HB; have BK149 := n0_; have BK150 := n1_; have BK151 := n2_; have BK152 := n3_; have HB := n4_; clear n0_ n1_ n2_ n3_ n4_; (try clear hb); (try clear hb2); (try clear hk); (try clear hi); have hcz41_0 : w40.cell? ⟨gb151, 0, none⟩ = some (.int .i64 0) := kc BK151 0; have hcz41_1 : w40.cell? ⟨gb151, 1, none⟩ = some (.int .u64 0) := kc BK151 1; have hfz41_0 := blk_frozen BK151.out 0; have hfz41_1 := blk_frozen BK151.out 1))
  (try simp only [Act.put, s1, s2, s3])
  go_cut [56] (fun v56 wc => ∃ (kq : Nat) (x56_21 : Bool), v56 = .bool x56_21 ∧ Aside0 (wide_Div.j0 kq x56_21 a1_0 a1_1 t160 t161 (wrap64 (t158)) t159 = some (r1, r2, r3, r4, r5)) ∧ Aside0 (kq ≤ k) ∧ Aside0 (wc.heap[gb149]? = some (.cells #[.int .i64 a0_0, .int .u64 a0_1] 24 (0, 0))) ∧ Aside0 (wc.heap[gb150]? = some (.cells #[.int .i64 a1_0, .int .u64 a1_1] 24 (0, 0))) ∧ Aside0 (wc.heap[gb151]? = some (.cells #[.int .i64 t160, .int .u64 t161] 24 (0, 0))) ∧ Aside0 (wc.heap[gb152]? = some (.cells #[.int .i64 (wrap64 (t158)), .int .u64 t159] 24 (0, 0))) ∧ Aside0 (Below w.heap.size w wc))
  case first =>
    have H := HC22.out; clear HC22
    by_cases c42 : a0_0 < 0
    rotate_left
    · rw [if_neg c42] at H
      have c42b0 : decide (a0_0 < 0) = false := decide_eq_false c42
      clear c42
      (first | rw [c42b0] | (simp only [i64_w, i32_w]; rw [c42b0]) | skip)
      have H' := Aside0.mk H
      clear H; have hnb50 := NB149_150.out; have hnc50 := NB150_149.out; have hnb51 := NB149_151.out; have hnc51 := NB151_149.out; have hnb52 := NB149_152.out; have hnc52 := NB152_149.out
      have hcz53_0 : w40.cell? ⟨gb149, 0, none⟩ = some (.int .i64 a0_0) := kc BK149 0
      have hcz53_1 : w40.cell? ⟨gb149, 1, none⟩ = some (.int .u64 a0_1) := kc BK149 1
      have hfz53_0 := blk_frozen BK149.out 0
      have hfz53_1 := blk_frozen BK149.out 1
      go_wp2
      go_meet
      case rel => exact ⟨_, (false), (by first | rfl | (simp; done) | (simp [*]; done)), H', ⟨by first | omega | exact Nat.le_refl _⟩, ⟨kx BK149⟩, ⟨kx BK150⟩, ⟨by (with_reducible repeat (first | refine blk_drewN ?_ _ | refine blk_drew ?_ | refine blk_alloc ?_ _)); refine blk_put (cs := #[.int .i64 t160, .int .u64 0]) ?_ 1 _ rfl; (with_reducible repeat (first | refine blk_drewN ?_ _ | refine blk_drew ?_ | refine blk_alloc ?_ _)); refine blk_put (cs := #[.int .i64 0, .int .u64 0]) ?_ 0 _ rfl; (with_reducible repeat (first | refine blk_drewN ?_ _ | refine blk_drew ?_ | refine blk_alloc ?_ _)); exact BK151.out⟩, ⟨kx BK152⟩, ⟨ky HB⟩⟩
    rw [if_pos c42] at H
    have c42b0 : decide (a0_0 < 0) = true := decide_eq_true c42
    clear c42
    (first | rw [c42b0] | (simp only [i64_w, i32_w]; rw [c42b0]) | skip)
    have H' := Aside0.mk H
    clear H; have hnb43 := NB149_150.out; have hnc43 := NB150_149.out; have hnb44 := NB149_151.out; have hnc44 := NB151_149.out; have hnb45 := NB149_152.out; have hnc45 := NB152_149.out
    have hcz46_0 : w40.cell? ⟨gb149, 0, none⟩ = some (.int .i64 a0_0) := kc BK149 0
    have hcz46_1 : w40.cell? ⟨gb149, 1, none⟩ = some (.int .u64 a0_1) := kc BK149 1
    have hfz46_0 := blk_frozen BK149.out 0
    have hfz46_1 := blk_frozen BK149.out 1
    have hnb47 := NB152_150.out; have hnc47 := NB150_152.out; have hnb48 := NB152_151.out; have hnc48 := NB151_152.out
    have hcz49_0 : w40.cell? ⟨gb152, 0, none⟩ = some (.int .i64 (wrap64 (t158))) := kc BK152 0
    have hcz49_1 : w40.cell? ⟨gb152, 1, none⟩ = some (.int .u64 t159) := kc BK152 1
    have hfz49_0 := blk_frozen BK152.out 0
    have hfz49_1 := blk_frozen BK152.out 1
    go_wp2
    go_meet
    case rel => exact ⟨_, ((!((wrap64 (t158)) == 0) || (!(t159 == 0)))), (by first | rfl | (simp; done) | (simp [*]; done)), H', ⟨by first | omega | exact Nat.le_refl _⟩, ⟨kx BK149⟩, ⟨kx BK150⟩, ⟨by (with_reducible repeat (first | refine blk_drewN ?_ _ | refine blk_drew ?_ | refine blk_alloc ?_ _)); refine blk_put (cs := #[.int .i64 t160, .int .u64 0]) ?_ 1 _ rfl; (with_reducible repeat (first | refine blk_drewN ?_ _ | refine blk_drew ?_ | refine blk_alloc ?_ _)); refine blk_put (cs := #[.int .i64 0, .int .u64 0]) ?_ 0 _ rfl; (with_reducible repeat (first | refine blk_drewN ?_ _ | refine blk_drew ?_ | refine blk_alloc ?_ _)); exact BK151.out⟩, ⟨kx BK152⟩, ⟨ky HB⟩⟩
  case rest =>
    clear HC22; try clear c1; try clear c2; try clear p2; try clear c3; try clear c4; try clear c4b0; try clear c5; try clear c6; try clear p6; try clear c7; try clear c9; try clear c10; try clear c11; try clear c14; try clear c15; try clear c17; try clear c27; try clear c28; try clear c29; try clear c32; try clear c33; try clear c37; try clear c42; try clear c42b0; try clear c43; try clear c44; try clear c45; try clear c47; try clear c48; try clear c49; try clear c50; try clear c51; try clear c52; try clear hcz12_0; try clear hcz12_1; try clear hcz16_0; try clear hcz16_1; try clear hcz18_0; try clear hcz18_1; try clear hcz30_0; try clear hcz30_1; try clear hcz34_0; try clear hcz34_1; try clear hcz36_0; try clear hcz36_1; try clear hcz38_0; try clear hcz38_1; try clear hcz39_0; try clear hcz39_1; try clear hcz41_0; try clear hcz41_1; try clear hcz46_0; try clear hcz46_1; try clear hcz49_0; try clear hcz49_1; try clear hcz53_0; try clear hcz53_1; try clear hfz12_0; try clear hfz12_1; try clear hfz16_0; try clear hfz16_1; try clear hfz18_0; try clear hfz18_1; try clear hfz30_0; try clear hfz30_1; try clear hfz34_0; try clear hfz34_1; try clear hfz36_0; try clear hfz36_1; try clear hfz38_0; try clear hfz38_1; try clear hfz39_0; try clear hfz39_1; try clear hfz41_0; try clear hfz41_1; try clear hfz46_0; try clear hfz46_1; try clear hfz49_0; try clear hfz49_1; try clear hfz53_0; try clear hfz53_1
    obtain ⟨kq, x56_21, rfl, HA, HJ21, BK149, BK150, BK151, BK152, HB⟩ := hcut
    cases kq with
    | zero => exact absurd HA.out (by simp [wide_Div.j0])
    | succ kj21 =>
      have H := HA.out; clear HA
      simp only [wide_Div.j0] at H
      by_cases c54 : x56_21 = true
      rotate_left
      · replace c54 := Bool.eq_false_iff.mpr c54
        subst c54
        have H1 : (some (t160, t161, (wrap64 (t158)), t159, true)) = some (r1, r2, r3, r4, r5) := by rw [if_neg (show ¬ (false = true) by decide)] at H; exact H
        clear H; have H := H1; clear H1
        simp only [Option.some.injEq, Prod.mk.injEq] at H
        obtain ⟨rfl, rfl, rfl, rfl, rfl⟩ := H
        have hnb77 := NB151_149.out; have hnc77 := NB149_151.out; have hnb78 := NB151_150.out; have hnc78 := NB150_151.out; have hnb79 := NB151_152.out; have hnc79 := NB152_151.out
        have hcz80_0 : wc.cell? ⟨gb151, 0, none⟩ = some (.int .i64 t160) := kc BK151 0
        have hcz80_1 : wc.cell? ⟨gb151, 1, none⟩ = some (.int .u64 t161) := kc BK151 1
        have hfz80_0 := blk_frozen BK151.out 0
        have hfz80_1 := blk_frozen BK151.out 1
        have hnb81 := NB152_149.out; have hnc81 := NB149_152.out; have hnb82 := NB152_150.out; have hnc82 := NB150_152.out
        have hcz83_0 : wc.cell? ⟨gb152, 0, none⟩ = some (.int .i64 (wrap64 (t158))) := kc BK152 0
        have hcz83_1 : wc.cell? ⟨gb152, 1, none⟩ = some (.int .u64 t159) := kc BK152 1
        have hfz83_0 := blk_frozen BK152.out 0
        have hfz83_1 := blk_frozen BK152.out 1
        go_wp2_with fail
        go_region
        all_goals go_wp2
        refine bodyPost_ret (results_list (rs := [.cell 4 24, .cell 5 24, .tmp 6]) rfl (by simp) (.cell gb151 24 #[.int .i64 t160, .int .u64 t161] (0, 0) _ rfl (by (with_reducible repeat (first | refine blk_drewN ?_ _ | refine blk_drew ?_ | refine blk_alloc ?_ _)); refine blk_far ?_ NB151_152.out _; (with_reducible repeat (first | refine blk_drewN ?_ _ | refine blk_drew ?_ | refine blk_alloc ?_ _)); refine blk_far ?_ NB151_152.out _; (with_reducible repeat (first | refine blk_drewN ?_ _ | refine blk_drew ?_ | refine blk_alloc ?_ _)); refine blk_put (cs := #[.int .i64 t160, .int .u64 t161]) ?_ 1 _ rfl; (with_reducible repeat (first | refine blk_drewN ?_ _ | refine blk_drew ?_ | refine blk_alloc ?_ _)); refine blk_put (cs := #[.int .i64 t160, .int .u64 t161]) ?_ 0 _ rfl; (with_reducible repeat (first | refine blk_drewN ?_ _ | refine blk_drew ?_ | refine blk_alloc ?_ _)); exact BK151.out) Try.underlying24 rfl (by kernel_rfl) (.cell gb152 24 #[.int .i64 (wrap64 (t158)), .int .u64 t159] (0, 0) _ rfl (by (with_reducible repeat (first | refine blk_drewN ?_ _ | refine blk_drew ?_ | refine blk_alloc ?_ _)); refine blk_put (cs := #[.int .i64 (wrap64 (t158)), .int .u64 t159]) ?_ 1 _ rfl; (with_reducible repeat (first | refine blk_drewN ?_ _ | refine blk_drew ?_ | refine blk_alloc ?_ _)); refine blk_put (cs := #[.int .i64 (wrap64 (t158)), .int .u64 t159]) ?_ 0 _ rfl; (with_reducible repeat (first | refine blk_drewN ?_ _ | refine blk_drew ?_ | refine blk_alloc ?_ _)); refine blk_far ?_ NB152_151.out _; (with_reducible repeat (first | refine blk_drewN ?_ _ | refine blk_drew ?_ | refine blk_alloc ?_ _)); refine blk_far ?_ NB152_151.out _; (with_reducible repeat (first | refine blk_drewN ?_ _ | refine blk_drew ?_ | refine blk_alloc ?_ _)); exact BK152.out) Try.underlying24 rfl (by kernel_rfl) (.tmp .nil)))) rfl ?_
        exact ⟨by first | rfl | (simp [errW_none, errW_some] <;> rfl) | (simp [*, errW_none, errW_some] <;> rfl), ky HB⟩

      subst c54
      have H1 : ((wide_Of.f (-1)).bind fun bt163 => ((wide_wrap.f t160 t161 bt163.1 bt163.2).bind fun bt165 => ((wide_turn.f (wrap64 (t158)) t159).bind fun bt167 => ((wide_wrap.f a1_0 a1_1 bt167.1 bt167.2).bind fun bt169 => (some (bt165.1, bt165.2, bt169.1, bt169.2, true)))))) = some (r1, r2, r3, r4, r5) := by rw [if_pos rfl] at H; exact H
      clear H; have H := H1; clear H1
      replace H := Option.bind_eq_some_iff.mp H
      obtain ⟨⟨t163, t164⟩, A550, H⟩ := H
      replace H : ((wide_wrap.f t160 t161 t163 t164).bind fun bt165 => ((wide_turn.f (wrap64 (t158)) t159).bind fun bt167 => ((wide_wrap.f a1_0 a1_1 bt167.1 bt167.2).bind fun bt169 => (some (bt165.1, bt165.2, bt169.1, bt169.2, true))))) = some (r1, r2, r3, r4, r5) := H
      have A55 := Aside0.mk A550
      clear A550
      replace H := Option.bind_eq_some_iff.mp H
      obtain ⟨⟨t165, t166⟩, A560, H⟩ := H
      replace H : ((wide_turn.f (wrap64 (t158)) t159).bind fun bt167 => ((wide_wrap.f a1_0 a1_1 bt167.1 bt167.2).bind fun bt169 => (some (t165, t166, bt169.1, bt169.2, true)))) = some (r1, r2, r3, r4, r5) := H
      have A56 := Aside0.mk A560
      clear A560
      replace H := Option.bind_eq_some_iff.mp H
      obtain ⟨⟨t167, t168⟩, A570, H⟩ := H
      replace H : ((wide_wrap.f a1_0 a1_1 t167 t168).bind fun bt169 => (some (t165, t166, bt169.1, bt169.2, true))) = some (r1, r2, r3, r4, r5) := H
      have A57 := Aside0.mk A570
      clear A570
      replace H := Option.bind_eq_some_iff.mp H
      obtain ⟨⟨t169, t170⟩, A580, H⟩ := H
      replace H : (some (t165, t166, t169, t170, true)) = some (r1, r2, r3, r4, r5) := H
      have A58 := Aside0.mk A580
      clear A580
      simp only [Option.some.injEq, Prod.mk.injEq] at H
      obtain ⟨rfl, rfl, rfl, rfl, rfl⟩ := H
      try go_wp2
      replace BK149 := Aside0.mk (blk_drew BK149.out)
      replace BK150 := Aside0.mk (blk_drew BK150.out)
      replace BK151 := Aside0.mk (blk_drew BK151.out)
      replace BK152 := Aside0.mk (blk_drew BK152.out)
      replace HB := Aside0.mk (below_drew1 HB.out)
      refine start_ (n := 4) (S := fun w' => w'.cell? ⟨gb151, 0, none⟩ = some (.int .i64 t160) ∧ w'.cell? ⟨gb151, 1, none⟩ = some (.int .u64 t161)) (ds := [3]) #[O, O, O, O] (by kernel_rfl) rfl rfl ⟨kc BK151 0, kc BK151 1⟩ (fun hHeld => ?_)
      generalize wc.drew = w59 at BK149 BK150 BK151 BK152 HB hHeld ⊢
      refine take_ (i := 0) (N := some 57) (v := ?_) (a' := ?_) #[T, O, O, O] rfl rfl (by kernel_rfl) (fun _ _ _ h => h) (Or.inl ⟨by rfl, ?_⟩) hHeld ?_ ?_; rotate_left; focus (rintro w' ⟨s0, s1⟩; go_simp; with_reducible rfl)
      rotate_left; focus (simp only [Act.put, s1, s2, s3, i64_w, i32_w]; rfl)
      refine one_ (i := 1) (N := some 58) #[T, T, O, O] rfl rfl (by kernel_rfl) (by decide) (fun K hK => ?_)
      refine goes_ Try.func24 (by kernel_rfl) rfl #[.int .i64 (-1)] (by rfl) rfl rfl (by (try simp only [List.map_toArray, List.map_cons, List.map_nil]); first | done | rfl | (simp only [List.length_drop, List.length_take]; rfl)) ?_
      with_reducible refine (wide_Of.calls (-1) t163 t164 _ A55.out).mono ?_
      rintro e w60 ⟨rfl, hb⟩
      refine ⟨_, rfl, ?_⟩
      replace BK149 := kb BK149 hb
      replace BK150 := kb BK150 hb
      replace BK151 := kb BK151 hb
      replace BK152 := kb BK152 hb
      replace HB := kB HB hb
      (try clear hb); (try clear hb2); (try clear hk); (try clear hi)
      refine hK.out _ _ ⟨kc BK151 0, kc BK151 1⟩ (fun hHeld => ?_)
      clear hK K
      refine norm_ (a' := ?_) ?_ ?_; rotate_left; focus (show Act.put _ (some 58) _ = _; simp only [Act.put, s1, s2, s3, i64_w, i32_w]; rfl)
      refine one_ (i := 2) (N := some 59) #[T, T, T, O] rfl rfl (by kernel_rfl) (by decide) (fun K hK => ?_)
      refine goes_ Try.func55 (by kernel_rfl) rfl #[.agg #[.int .i64 t160, .int .u64 t161], .agg #[.int .i64 t163, .int .u64 t164]] (by rfl) rfl rfl (by (try simp only [List.map_toArray, List.map_cons, List.map_nil]); first | done | rfl | (simp only [List.length_drop, List.length_take]; rfl)) ?_
      with_reducible refine (wide_wrap.calls t160 t161 t163 t164 t165 t166 _ A56.out).mono ?_
      rintro e w61 ⟨rfl, hb⟩
      refine ⟨_, rfl, ?_⟩
      replace BK149 := kb BK149 hb
      replace BK150 := kb BK150 hb
      replace BK151 := kb BK151 hb
      replace BK152 := kb BK152 hb
      replace HB := kB HB hb
      (try clear hb); (try clear hb2); (try clear hk); (try clear hi)
      refine hK.out _ _ ⟨kc BK151 0, kc BK151 1⟩ (fun hHeld => ?_)
      clear hK K
      refine norm_ (a' := ?_) ?_ ?_; rotate_left; focus (show Act.put _ (some 59) _ = _; simp only [Act.put, s1, s2, s3, i64_w, i32_w]; rfl)
      refine last_ (i := 3) (N := none) #[T, T, T, T] rfl rfl (by kernel_rfl) (by decide) (fun K hK => ?_)
      have hs62 : w61.cell? ⟨gb151, 0, none⟩ = some (.int .i64 t160) := kc BK151 0
      have hfs62 := blk_frozen BK151.out 0
      have hns62_0 := NB149_151.out; have hns62_1 := NB150_151.out; have hns62_3 := NB152_151.out; have hms62_0 := NB151_149.out; have hms62_1 := NB151_150.out; have hms62_3 := NB151_152.out
      have hs63 : w61.cell? ⟨gb151, 1, none⟩ = some (.int .u64 t161) := kc BK151 1
      have hfs63 := blk_frozen BK151.out 1
      have hns63_0 := NB149_151.out; have hns63_1 := NB150_151.out; have hns63_3 := NB152_151.out; have hms63_0 := NB151_149.out; have hms63_1 := NB151_150.out; have hms63_3 := NB151_152.out
      refine skip_ (w1 := ?_) (by rfl) rfl ?_ ?_
      rotate_left
      · go_simp
        rfl
      refine hK.out _ _ ?_
      clear hK K
      refine done_ (by kernel_rfl) ?_
      try go_wp2
      have n0_ : Aside0 (((w61.setCell ⟨gb151, 0, none⟩ (.int .i64 t165)).setCell ⟨gb151, 1, none⟩ (.int .u64 t166)).heap[gb149]? = some (.cells #[.int .i64 a0_0, .int .u64 a0_1] 24 (0, 0))) := ⟨kx BK149⟩
      have n1_ : Aside0 (((w61.setCell ⟨gb151, 0, none⟩ (.int .i64 t165)).setCell ⟨gb151, 1, none⟩ (.int .u64 t166)).heap[gb150]? = some (.cells #[.int .i64 a1_0, .int .u64 a1_1] 24 (0, 0))) := ⟨kx BK150⟩
      have n2_ : Aside0 (((w61.setCell ⟨gb151, 0, none⟩ (.int .i64 t165)).setCell ⟨gb151, 1, none⟩ (.int .u64 t166)).heap[gb151]? = some (.cells #[.int .i64 t165, .int .u64 t166] 24 (0, 0))) := ⟨by (with_reducible repeat (first | refine blk_drewN ?_ _ | refine blk_drew ?_ | refine blk_alloc ?_ _)); refine blk_put (cs := #[.int .i64 t165, .int .u64 t161]) ?_ 1 _ rfl; (with_reducible repeat (first | refine blk_drewN ?_ _ | refine blk_drew ?_ | refine blk_alloc ?_ _)); refine blk_put (cs := #[.int .i64 t160, .int .u64 t161]) ?_ 0 _ rfl; (with_reducible repeat (first | refine blk_drewN ?_ _ | refine blk_drew ?_ | refine blk_alloc ?_ _)); exact BK151.out⟩
      have n3_ : Aside0 (((w61.setCell ⟨gb151, 0, none⟩ (.int .i64 t165)).setCell ⟨gb151, 1, none⟩ (.int .u64 t166)).heap[gb152]? = some (.cells #[.int .i64 (wrap64 (t158)), .int .u64 t159] 24 (0, 0))) := ⟨kx BK152⟩
      have n4_ : Aside0 (Below w.heap.size w ((w61.setCell ⟨gb151, 0, none⟩ (.int .i64 t165)).setCell ⟨gb151, 1, none⟩ (.int .u64 t166))) := ⟨ky HB⟩
      (try clear BK149); (try clear BK150); (try clear BK151); (try clear BK152); (try clear HB)
      generalize ((w61.setCell ⟨gb151, 0, none⟩ (.int .i64 t165)).setCell ⟨gb151, 1, none⟩ (.int .u64 t166)) = w64 at n0_ n1_ n2_ n3_ n4_ ⊢
      have BK149 := n0_; have BK150 := n1_; have BK151 := n2_; have BK152 := n3_; have HB := n4_
      clear n0_ n1_ n2_ n3_ n4_
      replace BK149 := Aside0.mk (blk_drew BK149.out)
      replace BK150 := Aside0.mk (blk_drew BK150.out)
      replace BK151 := Aside0.mk (blk_drew BK151.out)
      replace BK152 := Aside0.mk (blk_drew BK152.out)
      replace HB := Aside0.mk (below_drew1 HB.out)
      refine start_ (n := 5) (S := fun w' => w'.cell? ⟨gb150, 0, none⟩ = some (.int .i64 a1_0) ∧ w'.cell? ⟨gb150, 1, none⟩ = some (.int .u64 a1_1) ∧ w'.cell? ⟨gb152, 0, none⟩ = some (.int .i64 (wrap64 (t158))) ∧ w'.cell? ⟨gb152, 1, none⟩ = some (.int .u64 t159)) (ds := [4]) #[O, O, O, O, O] (by kernel_rfl) rfl rfl ⟨kc BK150 0, kc BK150 1, kc BK152 0, kc BK152 1⟩ (fun hHeld => ?_)
      generalize w64.drew = w65 at BK149 BK150 BK151 BK152 HB hHeld ⊢
      refine take_ (i := 0) (N := some 60) (v := ?_) (a' := ?_) #[T, O, O, O, O] rfl rfl (by kernel_rfl) (fun _ _ _ h => h) (Or.inl ⟨by rfl, ?_⟩) hHeld ?_ ?_; rotate_left; focus (rintro w' ⟨s0, s1, s2, s3⟩; go_simp; with_reducible rfl)
      rotate_left; focus (simp only [Act.put, s1, s2, s3, i64_w, i32_w]; rfl)
      refine take_ (i := 1) (N := some 61) (v := ?_) (a' := ?_) #[T, T, O, O, O] rfl rfl (by kernel_rfl) (fun _ _ _ h => h) (Or.inl ⟨by rfl, ?_⟩) hHeld ?_ ?_; rotate_left; focus (rintro w' ⟨s0, s1, s2, s3⟩; go_simp; with_reducible rfl)
      rotate_left; focus (simp only [Act.put, s1, s2, s3, i64_w, i32_w]; rfl)
      refine one_ (i := 2) (N := some 62) #[T, T, T, O, O] rfl rfl (by kernel_rfl) (by decide) (fun K hK => ?_)
      refine goes_ Try.func65 (by kernel_rfl) rfl #[.agg #[.int .i64 (wrap64 (t158)), .int .u64 t159]] (by rfl) rfl rfl (by (try simp only [List.map_toArray, List.map_cons, List.map_nil]); first | done | rfl | (simp only [List.length_drop, List.length_take]; rfl)) ?_
      with_reducible refine (wide_turn.calls (wrap64 (t158)) t159 t167 t168 _ A57.out).mono ?_
      rintro e w66 ⟨rfl, hb⟩
      refine ⟨_, rfl, ?_⟩
      replace BK149 := kb BK149 hb
      replace BK150 := kb BK150 hb
      replace BK151 := kb BK151 hb
      replace BK152 := kb BK152 hb
      replace HB := kB HB hb
      (try clear hb); (try clear hb2); (try clear hk); (try clear hi)
      refine hK.out _ _ ⟨kc BK150 0, kc BK150 1, kc BK152 0, kc BK152 1⟩ (fun hHeld => ?_)
      clear hK K
      refine norm_ (a' := ?_) ?_ ?_; rotate_left; focus (show Act.put _ (some 62) _ = _; simp only [Act.put, s1, s2, s3, i64_w, i32_w]; rfl)
      refine one_ (i := 3) (N := some 63) #[T, T, T, T, O] rfl rfl (by kernel_rfl) (by decide) (fun K hK => ?_)
      refine goes_ Try.func55 (by kernel_rfl) rfl #[.agg #[.int .i64 a1_0, .int .u64 a1_1], .agg #[.int .i64 t167, .int .u64 t168]] (by rfl) rfl rfl (by (try simp only [List.map_toArray, List.map_cons, List.map_nil]); first | done | rfl | (simp only [List.length_drop, List.length_take]; rfl)) ?_
      with_reducible refine (wide_wrap.calls a1_0 a1_1 t167 t168 t169 t170 _ A58.out).mono ?_
      rintro e w67 ⟨rfl, hb⟩
      refine ⟨_, rfl, ?_⟩
      replace BK149 := kb BK149 hb
      replace BK150 := kb BK150 hb
      replace BK151 := kb BK151 hb
      replace BK152 := kb BK152 hb
      replace HB := kB HB hb
      (try clear hb); (try clear hb2); (try clear hk); (try clear hi)
      refine hK.out _ _ ⟨kc BK150 0, kc BK150 1, kc BK152 0, kc BK152 1⟩ (fun hHeld => ?_)
      clear hK K
      refine norm_ (a' := ?_) ?_ ?_; rotate_left; focus (show Act.put _ (some 63) _ = _; simp only [Act.put, s1, s2, s3, i64_w, i32_w]; rfl)
      refine last_ (i := 4) (N := none) #[T, T, T, T, T] rfl rfl (by kernel_rfl) (by decide) (fun K hK => ?_)
      have hs68 : w67.cell? ⟨gb152, 0, none⟩ = some (.int .i64 (wrap64 (t158))) := kc BK152 0
      have hfs68 := blk_frozen BK152.out 0
      have hns68_0 := NB149_152.out; have hns68_1 := NB150_152.out; have hns68_2 := NB151_152.out; have hms68_0 := NB152_149.out; have hms68_1 := NB152_150.out; have hms68_2 := NB152_151.out
      have hs69 : w67.cell? ⟨gb152, 1, none⟩ = some (.int .u64 t159) := kc BK152 1
      have hfs69 := blk_frozen BK152.out 1
      have hns69_0 := NB149_152.out; have hns69_1 := NB150_152.out; have hns69_2 := NB151_152.out; have hms69_0 := NB152_149.out; have hms69_1 := NB152_150.out; have hms69_2 := NB152_151.out
      refine skip_ (w1 := ?_) (by rfl) rfl ?_ ?_
      rotate_left
      · go_simp
        rfl
      refine hK.out _ _ ?_
      clear hK K
      refine done_ (by kernel_rfl) ?_
      have hnb70 := NB151_149.out; have hnc70 := NB149_151.out; have hnb71 := NB151_150.out; have hnc71 := NB150_151.out; have hnb72 := NB151_152.out; have hnc72 := NB152_151.out
      have hcz73_0 : w67.cell? ⟨gb151, 0, none⟩ = some (.int .i64 t165) := kc BK151 0
      have hcz73_1 : w67.cell? ⟨gb151, 1, none⟩ = some (.int .u64 t166) := kc BK151 1
      have hfz73_0 := blk_frozen BK151.out 0
      have hfz73_1 := blk_frozen BK151.out 1
      have hnb74 := NB152_149.out; have hnc74 := NB149_152.out; have hnb75 := NB152_150.out; have hnc75 := NB150_152.out
      have hcz76_0 : w67.cell? ⟨gb152, 0, none⟩ = some (.int .i64 (wrap64 (t158))) := kc BK152 0
      have hcz76_1 : w67.cell? ⟨gb152, 1, none⟩ = some (.int .u64 t159) := kc BK152 1
      have hfz76_0 := blk_frozen BK152.out 0
      have hfz76_1 := blk_frozen BK152.out 1
      go_wp2_with fail
      go_region
      all_goals go_wp2
      refine bodyPost_ret (results_list (rs := [.cell 4 24, .cell 5 24, .tmp 6]) rfl (by simp) (.cell gb151 24 #[.int .i64 t165, .int .u64 t166] (0, 0) _ rfl (by (with_reducible repeat (first | refine blk_drewN ?_ _ | refine blk_drew ?_ | refine blk_alloc ?_ _)); refine blk_far ?_ NB151_152.out _; (with_reducible repeat (first | refine blk_drewN ?_ _ | refine blk_drew ?_ | refine blk_alloc ?_ _)); refine blk_far ?_ NB151_152.out _; (with_reducible repeat (first | refine blk_drewN ?_ _ | refine blk_drew ?_ | refine blk_alloc ?_ _)); refine blk_put (cs := #[.int .i64 t165, .int .u64 t166]) ?_ 1 _ rfl; (with_reducible repeat (first | refine blk_drewN ?_ _ | refine blk_drew ?_ | refine blk_alloc ?_ _)); refine blk_put (cs := #[.int .i64 t165, .int .u64 t166]) ?_ 0 _ rfl; (with_reducible repeat (first | refine blk_drewN ?_ _ | refine blk_drew ?_ | refine blk_alloc ?_ _)); refine blk_far ?_ NB151_152.out _; (with_reducible repeat (first | refine blk_drewN ?_ _ | refine blk_drew ?_ | refine blk_alloc ?_ _)); refine blk_far ?_ NB151_152.out _; (with_reducible repeat (first | refine blk_drewN ?_ _ | refine blk_drew ?_ | refine blk_alloc ?_ _)); exact BK151.out) Try.underlying24 rfl (by kernel_rfl) (.cell gb152 24 #[.int .i64 t169, .int .u64 t170] (0, 0) _ rfl (by (with_reducible repeat (first | refine blk_drewN ?_ _ | refine blk_drew ?_ | refine blk_alloc ?_ _)); refine blk_put (cs := #[.int .i64 t169, .int .u64 t170]) ?_ 1 _ rfl; (with_reducible repeat (first | refine blk_drewN ?_ _ | refine blk_drew ?_ | refine blk_alloc ?_ _)); refine blk_put (cs := #[.int .i64 t169, .int .u64 t170]) ?_ 0 _ rfl; (with_reducible repeat (first | refine blk_drewN ?_ _ | refine blk_drew ?_ | refine blk_alloc ?_ _)); refine blk_far ?_ NB152_151.out _; (with_reducible repeat (first | refine blk_drewN ?_ _ | refine blk_drew ?_ | refine blk_alloc ?_ _)); refine blk_far ?_ NB152_151.out _; (with_reducible repeat (first | refine blk_drewN ?_ _ | refine blk_drew ?_ | refine blk_alloc ?_ _)); refine blk_put (cs := #[.int .i64 t169, .int .u64 t159]) ?_ 1 _ rfl; (with_reducible repeat (first | refine blk_drewN ?_ _ | refine blk_drew ?_ | refine blk_alloc ?_ _)); refine blk_put (cs := #[.int .i64 (wrap64 (t158)), .int .u64 t159]) ?_ 0 _ rfl; (with_reducible repeat (first | refine blk_drewN ?_ _ | refine blk_drew ?_ | refine blk_alloc ?_ _)); exact BK152.out) Try.underlying24 rfl (by kernel_rfl) (.tmp .nil)))) rfl ?_
      exact ⟨by first | rfl | (simp [errW_none, errW_some] <;> rfl) | (simp [*, errW_none, errW_some] <;> rfl), ky HB⟩
end Go.Proofs.Ytpjbniihdndlmab.Q
