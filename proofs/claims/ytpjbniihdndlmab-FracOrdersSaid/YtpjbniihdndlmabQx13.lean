-- Printed by wip/pp.sh (a session's own turning of the kit's print) for this seat.
import Derived.Test.YtpjbniihdndlmabQx0
import Derived.Test.YtpjbniihdndlmabQx1
import Derived.Test.YtpjbniihdndlmabQx2
import Derived.Test.YtpjbniihdndlmabQx5
import Derived.Test.YtpjbniihdndlmabQx7
import Derived.Test.YtpjbniihdndlmabQx8
import Derived.Test.YtpjbniihdndlmabQx12
namespace Go.Proofs.Ytpjbniihdndlmab.Q
open Go.RowKit Go.Proofs.YtpjbniihdndlmabW.PrintWords Go.Proofs.YtpjbniihdndlmabW.PrintLast Go.Proofs.YtpjbniihdndlmabW.PrintMore
open Go.Proofs.Ytpjbniihdndlmab.H
attribute [local go_sem] hq_add64 hq_sub64 hq_not64 add64c_nn sub64c_nn sub64c_le
attribute [local go_sem] max2_int min2_int max_two min_two max_three min_three max_four min_four   -- for this text's walks alone
set_option linter.unusedVariables false
set_option linter.unusedSimpArgs false

attribute [local go_sem high] eqA24 eqA26
/-! ### frac_Make: function 50 -/
def frac_Make.j0 : Nat → Bool → Int → Int → Int → Int → Option (Int × Int × Int × Int × Bool)
  | 0, _, _, _, _, _ => none
  | k + 1, x36, x309000, x309001, x313000, x313001 => if x36 = true then (some (0, 0, 0, 0, false)) else (some (x309000, x309001, x313000, x313001, true))
def frac_Make.f (k : Nat) (a0_0 : Int) (a0_1 : Int) (a1_0 : Int) (a1_1 : Int) : Option (Int × Int × Int × Int × Bool) := (wide_Sign.f a1_0 a1_1).bind fun t304 => (if t304 > 0 then (some (a0_0, a0_1, a1_0, a1_1, true)) else ((wide_Neg.f a0_0 a0_1).bind fun bt305 => ((wide_Neg.f a1_0 a1_1).bind fun bt309 => (if bt305.2.2 = true then (if bt309.2.2 = true then ((wide_Sign.f bt309.1 bt309.2.1).bind fun t313 => (frac_Make.j0 k (t313 == 0) bt305.1 bt305.2.1 bt309.1 bt309.2.1)) else (frac_Make.j0 k true bt305.1 bt305.2.1 bt309.1 bt309.2.1)) else (frac_Make.j0 k true bt305.1 bt305.2.1 bt309.1 bt309.2.1)))))
theorem frac_Make.mono_l : ∀ k, (∀ y0 y1 y2 y3 y4, LeO (frac_Make.j0 k y0 y1 y2 y3 y4) (frac_Make.j0 (k + 1) y0 y1 y2 y3 y4))
  | 0 => fun _ _ _ _ _ r h => by simp [frac_Make.j0] at h
  | k + 1 => by
    have ih0 := frac_Make.mono_l k
    · intro y0 y1 y2 y3 y4
      unfold frac_Make.j0
      repeat' first
      | (with_reducible exact ih0 _ _ _ _ _)
      | (with_reducible exact LeO.refl _)
      | (with_reducible exact LeO.none _)
      | (with_reducible refine LeO.ite ?_ ?_)
      | (with_reducible refine LeO.bind ?_ (fun _ => ?_))
      | exact ih0 _ _ _ _ _
      | exact LeO.none _
      | refine LeO.ite ?_ ?_
      | refine LeO.bind ?_ (fun _ => ?_)
theorem frac_Make.mono : ∀ a0 a1 a2 a3 k, LeO (frac_Make.f k a0 a1 a2 a3) (frac_Make.f (k + 1) a0 a1 a2 a3) := by
  intro a0 a1 a2 a3 k
  have ih0 := frac_Make.mono_l k
  unfold frac_Make.f
  repeat' first
      | (with_reducible exact ih0 _ _ _ _ _)
      | (with_reducible exact LeO.refl _)
      | (with_reducible exact LeO.none _)
      | (with_reducible refine LeO.ite ?_ ?_)
      | (with_reducible refine LeO.bind ?_ (fun _ => ?_))
      | exact ih0 _ _ _ _ _
      | exact LeO.none _
      | refine LeO.ite ?_ ?_
      | refine LeO.bind ?_ (fun _ => ?_)
set_option maxHeartbeats 8000000 in
set_option maxRecDepth 100000 in
theorem frac_Make.calls (k : Nat) (a0_0 : Int) (a0_1 : Int) (a1_0 : Int) (a1_1 : Int) (r1 : Int) (r2 : Int) (r3 : Int) (r4 : Int) (r5 : Bool) (w : World) (h : frac_Make.f k a0_0 a0_1 a1_0 a1_1 = some (r1, r2, r3, r4, r5)) :
    Calls Try.prog 50 #[.agg #[.int .i64 a0_0, .int .u64 a0_1], .agg #[.int .i64 a1_0, .int .u64 a1_1]] w fun e w' => e = .returned (.tuple #[.agg #[.int .i64 r1, .int .u64 r2, .int .i64 r3, .int .u64 r4], .bool r5]) ∧ Below w.heap.size w w' := by
  have hu24 := Try.underlying24
  have hu26 := Try.underlying26
  have HB := Aside0.mk (Below.refl w.heap.size w)
  have H : ((wide_Sign.f a1_0 a1_1).bind fun t304 => (if t304 > 0 then (some (a0_0, a0_1, a1_0, a1_1, true)) else ((wide_Neg.f a0_0 a0_1).bind fun bt305 => ((wide_Neg.f a1_0 a1_1).bind fun bt309 => (if bt305.2.2 = true then (if bt309.2.2 = true then ((wide_Sign.f bt309.1 bt309.2.1).bind fun t313 => (frac_Make.j0 k (t313 == 0) bt305.1 bt305.2.1 bt309.1 bt309.2.1)) else (frac_Make.j0 k true bt305.1 bt305.2.1 bt309.1 bt309.2.1)) else (frac_Make.j0 k true bt305.1 bt305.2.1 bt309.1 bt309.2.1)))))) = some (r1, r2, r3, r4, r5) := h
  clear h
  replace H := Option.bind_eq_some_iff.mp H
  obtain ⟨t304, A30, H⟩ := H
  replace H : (if t304 > 0 then (some (a0_0, a0_1, a1_0, a1_1, true)) else ((wide_Neg.f a0_0 a0_1).bind fun bt305 => ((wide_Neg.f a1_0 a1_1).bind fun bt309 => (if bt305.2.2 = true then (if bt309.2.2 = true then ((wide_Sign.f bt309.1 bt309.2.1).bind fun t313 => (frac_Make.j0 k (t313 == 0) bt305.1 bt305.2.1 bt309.1 bt309.2.1)) else (frac_Make.j0 k true bt305.1 bt305.2.1 bt309.1 bt309.2.1)) else (frac_Make.j0 k true bt305.1 bt305.2.1 bt309.1 bt309.2.1))))) = some (r1, r2, r3, r4, r5) := H
  have A3 := Aside0.mk A30
  clear A30
  by_cases c4 : t304 > 0
  · rw [if_pos c4] at H
    have c4b0 : decide (0 < t304) = true := decide_eq_true c4
    clear c4
    simp only [Option.some.injEq, Prod.mk.injEq] at H
    obtain ⟨rfl, rfl, rfl, rfl, rfl⟩ := H
    go_enter Try.func50, Try.ntmps50
    go_wp2_with (first | ((with_reducible refine gate_dst (N := 2) rfl ?_); refine box_event ?hg (N := 2) ?hd (cs := #[.int .i64 a0_0, .int .u64 a0_1]) (t := 24) ?hr ?_; (case hd => rfl); (case hg => rfl); (case hr => first | (go_simp; done) | (go_simp; rfl)); intro gb301 hg w5 hbox hb; have BK301 := Aside0.mk (hbox); have GW301 := kS HB hg; have GE301 := kS HB hg; replace HB := kB HB hb; clear hb hbox hg) | ((with_reducible refine gate_dst (N := 3) rfl ?_); refine box_event ?hg (N := 3) ?hd (cs := #[.int .i64 a1_0, .int .u64 a1_1]) (t := 24) ?hr ?_; (case hd => rfl); (case hg => rfl); (case hr => first | (go_simp; done) | (go_simp; rfl)); intro gb302 hg w6 hbox hb; have BK302 := Aside0.mk (hbox); have GW302 := kS HB hg; have GE302 := kS HB hg; have NB301_302 := kN BK301 hg; have NB302_301 := kM BK301 hg; replace BK301 := kb BK301 hb; replace HB := kB HB hb; clear hb hbox hg) | ((with_reducible refine gate_dst (N := 4) rfl ?_); refine box_event ?hg (N := 4) ?hd (cs := #[.int .i64 0, .int .u64 0, .int .i64 0, .int .u64 0]) (t := 26) ?hr ?_; (case hd => rfl); (case hg => rfl); (case hr => first | (go_simp; done) | (go_simp; rfl)); intro gb303 hg w7 hbox hb; have BK303 := Aside0.mk (hbox); have GW303 := kS HB hg; have GE303 := kS HB hg; have NB301_303 := kN BK301 hg; have NB303_301 := kM BK301 hg; have NB302_303 := kN BK302 hg; have NB303_302 := kM BK302 hg; replace BK301 := kb BK301 hb; replace BK302 := kb BK302 hb; replace HB := kB HB hb; clear hb hbox hg; have hnb8 := NB302_301.out; have hnc8 := NB301_302.out; have hnb9 := NB302_303.out; have hnc9 := NB303_302.out; have hcz10_0 : w7.cell? ⟨gb302, 0, none⟩ = some (.int .i64 a1_0) := kc BK302 0; have hcz10_1 : w7.cell? ⟨gb302, 1, none⟩ = some (.int .u64 a1_1) := kc BK302 1; have hfz10_0 := blk_frozen BK302.out 0; have hfz10_1 := blk_frozen BK302.out 1) | ((with_reducible refine gate_callee (f := 15) rfl ?_); refine goesL_ (some 11) rfl rfl Try.func15 (by kernel_rfl) rfl #[.agg #[.int .i64 a1_0, .int .u64 a1_1]] rfl (by (try simp only [List.map_toArray, List.map_cons, List.map_nil]); first | done | rfl | (simp only [List.length_drop, List.length_take]; rfl)) ?_; (with_reducible refine (wide_Sign.calls a1_0 a1_1 t304 _ A3.out).mono ?_); rintro e w11 ⟨rfl, hb⟩; refine ⟨_, rfl, ?_⟩; replace BK301 := kb BK301 hb; replace BK302 := kb BK302 hb; replace BK303 := kb BK303 hb; replace HB := kB HB hb; (try clear hb); (try clear hb2); (try clear hk); (try clear hi); have hnb12 := NB301_303.out; have hnc12 := NB303_301.out; have hcz13_0 : w11.cell? ⟨gb301, 0, none⟩ = some (.int .i64 a0_0) := kc BK301 0; have hcz13_1 : w11.cell? ⟨gb301, 1, none⟩ = some (.int .u64 a0_1) := kc BK301 1; have hfz13_0 := blk_frozen BK301.out 0; have hfz13_1 := blk_frozen BK301.out 1; have hcz14_0 : w11.cell? ⟨gb302, 0, none⟩ = some (.int .i64 a1_0) := kc BK302 0; have hcz14_1 : w11.cell? ⟨gb302, 1, none⟩ = some (.int .u64 a1_1) := kc BK302 1; have hfz14_0 := blk_frozen BK302.out 0; have hfz14_1 := blk_frozen BK302.out 1; have hcz15_0 : w11.cell? ⟨gb303, 0, none⟩ = some (.int .i64 0) := kc BK303 0; have hcz15_1 : w11.cell? ⟨gb303, 1, none⟩ = some (.int .u64 0) := kc BK303 1; have hcz15_2 : w11.cell? ⟨gb303, 2, none⟩ = some (.int .i64 0) := kc BK303 2; have hcz15_3 : w11.cell? ⟨gb303, 3, none⟩ = some (.int .u64 0) := kc BK303 3; have hfz15_0 := blk_frozen BK303.out 0; have hfz15_1 := blk_frozen BK303.out 1; have hfz15_2 := blk_frozen BK303.out 2; have hfz15_3 := blk_frozen BK303.out 3))
    refine bodyPost_ret (results_ct rfl _ _ gb303 26 #[.int .i64 a0_0, .int .u64 a0_1, .int .i64 a1_0, .int .u64 a1_1] (0, 0) _ rfl (by (with_reducible repeat (first | refine blk_drewN ?_ _ | refine blk_drew ?_ | refine blk_alloc ?_ _)); refine blk_put (cs := #[.int .i64 a0_0, .int .u64 a0_1, .int .i64 a1_0, .int .u64 0]) ?_ 3 _ rfl; (with_reducible repeat (first | refine blk_drewN ?_ _ | refine blk_drew ?_ | refine blk_alloc ?_ _)); refine blk_put (cs := #[.int .i64 a0_0, .int .u64 a0_1, .int .i64 0, .int .u64 0]) ?_ 2 _ rfl; (with_reducible repeat (first | refine blk_drewN ?_ _ | refine blk_drew ?_ | refine blk_alloc ?_ _)); refine blk_put (cs := #[.int .i64 a0_0, .int .u64 0, .int .i64 0, .int .u64 0]) ?_ 1 _ rfl; (with_reducible repeat (first | refine blk_drewN ?_ _ | refine blk_drew ?_ | refine blk_alloc ?_ _)); refine blk_put (cs := #[.int .i64 0, .int .u64 0, .int .i64 0, .int .u64 0]) ?_ 0 _ rfl; (with_reducible repeat (first | refine blk_drewN ?_ _ | refine blk_drew ?_ | refine blk_alloc ?_ _)); exact BK303.out) Try.underlying26 rfl (by kernel_rfl)) rfl ?_
    exact ⟨by first | rfl | (simp [errW_none, errW_some] <;> rfl) | (simp [*, errW_none, errW_some] <;> rfl), ky HB⟩
  rw [if_neg c4] at H
  have c4b0 : decide (0 < t304) = false := decide_eq_false c4
  clear c4
  replace H := Option.bind_eq_some_iff.mp H
  obtain ⟨⟨t305, t306, t307⟩, A160, H⟩ := H
  replace H : ((wide_Neg.f a1_0 a1_1).bind fun bt309 => (if t307 = true then (if bt309.2.2 = true then ((wide_Sign.f bt309.1 bt309.2.1).bind fun t313 => (frac_Make.j0 k (t313 == 0) t305 t306 bt309.1 bt309.2.1)) else (frac_Make.j0 k true t305 t306 bt309.1 bt309.2.1)) else (frac_Make.j0 k true t305 t306 bt309.1 bt309.2.1))) = some (r1, r2, r3, r4, r5) := H
  have A16 := Aside0.mk A160
  clear A160
  replace H := Option.bind_eq_some_iff.mp H
  obtain ⟨⟨t309, t310, t311⟩, A170, H⟩ := H
  replace H : (if t307 = true then (if t311 = true then ((wide_Sign.f t309 t310).bind fun t313 => (frac_Make.j0 k (t313 == 0) t305 t306 t309 t310)) else (frac_Make.j0 k true t305 t306 t309 t310)) else (frac_Make.j0 k true t305 t306 t309 t310)) = some (r1, r2, r3, r4, r5) := H
  have A17 := Aside0.mk A170
  clear A170
  have HC18 := Aside0.mk H
  clear H
  go_enter Try.func50, Try.ntmps50
  go_upto_region 5 with (first | ((with_reducible refine gate_dst (N := 2) rfl ?_); refine box_event ?hg (N := 2) ?hd (cs := #[.int .i64 a0_0, .int .u64 a0_1]) (t := 24) ?hr ?_; (case hd => rfl); (case hg => rfl); (case hr => first | (go_simp; done) | (go_simp; rfl)); intro gb301 hg w19 hbox hb; have BK301 := Aside0.mk (hbox); have GW301 := kS HB hg; have GE301 := kS HB hg; replace HB := kB HB hb; clear hb hbox hg) | ((with_reducible refine gate_dst (N := 3) rfl ?_); refine box_event ?hg (N := 3) ?hd (cs := #[.int .i64 a1_0, .int .u64 a1_1]) (t := 24) ?hr ?_; (case hd => rfl); (case hg => rfl); (case hr => first | (go_simp; done) | (go_simp; rfl)); intro gb302 hg w20 hbox hb; have BK302 := Aside0.mk (hbox); have GW302 := kS HB hg; have GE302 := kS HB hg; have NB301_302 := kN BK301 hg; have NB302_301 := kM BK301 hg; replace BK301 := kb BK301 hb; replace HB := kB HB hb; clear hb hbox hg) | ((with_reducible refine gate_dst (N := 4) rfl ?_); refine box_event ?hg (N := 4) ?hd (cs := #[.int .i64 0, .int .u64 0, .int .i64 0, .int .u64 0]) (t := 26) ?hr ?_; (case hd => rfl); (case hg => rfl); (case hr => first | (go_simp; done) | (go_simp; rfl)); intro gb303 hg w21 hbox hb; have BK303 := Aside0.mk (hbox); have GW303 := kS HB hg; have GE303 := kS HB hg; have NB301_303 := kN BK301 hg; have NB303_301 := kM BK301 hg; have NB302_303 := kN BK302 hg; have NB303_302 := kM BK302 hg; replace BK301 := kb BK301 hb; replace BK302 := kb BK302 hb; replace HB := kB HB hb; clear hb hbox hg; have hnb22 := NB302_301.out; have hnc22 := NB301_302.out; have hnb23 := NB302_303.out; have hnc23 := NB303_302.out; have hcz24_0 : w21.cell? ⟨gb302, 0, none⟩ = some (.int .i64 a1_0) := kc BK302 0; have hcz24_1 : w21.cell? ⟨gb302, 1, none⟩ = some (.int .u64 a1_1) := kc BK302 1; have hfz24_0 := blk_frozen BK302.out 0; have hfz24_1 := blk_frozen BK302.out 1) | ((with_reducible refine gate_callee (f := 15) rfl ?_); refine goesL_ (some 11) rfl rfl Try.func15 (by kernel_rfl) rfl #[.agg #[.int .i64 a1_0, .int .u64 a1_1]] rfl (by (try simp only [List.map_toArray, List.map_cons, List.map_nil]); first | done | rfl | (simp only [List.length_drop, List.length_take]; rfl)) ?_; (with_reducible refine (wide_Sign.calls a1_0 a1_1 t304 _ A3.out).mono ?_); rintro e w25 ⟨rfl, hb⟩; refine ⟨_, rfl, ?_⟩; replace BK301 := kb BK301 hb; replace BK302 := kb BK302 hb; replace BK303 := kb BK303 hb; replace HB := kB HB hb; (try clear hb); (try clear hb2); (try clear hk); (try clear hi); have hnb26 := NB301_303.out; have hnc26 := NB303_301.out; have hcz27_0 : w25.cell? ⟨gb301, 0, none⟩ = some (.int .i64 a0_0) := kc BK301 0; have hcz27_1 : w25.cell? ⟨gb301, 1, none⟩ = some (.int .u64 a0_1) := kc BK301 1; have hfz27_0 := blk_frozen BK301.out 0; have hfz27_1 := blk_frozen BK301.out 1) | ((with_reducible refine gate_callee (f := 30) rfl ?_); refine goesL_ (some 18) rfl rfl Try.func30 (by kernel_rfl) rfl #[.agg #[.int .i64 a0_0, .int .u64 a0_1]] rfl (by (try simp only [List.map_toArray, List.map_cons, List.map_nil]); first | done | rfl | (simp only [List.length_drop, List.length_take]; rfl)) ?_; (with_reducible refine (wide_Neg.calls a0_0 a0_1 t305 t306 t307 _ A16.out).mono ?_); rintro e w28 ⟨rfl, hb⟩; refine ⟨_, rfl, ?_⟩; replace BK301 := kb BK301 hb; replace BK302 := kb BK302 hb; replace BK303 := kb BK303 hb; replace HB := kB HB hb; (try clear hb); (try clear hb2); (try clear hk); (try clear hi)) | ((with_reducible refine gate_dst (N := 6) rfl ?_); refine box_event ?hg (N := 6) ?hd (cs := #[.int .i64 0, .int .u64 0]) (t := 24) ?hr ?_; (case hd => rfl); (case hg => rfl); (case hr => first | (go_simp; done) | (go_simp; rfl)); intro gb308 hg w29 hbox hb; have BK308 := Aside0.mk (hbox); have GW308 := kS HB hg; have GE308 := kS HB hg; have NB301_308 := kN BK301 hg; have NB308_301 := kM BK301 hg; have NB302_308 := kN BK302 hg; have NB308_302 := kM BK302 hg; have NB303_308 := kN BK303 hg; have NB308_303 := kM BK303 hg; replace BK301 := kb BK301 hb; replace BK302 := kb BK302 hb; replace BK303 := kb BK303 hb; replace HB := kB HB hb; clear hb hbox hg; have hnb30 := NB308_301.out; have hnc30 := NB301_308.out; have hnb31 := NB308_302.out; have hnc31 := NB302_308.out; have hnb32 := NB308_303.out; have hnc32 := NB303_308.out; have hcz33_0 : w29.cell? ⟨gb308, 0, none⟩ = some (.int .i64 0) := kc BK308 0; have hcz33_1 : w29.cell? ⟨gb308, 1, none⟩ = some (.int .u64 0) := kc BK308 1; have hfz33_0 := blk_frozen BK308.out 0; have hfz33_1 := blk_frozen BK308.out 1; have hcz34_0 : w29.cell? ⟨gb302, 0, none⟩ = some (.int .i64 a1_0) := kc BK302 0; have hcz34_1 : w29.cell? ⟨gb302, 1, none⟩ = some (.int .u64 a1_1) := kc BK302 1; have hfz34_0 := blk_frozen BK302.out 0; have hfz34_1 := blk_frozen BK302.out 1) | ((with_reducible refine gate_callee (f := 30) rfl ?_); refine goesL_ (some 23) rfl rfl Try.func30 (by kernel_rfl) rfl #[.agg #[.int .i64 a1_0, .int .u64 a1_1]] rfl (by (try simp only [List.map_toArray, List.map_cons, List.map_nil]); first | done | rfl | (simp only [List.length_drop, List.length_take]; rfl)) ?_; (with_reducible refine (wide_Neg.calls a1_0 a1_1 t309 t310 t311 _ A17.out).mono ?_); rintro e w35 ⟨rfl, hb⟩; refine ⟨_, rfl, ?_⟩; have n0_ := kb BK301 hb; have n1_ := kb BK302 hb; have n2_ := kb BK303 hb; have n3_ := Aside0.mk (blk_below (g := gb308) (o := .cells #[.int .i64 t305, .int .u64 t306] 24 (0, 0)) (by (with_reducible repeat (first | refine blk_drewN ?_ _ | refine blk_drew ?_ | refine blk_alloc ?_ _)); refine blk_put (cs := #[.int .i64 t305, .int .u64 0]) ?_ 1 _ rfl; (with_reducible repeat (first | refine blk_drewN ?_ _ | refine blk_drew ?_ | refine blk_alloc ?_ _)); refine blk_put (cs := #[.int .i64 0, .int .u64 0]) ?_ 0 _ rfl; (with_reducible repeat (first | refine blk_drewN ?_ _ | refine blk_drew ?_ | refine blk_alloc ?_ _)); exact BK308.out) hb); have n4_ := kB HB hb; clear BK301; clear BK302; clear BK303; clear BK308; clear HB; have BK301 := n0_; have BK302 := n1_; have BK303 := n2_; have BK308 := n3_; have HB := n4_; clear n0_ n1_ n2_ n3_ n4_; (try clear hb); (try clear hb2); (try clear hk); (try clear hi)) | ((with_reducible refine gate_dst (N := 8) rfl ?_); refine box_event ?hg (N := 8) ?hd (cs := #[.int .i64 0, .int .u64 0]) (t := 24) ?hr ?_; (case hd => rfl); (case hg => rfl); (case hr => first | (go_simp; done) | (go_simp; rfl)); intro gb312 hg w36 hbox hb; have BK312 := Aside0.mk (hbox); have GW312 := kS HB hg; have GE312 := kS HB hg; have NB301_312 := kN BK301 hg; have NB312_301 := kM BK301 hg; have NB302_312 := kN BK302 hg; have NB312_302 := kM BK302 hg; have NB303_312 := kN BK303 hg; have NB312_303 := kM BK303 hg; have NB308_312 := kN BK308 hg; have NB312_308 := kM BK308 hg; replace BK301 := kb BK301 hb; replace BK302 := kb BK302 hb; replace BK303 := kb BK303 hb; replace BK308 := kb BK308 hb; replace HB := kB HB hb; clear hb hbox hg; have hnb37 := NB312_301.out; have hnc37 := NB301_312.out; have hnb38 := NB312_302.out; have hnc38 := NB302_312.out; have hnb39 := NB312_303.out; have hnc39 := NB303_312.out; have hnb40 := NB312_308.out; have hnc40 := NB308_312.out; have hcz41_0 : w36.cell? ⟨gb312, 0, none⟩ = some (.int .i64 0) := kc BK312 0; have hcz41_1 : w36.cell? ⟨gb312, 1, none⟩ = some (.int .u64 0) := kc BK312 1; have hfz41_0 := blk_frozen BK312.out 0; have hfz41_1 := blk_frozen BK312.out 1))
  (try simp only [Act.put, s1, s2, s3])
  go_cut [36] (fun v36 wc => ∃ (kq : Nat) (x36_17 : Bool), v36 = .bool x36_17 ∧ Aside0 (frac_Make.j0 kq x36_17 t305 t306 t309 t310 = some (r1, r2, r3, r4, r5)) ∧ Aside0 (kq ≤ k) ∧ Aside0 (wc.heap[gb301]? = some (.cells #[.int .i64 a0_0, .int .u64 a0_1] 24 (0, 0))) ∧ Aside0 (wc.heap[gb302]? = some (.cells #[.int .i64 a1_0, .int .u64 a1_1] 24 (0, 0))) ∧ Aside0 (wc.heap[gb303]? = some (.cells #[.int .i64 0, .int .u64 0, .int .i64 0, .int .u64 0] 26 (0, 0))) ∧ Aside0 (wc.heap[gb308]? = some (.cells #[.int .i64 t305, .int .u64 t306] 24 (0, 0))) ∧ Aside0 (wc.heap[gb312]? = some (.cells #[.int .i64 t309, .int .u64 t310] 24 (0, 0))) ∧ Aside0 (Below w.heap.size w wc))
  case first =>
    have H := HC18.out; clear HC18
    by_cases c42 : t307 = true
    rotate_left
    · replace c42 := Bool.eq_false_iff.mpr c42
      subst c42
      have H1 : (frac_Make.j0 k true t305 t306 t309 t310) = some (r1, r2, r3, r4, r5) := by rw [if_neg (show ¬ (false = true) by decide)] at H; exact H
      clear H; have H := H1; clear H1
      have H' := Aside0.mk H
      clear H
      go_wp2
      go_meet
      case rel => exact ⟨_, (true), (by first | rfl | (simp; done) | (simp [*]; done)), H', ⟨by first | omega | exact Nat.le_refl _⟩, ⟨kx BK301⟩, ⟨kx BK302⟩, ⟨kx BK303⟩, ⟨kx BK308⟩, ⟨by (with_reducible repeat (first | refine blk_drewN ?_ _ | refine blk_drew ?_ | refine blk_alloc ?_ _)); refine blk_put (cs := #[.int .i64 t309, .int .u64 0]) ?_ 1 _ rfl; (with_reducible repeat (first | refine blk_drewN ?_ _ | refine blk_drew ?_ | refine blk_alloc ?_ _)); refine blk_put (cs := #[.int .i64 0, .int .u64 0]) ?_ 0 _ rfl; (with_reducible repeat (first | refine blk_drewN ?_ _ | refine blk_drew ?_ | refine blk_alloc ?_ _)); exact BK312.out⟩, ⟨ky HB⟩⟩
    subst c42
    have H1 : (if t311 = true then ((wide_Sign.f t309 t310).bind fun t313 => (frac_Make.j0 k (t313 == 0) t305 t306 t309 t310)) else (frac_Make.j0 k true t305 t306 t309 t310)) = some (r1, r2, r3, r4, r5) := by rw [if_pos rfl] at H; exact H
    clear H; have H := H1; clear H1
    by_cases c43 : t311 = true
    rotate_left
    · replace c43 := Bool.eq_false_iff.mpr c43
      subst c43
      have H1 : (frac_Make.j0 k true t305 t306 t309 t310) = some (r1, r2, r3, r4, r5) := by rw [if_neg (show ¬ (false = true) by decide)] at H; exact H
      clear H; have H := H1; clear H1
      have H' := Aside0.mk H
      clear H
      go_wp2
      go_meet
      case rel => exact ⟨_, (true), (by first | rfl | (simp; done) | (simp [*]; done)), H', ⟨by first | omega | exact Nat.le_refl _⟩, ⟨kx BK301⟩, ⟨kx BK302⟩, ⟨kx BK303⟩, ⟨kx BK308⟩, ⟨by (with_reducible repeat (first | refine blk_drewN ?_ _ | refine blk_drew ?_ | refine blk_alloc ?_ _)); refine blk_put (cs := #[.int .i64 t309, .int .u64 0]) ?_ 1 _ rfl; (with_reducible repeat (first | refine blk_drewN ?_ _ | refine blk_drew ?_ | refine blk_alloc ?_ _)); refine blk_put (cs := #[.int .i64 0, .int .u64 0]) ?_ 0 _ rfl; (with_reducible repeat (first | refine blk_drewN ?_ _ | refine blk_drew ?_ | refine blk_alloc ?_ _)); exact BK312.out⟩, ⟨ky HB⟩⟩
    subst c43
    have H1 : ((wide_Sign.f t309 t310).bind fun t313 => (frac_Make.j0 k (t313 == 0) t305 t306 t309 t310)) = some (r1, r2, r3, r4, r5) := by rw [if_pos rfl] at H; exact H
    clear H; have H := H1; clear H1
    replace H := Option.bind_eq_some_iff.mp H
    obtain ⟨t313, A440, H⟩ := H
    replace H : (frac_Make.j0 k (t313 == 0) t305 t306 t309 t310) = some (r1, r2, r3, r4, r5) := H
    have A44 := Aside0.mk A440
    clear A440
    have H' := Aside0.mk H
    clear H; have hnb45 := NB312_301.out; have hnc45 := NB301_312.out; have hnb46 := NB312_302.out; have hnc46 := NB302_312.out; have hnb47 := NB312_303.out; have hnc47 := NB303_312.out; have hnb48 := NB312_308.out; have hnc48 := NB308_312.out
    have hcz49_0 : w36.cell? ⟨gb312, 0, none⟩ = some (.int .i64 0) := kc BK312 0
    have hcz49_1 : w36.cell? ⟨gb312, 1, none⟩ = some (.int .u64 0) := kc BK312 1
    have hfz49_0 := blk_frozen BK312.out 0
    have hfz49_1 := blk_frozen BK312.out 1
    go_wp2_with (first | (go_at_call 15; (with_reducible refine (wide_Sign.calls t309 t310 t313 _ A44.out).mono ?_); rintro e w50 ⟨rfl, hb⟩; have n0_ := kb BK301 hb; have n1_ := kb BK302 hb; have n2_ := kb BK303 hb; have n3_ := kb BK308 hb; have n4_ := Aside0.mk (blk_below (g := gb312) (o := .cells #[.int .i64 t309, .int .u64 t310] 24 (0, 0)) (by (with_reducible repeat (first | refine blk_drewN ?_ _ | refine blk_drew ?_ | refine blk_alloc ?_ _)); refine blk_put (cs := #[.int .i64 t309, .int .u64 0]) ?_ 1 _ rfl; (with_reducible repeat (first | refine blk_drewN ?_ _ | refine blk_drew ?_ | refine blk_alloc ?_ _)); refine blk_put (cs := #[.int .i64 0, .int .u64 0]) ?_ 0 _ rfl; (with_reducible repeat (first | refine blk_drewN ?_ _ | refine blk_drew ?_ | refine blk_alloc ?_ _)); exact BK312.out) hb); have n5_ := kB HB hb; clear BK301; clear BK302; clear BK303; clear BK308; clear BK312; clear HB; have BK301 := n0_; have BK302 := n1_; have BK303 := n2_; have BK308 := n3_; have BK312 := n4_; have HB := n5_; clear n0_ n1_ n2_ n3_ n4_ n5_; (try clear hb); (try clear hb2); (try clear hk); (try clear hi)))
    go_meet
    case rel => exact ⟨_, ((t313 == 0)), (by first | rfl | (simp; done) | (simp [*]; done)), H', ⟨by first | omega | exact Nat.le_refl _⟩, ⟨kx BK301⟩, ⟨kx BK302⟩, ⟨kx BK303⟩, ⟨kx BK308⟩, ⟨kx BK312⟩, ⟨ky HB⟩⟩
  case rest =>
    clear HC18; try clear c1; try clear c2; try clear p2; try clear c3; try clear c4; try clear c4b0; try clear c5; try clear c8; try clear c9; try clear c12; try clear c15; try clear c22; try clear c23; try clear c26; try clear c30; try clear c31; try clear c32; try clear c37; try clear c38; try clear c39; try clear c40; try clear c42; try clear c43; try clear c45; try clear c46; try clear c47; try clear c48; try clear c50; try clear hcz10_0; try clear hcz10_1; try clear hcz13_0; try clear hcz13_1; try clear hcz14_0; try clear hcz14_1; try clear hcz15_0; try clear hcz15_1; try clear hcz15_2; try clear hcz15_3; try clear hcz24_0; try clear hcz24_1; try clear hcz27_0; try clear hcz27_1; try clear hcz33_0; try clear hcz33_1; try clear hcz34_0; try clear hcz34_1; try clear hcz41_0; try clear hcz41_1; try clear hcz49_0; try clear hcz49_1; try clear hfz10_0; try clear hfz10_1; try clear hfz13_0; try clear hfz13_1; try clear hfz14_0; try clear hfz14_1; try clear hfz15_0; try clear hfz15_1; try clear hfz15_2; try clear hfz15_3; try clear hfz24_0; try clear hfz24_1; try clear hfz27_0; try clear hfz27_1; try clear hfz33_0; try clear hfz33_1; try clear hfz34_0; try clear hfz34_1; try clear hfz41_0; try clear hfz41_1; try clear hfz49_0; try clear hfz49_1
    obtain ⟨kq, x36_17, rfl, HA, HJ17, BK301, BK302, BK303, BK308, BK312, HB⟩ := hcut
    cases kq with
    | zero => exact absurd HA.out (by simp [frac_Make.j0])
    | succ kj17 =>
      have H := HA.out; clear HA
      simp only [frac_Make.j0] at H
      by_cases c51 : x36_17 = true
      · subst c51
        have H1 : (some (0, 0, 0, 0, false)) = some (r1, r2, r3, r4, r5) := by rw [if_pos rfl] at H; exact H
        clear H; have H := H1; clear H1
        simp only [Option.some.injEq, Prod.mk.injEq] at H
        obtain ⟨rfl, rfl, rfl, rfl, rfl⟩ := H
        have hnb52 := NB303_301.out; have hnc52 := NB301_303.out; have hnb53 := NB303_302.out; have hnc53 := NB302_303.out; have hnb54 := NB303_308.out; have hnc54 := NB308_303.out; have hnb55 := NB303_312.out; have hnc55 := NB312_303.out
        have hcz56_0 : wc.cell? ⟨gb303, 0, none⟩ = some (.int .i64 0) := kc BK303 0
        have hcz56_1 : wc.cell? ⟨gb303, 1, none⟩ = some (.int .u64 0) := kc BK303 1
        have hcz56_2 : wc.cell? ⟨gb303, 2, none⟩ = some (.int .i64 0) := kc BK303 2
        have hcz56_3 : wc.cell? ⟨gb303, 3, none⟩ = some (.int .u64 0) := kc BK303 3
        have hfz56_0 := blk_frozen BK303.out 0
        have hfz56_1 := blk_frozen BK303.out 1
        have hfz56_2 := blk_frozen BK303.out 2
        have hfz56_3 := blk_frozen BK303.out 3
        go_wp2
        refine bodyPost_ret (results_ct rfl _ _ gb303 26 #[.int .i64 0, .int .u64 0, .int .i64 0, .int .u64 0] (0, 0) _ rfl (by (with_reducible repeat (first | refine blk_drewN ?_ _ | refine blk_drew ?_ | refine blk_alloc ?_ _)); refine blk_put (cs := #[.int .i64 0, .int .u64 0, .int .i64 0, .int .u64 0]) ?_ 3 _ rfl; (with_reducible repeat (first | refine blk_drewN ?_ _ | refine blk_drew ?_ | refine blk_alloc ?_ _)); refine blk_put (cs := #[.int .i64 0, .int .u64 0, .int .i64 0, .int .u64 0]) ?_ 2 _ rfl; (with_reducible repeat (first | refine blk_drewN ?_ _ | refine blk_drew ?_ | refine blk_alloc ?_ _)); refine blk_put (cs := #[.int .i64 0, .int .u64 0, .int .i64 0, .int .u64 0]) ?_ 1 _ rfl; (with_reducible repeat (first | refine blk_drewN ?_ _ | refine blk_drew ?_ | refine blk_alloc ?_ _)); refine blk_put (cs := #[.int .i64 0, .int .u64 0, .int .i64 0, .int .u64 0]) ?_ 0 _ rfl; (with_reducible repeat (first | refine blk_drewN ?_ _ | refine blk_drew ?_ | refine blk_alloc ?_ _)); exact BK303.out) Try.underlying26 rfl (by kernel_rfl)) rfl ?_
        exact ⟨by first | rfl | (simp [errW_none, errW_some] <;> rfl) | (simp [*, errW_none, errW_some] <;> rfl), ky HB⟩
      replace c51 := Bool.eq_false_iff.mpr c51
      subst c51
      have H1 : (some (t305, t306, t309, t310, true)) = some (r1, r2, r3, r4, r5) := by rw [if_neg (show ¬ (false = true) by decide)] at H; exact H
      clear H; have H := H1; clear H1
      simp only [Option.some.injEq, Prod.mk.injEq] at H
      obtain ⟨rfl, rfl, rfl, rfl, rfl⟩ := H
      have hnb57 := NB308_301.out; have hnc57 := NB301_308.out; have hnb58 := NB308_302.out; have hnc58 := NB302_308.out; have hnb59 := NB308_303.out; have hnc59 := NB303_308.out; have hnb60 := NB308_312.out; have hnc60 := NB312_308.out
      have hcz61_0 : wc.cell? ⟨gb308, 0, none⟩ = some (.int .i64 t305) := kc BK308 0
      have hcz61_1 : wc.cell? ⟨gb308, 1, none⟩ = some (.int .u64 t306) := kc BK308 1
      have hfz61_0 := blk_frozen BK308.out 0
      have hfz61_1 := blk_frozen BK308.out 1
      have hnb62 := NB312_301.out; have hnc62 := NB301_312.out; have hnb63 := NB312_302.out; have hnc63 := NB302_312.out; have hnb64 := NB312_303.out; have hnc64 := NB303_312.out
      have hcz65_0 : wc.cell? ⟨gb312, 0, none⟩ = some (.int .i64 t309) := kc BK312 0
      have hcz65_1 : wc.cell? ⟨gb312, 1, none⟩ = some (.int .u64 t310) := kc BK312 1
      have hfz65_0 := blk_frozen BK312.out 0
      have hfz65_1 := blk_frozen BK312.out 1
      have hnb66 := NB303_301.out; have hnc66 := NB301_303.out; have hnb67 := NB303_302.out; have hnc67 := NB302_303.out
      have hcz68_0 : wc.cell? ⟨gb303, 0, none⟩ = some (.int .i64 0) := kc BK303 0
      have hcz68_1 : wc.cell? ⟨gb303, 1, none⟩ = some (.int .u64 0) := kc BK303 1
      have hcz68_2 : wc.cell? ⟨gb303, 2, none⟩ = some (.int .i64 0) := kc BK303 2
      have hcz68_3 : wc.cell? ⟨gb303, 3, none⟩ = some (.int .u64 0) := kc BK303 3
      have hfz68_0 := blk_frozen BK303.out 0
      have hfz68_1 := blk_frozen BK303.out 1
      have hfz68_2 := blk_frozen BK303.out 2
      have hfz68_3 := blk_frozen BK303.out 3
      go_wp2
      refine bodyPost_ret (results_ct rfl _ _ gb303 26 #[.int .i64 t305, .int .u64 t306, .int .i64 t309, .int .u64 t310] (0, 0) _ rfl (by (with_reducible repeat (first | refine blk_drewN ?_ _ | refine blk_drew ?_ | refine blk_alloc ?_ _)); refine blk_put (cs := #[.int .i64 t305, .int .u64 t306, .int .i64 t309, .int .u64 0]) ?_ 3 _ rfl; (with_reducible repeat (first | refine blk_drewN ?_ _ | refine blk_drew ?_ | refine blk_alloc ?_ _)); refine blk_put (cs := #[.int .i64 t305, .int .u64 t306, .int .i64 0, .int .u64 0]) ?_ 2 _ rfl; (with_reducible repeat (first | refine blk_drewN ?_ _ | refine blk_drew ?_ | refine blk_alloc ?_ _)); refine blk_put (cs := #[.int .i64 t305, .int .u64 0, .int .i64 0, .int .u64 0]) ?_ 1 _ rfl; (with_reducible repeat (first | refine blk_drewN ?_ _ | refine blk_drew ?_ | refine blk_alloc ?_ _)); refine blk_put (cs := #[.int .i64 0, .int .u64 0, .int .i64 0, .int .u64 0]) ?_ 0 _ rfl; (with_reducible repeat (first | refine blk_drewN ?_ _ | refine blk_drew ?_ | refine blk_alloc ?_ _)); exact BK303.out) Try.underlying26 rfl (by kernel_rfl)) rfl ?_
      exact ⟨by first | rfl | (simp [errW_none, errW_some] <;> rfl) | (simp [*, errW_none, errW_some] <;> rfl), ky HB⟩

/-! ### cobweblaw02_alive: function 16 -/
def cobweblaw02_alive.f (k : Nat)  : Option (Bool) := (wide_Of.f (-7)).bind fun bt314 => ((wide_Of.f (-2)).bind fun bt316 => ((frac_Make.f k bt314.1 bt314.2 bt316.1 bt316.2).bind fun bt318 => ((wide_Of.f 1).bind fun bt324 => ((wide_Of.f 0).bind fun bt326 => ((frac_Make.f k bt324.1 bt324.2 bt326.1 bt326.2).bind fun bt328 => ((frac_Snap.f k bt318.1 bt318.2.1 bt318.2.2.1 bt318.2.2.2.1 1).bind fun bt334 => (if bt318.2.2.2.2 = true then ((wide_Of.f 7).bind fun bt338 => ((wide_Of.f 2).bind fun bt340 => (if ((bt318.1 == bt338.1 && (bt318.2.1 == bt338.2)) && ((bt318.2.2.1 == bt340.1 && (bt318.2.2.2.1 == bt340.2)))) = true then (if bt328.2.2.2.2 = true then (none) else ((frac_Right.f bt318.1 bt318.2.1 bt318.2.2.1 bt318.2.2.2.1).bind fun t342 => (if t342 = true then ((frac_Right.f 0 0 0 0).bind fun t343 => (if t343 = true then (none) else ((frac_Floor.f k bt318.1 bt318.2.1 bt318.2.2.1 bt318.2.2.2.1).bind fun bt344 => ((wide_Of.f 3).bind fun bt346 => (if (bt344.1 == bt346.1 && (bt344.2 == bt346.2)) = true then (if bt334.2.2 = true then ((wide_Of.f 2).bind fun bt348 => (if (bt334.1 == bt348.1 && (bt334.2.1 == bt348.2)) = true then ((frac_Of.f 4).bind fun bt350 => ((frac_Cmp.f k bt318.1 bt318.2.1 bt318.2.2.1 bt318.2.2.2.1 bt350.1 bt350.2.1 bt350.2.2.1 bt350.2.2.2).bind fun t354 => (some (t354 == (-1))))) else (none))) else (none)) else (none)))))) else (none)))) else (none)))) else (none))))))))
theorem cobweblaw02_alive.mono : ∀ k, LeO (cobweblaw02_alive.f k ) (cobweblaw02_alive.f (k + 1) ) := by
  intro  k
  unfold cobweblaw02_alive.f
  repeat' first
      | (with_reducible exact frac_Cmp.mono _ _ _ _ _ _ _ _ _)
      | (with_reducible exact frac_Floor.mono _ _ _ _ _)
      | (with_reducible exact frac_Make.mono _ _ _ _ _)
      | (with_reducible exact frac_Snap.mono _ _ _ _ _ _)
      | (with_reducible exact LeO.refl _)
      | (with_reducible exact LeO.none _)
      | (with_reducible refine LeO.ite ?_ ?_)
      | (with_reducible refine LeO.bind ?_ (fun _ => ?_))
      | exact frac_Cmp.mono _ _ _ _ _ _ _ _ _
      | exact frac_Floor.mono _ _ _ _ _
      | exact frac_Make.mono _ _ _ _ _
      | exact frac_Snap.mono _ _ _ _ _ _
      | exact LeO.none _
      | refine LeO.ite ?_ ?_
      | refine LeO.bind ?_ (fun _ => ?_)
def cobweblaw02_alive.T4 : Bool × List (List Nat × List Nat) := (true, [([], []), ([0], [0]), ([1], [1]), ([1, 1], [1]), ([3, 1], [1]), ([3, 4, 1], [1, 3, 4]), ([2, 5, 1], [1, 2, 5]), ([1, 6], [1, 6]), ([7, 4], [7]), ([8], [8]), ([9, 8], [8, 9]), ([8, 10], [8, 10]), ([11, 8], [11]), ([12], [12]), ([13, 12, 12], [12, 13]), ([12, 14], [12, 14]), ([15, 14], [15]), ([16], [16]), ([17, 16, 16], [16, 17]), ([18, 16], [16, 18]), ([16, 19], [16, 19]), ([20, 18], [20]), ([21], [21]), ([22, 21, 21], [21, 22]), ([23, 21], [21]), ([23, 24, 21], [21, 23, 24]), ([21, 25], [21, 25]), ([26, 24], [26]), ([27], [27]), ([27, 28], [27, 28]), ([29, 27], [29]), ([30], [30]), ([30, 30], [30]), ([31, 32, 30], [30, 31, 32]), ([30, 33], [30, 33]), ([34, 32], [34]), ([35], [35]), ([35, 35], [35]), ([36, 37, 37, 35], [35, 36, 37]), ([38, 35], [35, 38]), ([35, 39], [35, 39]), ([40, 38, 0, 1, 2, 3, 4, 5, 6, 7, 8, 9, 10, 11, 12, 13, 14, 15, 16, 17, 18, 19, 20, 21, 22, 23, 24, 25, 26, 27, 28, 29, 30, 31, 32, 33, 34, 35, 36, 37, 38, 39, 40], [40])])
def cobweblaw02_alive.B4 : List Nat := [0, 1, 3, 3, 11, 27, 63, 127, 255, 511, 1023, 2047, 4095, 8191, 16383, 32767, 65535, 131071, 262143, 524287, 1048575, 2097151, 4194303, 8388607, 16777215, 33554431, 67108863, 134217727, 268435455, 536870911, 1073741823, 2147483647, 2147483647, 8589934591, 17179869183, 34359738367, 68719476735, 68719476735, 274877906943, 549755813887, 1099511627775, 2199023255551]
theorem cobweblaw02_alive.tab4 : rtab .any (opsOf Try.f16 4) = cobweblaw02_alive.T4 := by kernel_rfl
theorem cobweblaw02_alive.bits4 : waitsOk cobweblaw02_alive.T4.2 cobweblaw02_alive.B4 = true := by kernel_rfl
set_option maxHeartbeats 8000000 in
set_option maxRecDepth 100000 in
theorem cobweblaw02_alive.calls (k : Nat)  (r : Bool) (w : World) (h : cobweblaw02_alive.f k  = some r) :
    Calls Try.prog 16 #[] w fun e w' => e = .returned (.bool r) ∧ Below w.heap.size w w' := by
  have hu26 := Try.underlying26
  have hu24 := Try.underlying24
  have HB := Aside0.mk (Below.refl w.heap.size w)
  have H : ((wide_Of.f (-7)).bind fun bt314 => ((wide_Of.f (-2)).bind fun bt316 => ((frac_Make.f k bt314.1 bt314.2 bt316.1 bt316.2).bind fun bt318 => ((wide_Of.f 1).bind fun bt324 => ((wide_Of.f 0).bind fun bt326 => ((frac_Make.f k bt324.1 bt324.2 bt326.1 bt326.2).bind fun bt328 => ((frac_Snap.f k bt318.1 bt318.2.1 bt318.2.2.1 bt318.2.2.2.1 1).bind fun bt334 => (if bt318.2.2.2.2 = true then ((wide_Of.f 7).bind fun bt338 => ((wide_Of.f 2).bind fun bt340 => (if ((bt318.1 == bt338.1 && (bt318.2.1 == bt338.2)) && ((bt318.2.2.1 == bt340.1 && (bt318.2.2.2.1 == bt340.2)))) = true then (if bt328.2.2.2.2 = true then (none) else ((frac_Right.f bt318.1 bt318.2.1 bt318.2.2.1 bt318.2.2.2.1).bind fun t342 => (if t342 = true then ((frac_Right.f 0 0 0 0).bind fun t343 => (if t343 = true then (none) else ((frac_Floor.f k bt318.1 bt318.2.1 bt318.2.2.1 bt318.2.2.2.1).bind fun bt344 => ((wide_Of.f 3).bind fun bt346 => (if (bt344.1 == bt346.1 && (bt344.2 == bt346.2)) = true then (if bt334.2.2 = true then ((wide_Of.f 2).bind fun bt348 => (if (bt334.1 == bt348.1 && (bt334.2.1 == bt348.2)) = true then ((frac_Of.f 4).bind fun bt350 => ((frac_Cmp.f k bt318.1 bt318.2.1 bt318.2.2.1 bt318.2.2.2.1 bt350.1 bt350.2.1 bt350.2.2.1 bt350.2.2.2).bind fun t354 => (some (t354 == (-1))))) else (none))) else (none)) else (none)))))) else (none)))) else (none)))) else (none))))))))) = some r := h
  clear h
  replace H := Option.bind_eq_some_iff.mp H
  obtain ⟨⟨t314, t315⟩, A10, H⟩ := H
  replace H : ((wide_Of.f (-2)).bind fun bt316 => ((frac_Make.f k t314 t315 bt316.1 bt316.2).bind fun bt318 => ((wide_Of.f 1).bind fun bt324 => ((wide_Of.f 0).bind fun bt326 => ((frac_Make.f k bt324.1 bt324.2 bt326.1 bt326.2).bind fun bt328 => ((frac_Snap.f k bt318.1 bt318.2.1 bt318.2.2.1 bt318.2.2.2.1 1).bind fun bt334 => (if bt318.2.2.2.2 = true then ((wide_Of.f 7).bind fun bt338 => ((wide_Of.f 2).bind fun bt340 => (if ((bt318.1 == bt338.1 && (bt318.2.1 == bt338.2)) && ((bt318.2.2.1 == bt340.1 && (bt318.2.2.2.1 == bt340.2)))) = true then (if bt328.2.2.2.2 = true then (none) else ((frac_Right.f bt318.1 bt318.2.1 bt318.2.2.1 bt318.2.2.2.1).bind fun t342 => (if t342 = true then ((frac_Right.f 0 0 0 0).bind fun t343 => (if t343 = true then (none) else ((frac_Floor.f k bt318.1 bt318.2.1 bt318.2.2.1 bt318.2.2.2.1).bind fun bt344 => ((wide_Of.f 3).bind fun bt346 => (if (bt344.1 == bt346.1 && (bt344.2 == bt346.2)) = true then (if bt334.2.2 = true then ((wide_Of.f 2).bind fun bt348 => (if (bt334.1 == bt348.1 && (bt334.2.1 == bt348.2)) = true then ((frac_Of.f 4).bind fun bt350 => ((frac_Cmp.f k bt318.1 bt318.2.1 bt318.2.2.1 bt318.2.2.2.1 bt350.1 bt350.2.1 bt350.2.2.1 bt350.2.2.2).bind fun t354 => (some (t354 == (-1))))) else (none))) else (none)) else (none)))))) else (none)))) else (none)))) else (none)))))))) = some r := H
  have A1 := Aside0.mk A10
  clear A10
  replace H := Option.bind_eq_some_iff.mp H
  obtain ⟨⟨t316, t317⟩, A20, H⟩ := H
  replace H : ((frac_Make.f k t314 t315 t316 t317).bind fun bt318 => ((wide_Of.f 1).bind fun bt324 => ((wide_Of.f 0).bind fun bt326 => ((frac_Make.f k bt324.1 bt324.2 bt326.1 bt326.2).bind fun bt328 => ((frac_Snap.f k bt318.1 bt318.2.1 bt318.2.2.1 bt318.2.2.2.1 1).bind fun bt334 => (if bt318.2.2.2.2 = true then ((wide_Of.f 7).bind fun bt338 => ((wide_Of.f 2).bind fun bt340 => (if ((bt318.1 == bt338.1 && (bt318.2.1 == bt338.2)) && ((bt318.2.2.1 == bt340.1 && (bt318.2.2.2.1 == bt340.2)))) = true then (if bt328.2.2.2.2 = true then (none) else ((frac_Right.f bt318.1 bt318.2.1 bt318.2.2.1 bt318.2.2.2.1).bind fun t342 => (if t342 = true then ((frac_Right.f 0 0 0 0).bind fun t343 => (if t343 = true then (none) else ((frac_Floor.f k bt318.1 bt318.2.1 bt318.2.2.1 bt318.2.2.2.1).bind fun bt344 => ((wide_Of.f 3).bind fun bt346 => (if (bt344.1 == bt346.1 && (bt344.2 == bt346.2)) = true then (if bt334.2.2 = true then ((wide_Of.f 2).bind fun bt348 => (if (bt334.1 == bt348.1 && (bt334.2.1 == bt348.2)) = true then ((frac_Of.f 4).bind fun bt350 => ((frac_Cmp.f k bt318.1 bt318.2.1 bt318.2.2.1 bt318.2.2.2.1 bt350.1 bt350.2.1 bt350.2.2.1 bt350.2.2.2).bind fun t354 => (some (t354 == (-1))))) else (none))) else (none)) else (none)))))) else (none)))) else (none)))) else (none))))))) = some r := H
  have A2 := Aside0.mk A20
  clear A20
  replace H := Option.bind_eq_some_iff.mp H
  obtain ⟨⟨t318, t319, t320, t321, t322⟩, A30, H⟩ := H
  replace H : ((wide_Of.f 1).bind fun bt324 => ((wide_Of.f 0).bind fun bt326 => ((frac_Make.f k bt324.1 bt324.2 bt326.1 bt326.2).bind fun bt328 => ((frac_Snap.f k t318 t319 t320 t321 1).bind fun bt334 => (if t322 = true then ((wide_Of.f 7).bind fun bt338 => ((wide_Of.f 2).bind fun bt340 => (if ((t318 == bt338.1 && (t319 == bt338.2)) && ((t320 == bt340.1 && (t321 == bt340.2)))) = true then (if bt328.2.2.2.2 = true then (none) else ((frac_Right.f t318 t319 t320 t321).bind fun t342 => (if t342 = true then ((frac_Right.f 0 0 0 0).bind fun t343 => (if t343 = true then (none) else ((frac_Floor.f k t318 t319 t320 t321).bind fun bt344 => ((wide_Of.f 3).bind fun bt346 => (if (bt344.1 == bt346.1 && (bt344.2 == bt346.2)) = true then (if bt334.2.2 = true then ((wide_Of.f 2).bind fun bt348 => (if (bt334.1 == bt348.1 && (bt334.2.1 == bt348.2)) = true then ((frac_Of.f 4).bind fun bt350 => ((frac_Cmp.f k t318 t319 t320 t321 bt350.1 bt350.2.1 bt350.2.2.1 bt350.2.2.2).bind fun t354 => (some (t354 == (-1))))) else (none))) else (none)) else (none)))))) else (none)))) else (none)))) else (none)))))) = some r := H
  have A3 := Aside0.mk A30
  clear A30
  replace H := Option.bind_eq_some_iff.mp H
  obtain ⟨⟨t324, t325⟩, A40, H⟩ := H
  replace H : ((wide_Of.f 0).bind fun bt326 => ((frac_Make.f k t324 t325 bt326.1 bt326.2).bind fun bt328 => ((frac_Snap.f k t318 t319 t320 t321 1).bind fun bt334 => (if t322 = true then ((wide_Of.f 7).bind fun bt338 => ((wide_Of.f 2).bind fun bt340 => (if ((t318 == bt338.1 && (t319 == bt338.2)) && ((t320 == bt340.1 && (t321 == bt340.2)))) = true then (if bt328.2.2.2.2 = true then (none) else ((frac_Right.f t318 t319 t320 t321).bind fun t342 => (if t342 = true then ((frac_Right.f 0 0 0 0).bind fun t343 => (if t343 = true then (none) else ((frac_Floor.f k t318 t319 t320 t321).bind fun bt344 => ((wide_Of.f 3).bind fun bt346 => (if (bt344.1 == bt346.1 && (bt344.2 == bt346.2)) = true then (if bt334.2.2 = true then ((wide_Of.f 2).bind fun bt348 => (if (bt334.1 == bt348.1 && (bt334.2.1 == bt348.2)) = true then ((frac_Of.f 4).bind fun bt350 => ((frac_Cmp.f k t318 t319 t320 t321 bt350.1 bt350.2.1 bt350.2.2.1 bt350.2.2.2).bind fun t354 => (some (t354 == (-1))))) else (none))) else (none)) else (none)))))) else (none)))) else (none)))) else (none))))) = some r := H
  have A4 := Aside0.mk A40
  clear A40
  replace H := Option.bind_eq_some_iff.mp H
  obtain ⟨⟨t326, t327⟩, A50, H⟩ := H
  replace H : ((frac_Make.f k t324 t325 t326 t327).bind fun bt328 => ((frac_Snap.f k t318 t319 t320 t321 1).bind fun bt334 => (if t322 = true then ((wide_Of.f 7).bind fun bt338 => ((wide_Of.f 2).bind fun bt340 => (if ((t318 == bt338.1 && (t319 == bt338.2)) && ((t320 == bt340.1 && (t321 == bt340.2)))) = true then (if bt328.2.2.2.2 = true then (none) else ((frac_Right.f t318 t319 t320 t321).bind fun t342 => (if t342 = true then ((frac_Right.f 0 0 0 0).bind fun t343 => (if t343 = true then (none) else ((frac_Floor.f k t318 t319 t320 t321).bind fun bt344 => ((wide_Of.f 3).bind fun bt346 => (if (bt344.1 == bt346.1 && (bt344.2 == bt346.2)) = true then (if bt334.2.2 = true then ((wide_Of.f 2).bind fun bt348 => (if (bt334.1 == bt348.1 && (bt334.2.1 == bt348.2)) = true then ((frac_Of.f 4).bind fun bt350 => ((frac_Cmp.f k t318 t319 t320 t321 bt350.1 bt350.2.1 bt350.2.2.1 bt350.2.2.2).bind fun t354 => (some (t354 == (-1))))) else (none))) else (none)) else (none)))))) else (none)))) else (none)))) else (none)))) = some r := H
  have A5 := Aside0.mk A50
  clear A50
  replace H := Option.bind_eq_some_iff.mp H
  obtain ⟨⟨t328, t329, t330, t331, t332⟩, A60, H⟩ := H
  replace H : ((frac_Snap.f k t318 t319 t320 t321 1).bind fun bt334 => (if t322 = true then ((wide_Of.f 7).bind fun bt338 => ((wide_Of.f 2).bind fun bt340 => (if ((t318 == bt338.1 && (t319 == bt338.2)) && ((t320 == bt340.1 && (t321 == bt340.2)))) = true then (if t332 = true then (none) else ((frac_Right.f t318 t319 t320 t321).bind fun t342 => (if t342 = true then ((frac_Right.f 0 0 0 0).bind fun t343 => (if t343 = true then (none) else ((frac_Floor.f k t318 t319 t320 t321).bind fun bt344 => ((wide_Of.f 3).bind fun bt346 => (if (bt344.1 == bt346.1 && (bt344.2 == bt346.2)) = true then (if bt334.2.2 = true then ((wide_Of.f 2).bind fun bt348 => (if (bt334.1 == bt348.1 && (bt334.2.1 == bt348.2)) = true then ((frac_Of.f 4).bind fun bt350 => ((frac_Cmp.f k t318 t319 t320 t321 bt350.1 bt350.2.1 bt350.2.2.1 bt350.2.2.2).bind fun t354 => (some (t354 == (-1))))) else (none))) else (none)) else (none)))))) else (none)))) else (none)))) else (none))) = some r := H
  have A6 := Aside0.mk A60
  clear A60
  replace H := Option.bind_eq_some_iff.mp H
  obtain ⟨⟨t334, t335, t336⟩, A70, H⟩ := H
  replace H : (if t322 = true then ((wide_Of.f 7).bind fun bt338 => ((wide_Of.f 2).bind fun bt340 => (if ((t318 == bt338.1 && (t319 == bt338.2)) && ((t320 == bt340.1 && (t321 == bt340.2)))) = true then (if t332 = true then (none) else ((frac_Right.f t318 t319 t320 t321).bind fun t342 => (if t342 = true then ((frac_Right.f 0 0 0 0).bind fun t343 => (if t343 = true then (none) else ((frac_Floor.f k t318 t319 t320 t321).bind fun bt344 => ((wide_Of.f 3).bind fun bt346 => (if (bt344.1 == bt346.1 && (bt344.2 == bt346.2)) = true then (if t336 = true then ((wide_Of.f 2).bind fun bt348 => (if (t334 == bt348.1 && (t335 == bt348.2)) = true then ((frac_Of.f 4).bind fun bt350 => ((frac_Cmp.f k t318 t319 t320 t321 bt350.1 bt350.2.1 bt350.2.2.1 bt350.2.2.2).bind fun t354 => (some (t354 == (-1))))) else (none))) else (none)) else (none)))))) else (none)))) else (none)))) else (none)) = some r := H
  have A7 := Aside0.mk A70
  clear A70
  by_cases c8 : t322 = true
  rotate_left
  · replace c8 := Bool.eq_false_iff.mpr c8
    subst c8
    have H1 : (none) = some r := by rw [if_neg (show ¬ (false = true) by decide)] at H; exact H
    clear H; have H := H1; clear H1
    exact absurd H (by simp)

  subst c8
  have H1 : ((wide_Of.f 7).bind fun bt338 => ((wide_Of.f 2).bind fun bt340 => (if ((t318 == bt338.1 && (t319 == bt338.2)) && ((t320 == bt340.1 && (t321 == bt340.2)))) = true then (if t332 = true then (none) else ((frac_Right.f t318 t319 t320 t321).bind fun t342 => (if t342 = true then ((frac_Right.f 0 0 0 0).bind fun t343 => (if t343 = true then (none) else ((frac_Floor.f k t318 t319 t320 t321).bind fun bt344 => ((wide_Of.f 3).bind fun bt346 => (if (bt344.1 == bt346.1 && (bt344.2 == bt346.2)) = true then (if t336 = true then ((wide_Of.f 2).bind fun bt348 => (if (t334 == bt348.1 && (t335 == bt348.2)) = true then ((frac_Of.f 4).bind fun bt350 => ((frac_Cmp.f k t318 t319 t320 t321 bt350.1 bt350.2.1 bt350.2.2.1 bt350.2.2.2).bind fun t354 => (some (t354 == (-1))))) else (none))) else (none)) else (none)))))) else (none)))) else (none)))) = some r := by rw [if_pos rfl] at H; exact H
  clear H; have H := H1; clear H1
  replace H := Option.bind_eq_some_iff.mp H
  obtain ⟨⟨t338, t339⟩, A90, H⟩ := H
  replace H : ((wide_Of.f 2).bind fun bt340 => (if ((t318 == t338 && (t319 == t339)) && ((t320 == bt340.1 && (t321 == bt340.2)))) = true then (if t332 = true then (none) else ((frac_Right.f t318 t319 t320 t321).bind fun t342 => (if t342 = true then ((frac_Right.f 0 0 0 0).bind fun t343 => (if t343 = true then (none) else ((frac_Floor.f k t318 t319 t320 t321).bind fun bt344 => ((wide_Of.f 3).bind fun bt346 => (if (bt344.1 == bt346.1 && (bt344.2 == bt346.2)) = true then (if t336 = true then ((wide_Of.f 2).bind fun bt348 => (if (t334 == bt348.1 && (t335 == bt348.2)) = true then ((frac_Of.f 4).bind fun bt350 => ((frac_Cmp.f k t318 t319 t320 t321 bt350.1 bt350.2.1 bt350.2.2.1 bt350.2.2.2).bind fun t354 => (some (t354 == (-1))))) else (none))) else (none)) else (none)))))) else (none)))) else (none))) = some r := H
  have A9 := Aside0.mk A90
  clear A90
  replace H := Option.bind_eq_some_iff.mp H
  obtain ⟨⟨t340, t341⟩, A100, H⟩ := H
  replace H : (if ((t318 == t338 && (t319 == t339)) && ((t320 == t340 && (t321 == t341)))) = true then (if t332 = true then (none) else ((frac_Right.f t318 t319 t320 t321).bind fun t342 => (if t342 = true then ((frac_Right.f 0 0 0 0).bind fun t343 => (if t343 = true then (none) else ((frac_Floor.f k t318 t319 t320 t321).bind fun bt344 => ((wide_Of.f 3).bind fun bt346 => (if (bt344.1 == bt346.1 && (bt344.2 == bt346.2)) = true then (if t336 = true then ((wide_Of.f 2).bind fun bt348 => (if (t334 == bt348.1 && (t335 == bt348.2)) = true then ((frac_Of.f 4).bind fun bt350 => ((frac_Cmp.f k t318 t319 t320 t321 bt350.1 bt350.2.1 bt350.2.2.1 bt350.2.2.2).bind fun t354 => (some (t354 == (-1))))) else (none))) else (none)) else (none)))))) else (none)))) else (none)) = some r := H
  have A10 := Aside0.mk A100
  clear A100
  by_cases c11 : ((t318 == t338 && (t319 == t339)) && ((t320 == t340 && (t321 == t341)))) = true
  rotate_left
  · rw [if_neg c11] at H
    exact absurd H (by simp)
  rw [if_pos c11] at H
  have c11b0 : ((t318 == t338 && (t319 == t339)) && ((t320 == t340 && (t321 == t341)))) = true := c11
  clear c11
  by_cases c12 : t332 = true
  · subst c12
    have H1 : (none) = some r := by rw [if_pos rfl] at H; exact H
    clear H; have H := H1; clear H1
    exact absurd H (by simp)
  replace c12 := Bool.eq_false_iff.mpr c12
  subst c12
  have H1 : ((frac_Right.f t318 t319 t320 t321).bind fun t342 => (if t342 = true then ((frac_Right.f 0 0 0 0).bind fun t343 => (if t343 = true then (none) else ((frac_Floor.f k t318 t319 t320 t321).bind fun bt344 => ((wide_Of.f 3).bind fun bt346 => (if (bt344.1 == bt346.1 && (bt344.2 == bt346.2)) = true then (if t336 = true then ((wide_Of.f 2).bind fun bt348 => (if (t334 == bt348.1 && (t335 == bt348.2)) = true then ((frac_Of.f 4).bind fun bt350 => ((frac_Cmp.f k t318 t319 t320 t321 bt350.1 bt350.2.1 bt350.2.2.1 bt350.2.2.2).bind fun t354 => (some (t354 == (-1))))) else (none))) else (none)) else (none)))))) else (none))) = some r := by rw [if_neg (show ¬ (false = true) by decide)] at H; exact H
  clear H; have H := H1; clear H1
  replace H := Option.bind_eq_some_iff.mp H
  obtain ⟨t342, A130, H⟩ := H
  replace H : (if t342 = true then ((frac_Right.f 0 0 0 0).bind fun t343 => (if t343 = true then (none) else ((frac_Floor.f k t318 t319 t320 t321).bind fun bt344 => ((wide_Of.f 3).bind fun bt346 => (if (bt344.1 == bt346.1 && (bt344.2 == bt346.2)) = true then (if t336 = true then ((wide_Of.f 2).bind fun bt348 => (if (t334 == bt348.1 && (t335 == bt348.2)) = true then ((frac_Of.f 4).bind fun bt350 => ((frac_Cmp.f k t318 t319 t320 t321 bt350.1 bt350.2.1 bt350.2.2.1 bt350.2.2.2).bind fun t354 => (some (t354 == (-1))))) else (none))) else (none)) else (none)))))) else (none)) = some r := H
  have A13 := Aside0.mk A130
  clear A130
  by_cases c14 : t342 = true
  rotate_left
  · replace c14 := Bool.eq_false_iff.mpr c14
    subst c14
    have H1 : (none) = some r := by rw [if_neg (show ¬ (false = true) by decide)] at H; exact H
    clear H; have H := H1; clear H1
    exact absurd H (by simp)
  subst c14
  have H1 : ((frac_Right.f 0 0 0 0).bind fun t343 => (if t343 = true then (none) else ((frac_Floor.f k t318 t319 t320 t321).bind fun bt344 => ((wide_Of.f 3).bind fun bt346 => (if (bt344.1 == bt346.1 && (bt344.2 == bt346.2)) = true then (if t336 = true then ((wide_Of.f 2).bind fun bt348 => (if (t334 == bt348.1 && (t335 == bt348.2)) = true then ((frac_Of.f 4).bind fun bt350 => ((frac_Cmp.f k t318 t319 t320 t321 bt350.1 bt350.2.1 bt350.2.2.1 bt350.2.2.2).bind fun t354 => (some (t354 == (-1))))) else (none))) else (none)) else (none)))))) = some r := by rw [if_pos rfl] at H; exact H
  clear H; have H := H1; clear H1
  replace H := Option.bind_eq_some_iff.mp H
  obtain ⟨t343, A150, H⟩ := H
  replace H : (if t343 = true then (none) else ((frac_Floor.f k t318 t319 t320 t321).bind fun bt344 => ((wide_Of.f 3).bind fun bt346 => (if (bt344.1 == bt346.1 && (bt344.2 == bt346.2)) = true then (if t336 = true then ((wide_Of.f 2).bind fun bt348 => (if (t334 == bt348.1 && (t335 == bt348.2)) = true then ((frac_Of.f 4).bind fun bt350 => ((frac_Cmp.f k t318 t319 t320 t321 bt350.1 bt350.2.1 bt350.2.2.1 bt350.2.2.2).bind fun t354 => (some (t354 == (-1))))) else (none))) else (none)) else (none))))) = some r := H
  have A15 := Aside0.mk A150
  clear A150
  by_cases c16 : t343 = true
  · subst c16
    have H1 : (none) = some r := by rw [if_pos rfl] at H; exact H
    clear H; have H := H1; clear H1
    exact absurd H (by simp)
  replace c16 := Bool.eq_false_iff.mpr c16
  subst c16
  have H1 : ((frac_Floor.f k t318 t319 t320 t321).bind fun bt344 => ((wide_Of.f 3).bind fun bt346 => (if (bt344.1 == bt346.1 && (bt344.2 == bt346.2)) = true then (if t336 = true then ((wide_Of.f 2).bind fun bt348 => (if (t334 == bt348.1 && (t335 == bt348.2)) = true then ((frac_Of.f 4).bind fun bt350 => ((frac_Cmp.f k t318 t319 t320 t321 bt350.1 bt350.2.1 bt350.2.2.1 bt350.2.2.2).bind fun t354 => (some (t354 == (-1))))) else (none))) else (none)) else (none)))) = some r := by rw [if_neg (show ¬ (false = true) by decide)] at H; exact H
  clear H; have H := H1; clear H1
  replace H := Option.bind_eq_some_iff.mp H
  obtain ⟨⟨t344, t345⟩, A170, H⟩ := H
  replace H : ((wide_Of.f 3).bind fun bt346 => (if (t344 == bt346.1 && (t345 == bt346.2)) = true then (if t336 = true then ((wide_Of.f 2).bind fun bt348 => (if (t334 == bt348.1 && (t335 == bt348.2)) = true then ((frac_Of.f 4).bind fun bt350 => ((frac_Cmp.f k t318 t319 t320 t321 bt350.1 bt350.2.1 bt350.2.2.1 bt350.2.2.2).bind fun t354 => (some (t354 == (-1))))) else (none))) else (none)) else (none))) = some r := H
  have A17 := Aside0.mk A170
  clear A170
  replace H := Option.bind_eq_some_iff.mp H
  obtain ⟨⟨t346, t347⟩, A180, H⟩ := H
  replace H : (if (t344 == t346 && (t345 == t347)) = true then (if t336 = true then ((wide_Of.f 2).bind fun bt348 => (if (t334 == bt348.1 && (t335 == bt348.2)) = true then ((frac_Of.f 4).bind fun bt350 => ((frac_Cmp.f k t318 t319 t320 t321 bt350.1 bt350.2.1 bt350.2.2.1 bt350.2.2.2).bind fun t354 => (some (t354 == (-1))))) else (none))) else (none)) else (none)) = some r := H
  have A18 := Aside0.mk A180
  clear A180
  by_cases c19 : (t344 == t346 && (t345 == t347)) = true
  rotate_left
  · rw [if_neg c19] at H
    exact absurd H (by simp)
  rw [if_pos c19] at H
  have c19b0 : (t344 == t346 && (t345 == t347)) = true := c19
  (try (have c19b1 : decide (t344 = t346 && (t345 == t347)) = true := by simpa using c19))
  (try (have c19b2 : (t344 == t346 && (t345 == t347)) = true := by simpa using c19))
  clear c19
  by_cases c20 : t336 = true
  rotate_left
  · replace c20 := Bool.eq_false_iff.mpr c20
    subst c20
    have H1 : (none) = some r := by rw [if_neg (show ¬ (false = true) by decide)] at H; exact H
    clear H; have H := H1; clear H1
    exact absurd H (by simp)
  subst c20
  have H1 : ((wide_Of.f 2).bind fun bt348 => (if (t334 == bt348.1 && (t335 == bt348.2)) = true then ((frac_Of.f 4).bind fun bt350 => ((frac_Cmp.f k t318 t319 t320 t321 bt350.1 bt350.2.1 bt350.2.2.1 bt350.2.2.2).bind fun t354 => (some (t354 == (-1))))) else (none))) = some r := by rw [if_pos rfl] at H; exact H
  clear H; have H := H1; clear H1
  replace H := Option.bind_eq_some_iff.mp H
  obtain ⟨⟨t348, t349⟩, A210, H⟩ := H
  replace H : (if (t334 == t348 && (t335 == t349)) = true then ((frac_Of.f 4).bind fun bt350 => ((frac_Cmp.f k t318 t319 t320 t321 bt350.1 bt350.2.1 bt350.2.2.1 bt350.2.2.2).bind fun t354 => (some (t354 == (-1))))) else (none)) = some r := H
  have A21 := Aside0.mk A210
  clear A210
  by_cases c22 : (t334 == t348 && (t335 == t349)) = true
  rotate_left
  · rw [if_neg c22] at H
    exact absurd H (by simp)
  rw [if_pos c22] at H
  have c22b0 : (t334 == t348 && (t335 == t349)) = true := c22
  (try (have c22b1 : decide (t334 = t348 && (t335 == t349)) = true := by simpa using c22))
  (try (have c22b2 : (t334 == t348 && (t335 == t349)) = true := by simpa using c22))
  clear c22
  replace H := Option.bind_eq_some_iff.mp H
  obtain ⟨⟨t350, t351, t352, t353⟩, A230, H⟩ := H
  replace H : ((frac_Cmp.f k t318 t319 t320 t321 t350 t351 t352 t353).bind fun t354 => (some (t354 == (-1)))) = some r := H
  have A23 := Aside0.mk A230
  clear A230
  replace H := Option.bind_eq_some_iff.mp H
  obtain ⟨t354, A240, H⟩ := H
  replace H : (some (t354 == (-1))) = some r := H
  have A24 := Aside0.mk A240
  clear A240
  obtain rfl := Option.some.inj H
  go_enter Try.func16, Try.ntmps16
  try go_wp2_with (first | ((with_reducible refine gate_callee (f := 24) rfl ?_); refine goesL_ (some 8) rfl rfl Try.func24 (by kernel_rfl) rfl #[.int .i64 (-7)] rfl (by (try simp only [List.map_toArray, List.map_cons, List.map_nil]); first | done | rfl | (simp only [List.length_drop, List.length_take]; rfl)) ?_; (with_reducible refine (wide_Of.calls (-7) t314 t315 _ A1.out).mono ?_); rintro e w25 ⟨rfl, hb⟩; refine ⟨_, rfl, ?_⟩; replace HB := kB HB hb; (try clear hb); (try clear hb2); (try clear hk); (try clear hi)) | ((with_reducible refine gate_callee (f := 24) rfl ?_); refine goesL_ (some 9) rfl rfl Try.func24 (by kernel_rfl) rfl #[.int .i64 (-2)] rfl (by (try simp only [List.map_toArray, List.map_cons, List.map_nil]); first | done | rfl | (simp only [List.length_drop, List.length_take]; rfl)) ?_; (with_reducible refine (wide_Of.calls (-2) t316 t317 _ A2.out).mono ?_); rintro e w26 ⟨rfl, hb⟩; refine ⟨_, rfl, ?_⟩; replace HB := kB HB hb; (try clear hb); (try clear hb2); (try clear hk); (try clear hi)) | ((with_reducible refine gate_callee (f := 50) rfl ?_); refine goesL_ (some 10) rfl rfl Try.func50 (by kernel_rfl) rfl #[.agg #[.int .i64 t314, .int .u64 t315], .agg #[.int .i64 t316, .int .u64 t317]] rfl (by (try simp only [List.map_toArray, List.map_cons, List.map_nil]); first | done | rfl | (simp only [List.length_drop, List.length_take]; rfl)) ?_; (with_reducible refine (frac_Make.calls k t314 t315 t316 t317 t318 t319 t320 t321 true _ A3.out).mono ?_); rintro e w27 ⟨rfl, hb⟩; refine ⟨_, rfl, ?_⟩; replace HB := kB HB hb; (try clear hb); (try clear hb2); (try clear hk); (try clear hi)) | ((with_reducible refine gate_dst (N := 1) rfl ?_); refine box_event ?hg (N := 1) ?hd (cs := #[.int .i64 0, .int .u64 0, .int .i64 0, .int .u64 0]) (t := 26) ?hr ?_; (case hd => rfl); (case hg => rfl); (case hr => first | (go_simp; done) | (go_simp; rfl)); intro gb323 hg w28 hbox hb; have BK323 := Aside0.mk (hbox); have GW323 := kS HB hg; have GE323 := kS HB hg; replace HB := kB HB hb; clear hb hbox hg; have hcz29_0 : w28.cell? ⟨gb323, 0, none⟩ = some (.int .i64 0) := kc BK323 0; have hcz29_1 : w28.cell? ⟨gb323, 1, none⟩ = some (.int .u64 0) := kc BK323 1; have hcz29_2 : w28.cell? ⟨gb323, 2, none⟩ = some (.int .i64 0) := kc BK323 2; have hcz29_3 : w28.cell? ⟨gb323, 3, none⟩ = some (.int .u64 0) := kc BK323 3; have hfz29_0 := blk_frozen BK323.out 0; have hfz29_1 := blk_frozen BK323.out 1; have hfz29_2 := blk_frozen BK323.out 2; have hfz29_3 := blk_frozen BK323.out 3) | ((with_reducible refine gate_callee (f := 24) rfl ?_); refine goesL_ (some 14) rfl rfl Try.func24 (by kernel_rfl) rfl #[.int .i64 1] rfl (by (try simp only [List.map_toArray, List.map_cons, List.map_nil]); first | done | rfl | (simp only [List.length_drop, List.length_take]; rfl)) ?_; (with_reducible refine (wide_Of.calls 1 t324 t325 _ A4.out).mono ?_); rintro e w30 ⟨rfl, hb⟩; refine ⟨_, rfl, ?_⟩; have n0_ := Aside0.mk (blk_below (g := gb323) (o := .cells #[.int .i64 t318, .int .u64 t319, .int .i64 t320, .int .u64 t321] 26 (0, 0)) (by (with_reducible repeat (first | refine blk_drewN ?_ _ | refine blk_drew ?_ | refine blk_alloc ?_ _)); refine blk_put (cs := #[.int .i64 t318, .int .u64 t319, .int .i64 t320, .int .u64 0]) ?_ 3 _ rfl; (with_reducible repeat (first | refine blk_drewN ?_ _ | refine blk_drew ?_ | refine blk_alloc ?_ _)); refine blk_put (cs := #[.int .i64 t318, .int .u64 t319, .int .i64 0, .int .u64 0]) ?_ 2 _ rfl; (with_reducible repeat (first | refine blk_drewN ?_ _ | refine blk_drew ?_ | refine blk_alloc ?_ _)); refine blk_put (cs := #[.int .i64 t318, .int .u64 0, .int .i64 0, .int .u64 0]) ?_ 1 _ rfl; (with_reducible repeat (first | refine blk_drewN ?_ _ | refine blk_drew ?_ | refine blk_alloc ?_ _)); refine blk_put (cs := #[.int .i64 0, .int .u64 0, .int .i64 0, .int .u64 0]) ?_ 0 _ rfl; (with_reducible repeat (first | refine blk_drewN ?_ _ | refine blk_drew ?_ | refine blk_alloc ?_ _)); exact BK323.out) hb); have n1_ := kB HB hb; clear BK323; clear HB; have BK323 := n0_; have HB := n1_; clear n0_ n1_; (try clear hb); (try clear hb2); (try clear hk); (try clear hi)) | ((with_reducible refine gate_callee (f := 24) rfl ?_); refine goesL_ (some 15) rfl rfl Try.func24 (by kernel_rfl) rfl #[.int .i64 0] rfl (by (try simp only [List.map_toArray, List.map_cons, List.map_nil]); first | done | rfl | (simp only [List.length_drop, List.length_take]; rfl)) ?_; (with_reducible refine (wide_Of.calls 0 t326 t327 _ A5.out).mono ?_); rintro e w31 ⟨rfl, hb⟩; refine ⟨_, rfl, ?_⟩; replace BK323 := kb BK323 hb; replace HB := kB HB hb; (try clear hb); (try clear hb2); (try clear hk); (try clear hi)) | ((with_reducible refine gate_callee (f := 50) rfl ?_); refine goesL_ (some 16) rfl rfl Try.func50 (by kernel_rfl) rfl #[.agg #[.int .i64 t324, .int .u64 t325], .agg #[.int .i64 t326, .int .u64 t327]] rfl (by (try simp only [List.map_toArray, List.map_cons, List.map_nil]); first | done | rfl | (simp only [List.length_drop, List.length_take]; rfl)) ?_; (with_reducible refine (frac_Make.calls k t324 t325 t326 t327 t328 t329 t330 t331 false _ A6.out).mono ?_); rintro e w32 ⟨rfl, hb⟩; refine ⟨_, rfl, ?_⟩; replace BK323 := kb BK323 hb; replace HB := kB HB hb; (try clear hb); (try clear hb2); (try clear hk); (try clear hi)) | ((with_reducible refine gate_dst (N := 3) rfl ?_); refine box_event ?hg (N := 3) ?hd (cs := #[.int .i64 0, .int .u64 0, .int .i64 0, .int .u64 0]) (t := 26) ?hr ?_; (case hd => rfl); (case hg => rfl); (case hr => first | (go_simp; done) | (go_simp; rfl)); intro gb333 hg w33 hbox hb; have BK333 := Aside0.mk (hbox); have GW333 := kS HB hg; have GE333 := kS HB hg; have NB323_333 := kN BK323 hg; have NB333_323 := kM BK323 hg; replace BK323 := kb BK323 hb; replace HB := kB HB hb; clear hb hbox hg; have hnb34 := NB333_323.out; have hnc34 := NB323_333.out; have hcz35_0 : w33.cell? ⟨gb333, 0, none⟩ = some (.int .i64 0) := kc BK333 0; have hcz35_1 : w33.cell? ⟨gb333, 1, none⟩ = some (.int .u64 0) := kc BK333 1; have hcz35_2 : w33.cell? ⟨gb333, 2, none⟩ = some (.int .i64 0) := kc BK333 2; have hcz35_3 : w33.cell? ⟨gb333, 3, none⟩ = some (.int .u64 0) := kc BK333 3; have hfz35_0 := blk_frozen BK333.out 0; have hfz35_1 := blk_frozen BK333.out 1; have hfz35_2 := blk_frozen BK333.out 2; have hfz35_3 := blk_frozen BK333.out 3; have hcz36_0 : w33.cell? ⟨gb323, 0, none⟩ = some (.int .i64 t318) := kc BK323 0; have hcz36_1 : w33.cell? ⟨gb323, 1, none⟩ = some (.int .u64 t319) := kc BK323 1; have hcz36_2 : w33.cell? ⟨gb323, 2, none⟩ = some (.int .i64 t320) := kc BK323 2; have hcz36_3 : w33.cell? ⟨gb323, 3, none⟩ = some (.int .u64 t321) := kc BK323 3; have hfz36_0 := blk_frozen BK323.out 0; have hfz36_1 := blk_frozen BK323.out 1; have hfz36_2 := blk_frozen BK323.out 2; have hfz36_3 := blk_frozen BK323.out 3) | ((with_reducible refine gate_callee (f := 26) rfl ?_); refine goesL_ (some 21) rfl rfl Try.func26 (by kernel_rfl) rfl #[.agg #[.int .i64 t318, .int .u64 t319, .int .i64 t320, .int .u64 t321], .int .i64 1] rfl (by (try simp only [List.map_toArray, List.map_cons, List.map_nil]); first | done | rfl | (simp only [List.length_drop, List.length_take]; rfl)) ?_; (with_reducible refine (frac_Snap.calls k t318 t319 t320 t321 1 t334 t335 true _ A7.out).mono ?_); rintro e w37 ⟨rfl, hb⟩; refine ⟨_, rfl, ?_⟩; have n0_ := kb BK323 hb; have n1_ := Aside0.mk (blk_below (g := gb333) (o := .cells #[.int .i64 t328, .int .u64 t329, .int .i64 t330, .int .u64 t331] 26 (0, 0)) (by (with_reducible repeat (first | refine blk_drewN ?_ _ | refine blk_drew ?_ | refine blk_alloc ?_ _)); refine blk_put (cs := #[.int .i64 t328, .int .u64 t329, .int .i64 t330, .int .u64 0]) ?_ 3 _ rfl; (with_reducible repeat (first | refine blk_drewN ?_ _ | refine blk_drew ?_ | refine blk_alloc ?_ _)); refine blk_put (cs := #[.int .i64 t328, .int .u64 t329, .int .i64 0, .int .u64 0]) ?_ 2 _ rfl; (with_reducible repeat (first | refine blk_drewN ?_ _ | refine blk_drew ?_ | refine blk_alloc ?_ _)); refine blk_put (cs := #[.int .i64 t328, .int .u64 0, .int .i64 0, .int .u64 0]) ?_ 1 _ rfl; (with_reducible repeat (first | refine blk_drewN ?_ _ | refine blk_drew ?_ | refine blk_alloc ?_ _)); refine blk_put (cs := #[.int .i64 0, .int .u64 0, .int .i64 0, .int .u64 0]) ?_ 0 _ rfl; (with_reducible repeat (first | refine blk_drewN ?_ _ | refine blk_drew ?_ | refine blk_alloc ?_ _)); exact BK333.out) hb); have n2_ := kB HB hb; clear BK323; clear BK333; clear HB; have BK323 := n0_; have BK333 := n1_; have HB := n2_; clear n0_ n1_ n2_; (try clear hb); (try clear hb2); (try clear hk); (try clear hi)) | ((with_reducible refine gate_dst (N := 5) rfl ?_); refine box_event ?hg (N := 5) ?hd (cs := #[.int .i64 0, .int .u64 0]) (t := 24) ?hr ?_; (case hd => rfl); (case hg => rfl); (case hr => first | (go_simp; done) | (go_simp; rfl)); intro gb337 hg w38 hbox hb; have BK337 := Aside0.mk (hbox); have GW337 := kS HB hg; have GE337 := kS HB hg; have NB323_337 := kN BK323 hg; have NB337_323 := kM BK323 hg; have NB333_337 := kN BK333 hg; have NB337_333 := kM BK333 hg; replace BK323 := kb BK323 hb; replace BK333 := kb BK333 hb; replace HB := kB HB hb; clear hb hbox hg; have hnb39 := NB337_323.out; have hnc39 := NB323_337.out; have hnb40 := NB337_333.out; have hnc40 := NB333_337.out; have hcz41_0 : w38.cell? ⟨gb337, 0, none⟩ = some (.int .i64 0) := kc BK337 0; have hcz41_1 : w38.cell? ⟨gb337, 1, none⟩ = some (.int .u64 0) := kc BK337 1; have hfz41_0 := blk_frozen BK337.out 0; have hfz41_1 := blk_frozen BK337.out 1))
  have n0_ : Aside0 (((w38.setCell ⟨gb337, 0, none⟩ (.int .i64 t334)).setCell ⟨gb337, 1, none⟩ (.int .u64 t335)).heap[gb323]? = some (.cells #[.int .i64 t318, .int .u64 t319, .int .i64 t320, .int .u64 t321] 26 (0, 0))) := ⟨kx BK323⟩
  have n1_ : Aside0 (((w38.setCell ⟨gb337, 0, none⟩ (.int .i64 t334)).setCell ⟨gb337, 1, none⟩ (.int .u64 t335)).heap[gb333]? = some (.cells #[.int .i64 t328, .int .u64 t329, .int .i64 t330, .int .u64 t331] 26 (0, 0))) := ⟨kx BK333⟩
  have n2_ : Aside0 (((w38.setCell ⟨gb337, 0, none⟩ (.int .i64 t334)).setCell ⟨gb337, 1, none⟩ (.int .u64 t335)).heap[gb337]? = some (.cells #[.int .i64 t334, .int .u64 t335] 24 (0, 0))) := ⟨by (with_reducible repeat (first | refine blk_drewN ?_ _ | refine blk_drew ?_ | refine blk_alloc ?_ _)); refine blk_put (cs := #[.int .i64 t334, .int .u64 0]) ?_ 1 _ rfl; (with_reducible repeat (first | refine blk_drewN ?_ _ | refine blk_drew ?_ | refine blk_alloc ?_ _)); refine blk_put (cs := #[.int .i64 0, .int .u64 0]) ?_ 0 _ rfl; (with_reducible repeat (first | refine blk_drewN ?_ _ | refine blk_drew ?_ | refine blk_alloc ?_ _)); exact BK337.out⟩
  have n3_ : Aside0 (Below w.heap.size w ((w38.setCell ⟨gb337, 0, none⟩ (.int .i64 t334)).setCell ⟨gb337, 1, none⟩ (.int .u64 t335))) := ⟨ky HB⟩
  (try clear BK323); (try clear BK333); (try clear BK337); (try clear HB)
  generalize ((w38.setCell ⟨gb337, 0, none⟩ (.int .i64 t334)).setCell ⟨gb337, 1, none⟩ (.int .u64 t335)) = w42 at n0_ n1_ n2_ n3_ ⊢
  have BK323 := n0_; have BK333 := n1_; have BK337 := n2_; have HB := n3_
  clear n0_ n1_ n2_ n3_
  replace BK323 := Aside0.mk (blk_drew BK323.out)
  replace BK333 := Aside0.mk (blk_drew BK333.out)
  replace BK337 := Aside0.mk (blk_drew BK337.out)
  replace HB := Aside0.mk (below_drew1 HB.out)
  refine start_ (n := 42) (S := fun w' => w'.cell? ⟨gb323, 0, none⟩ = some (.int .i64 t318) ∧ w'.cell? ⟨gb323, 1, none⟩ = some (.int .u64 t319) ∧ w'.cell? ⟨gb323, 2, none⟩ = some (.int .i64 t320) ∧ w'.cell? ⟨gb323, 3, none⟩ = some (.int .u64 t321) ∧ w'.cell? ⟨gb337, 0, none⟩ = some (.int .i64 t334) ∧ w'.cell? ⟨gb337, 1, none⟩ = some (.int .u64 t335)) (ds := []) #[O, O, O, O, O, O, O, O, O, O, O, O, O, O, O, O, O, O, O, O, O, O, O, O, O, O, O, O, O, O, O, O, O, O, O, O, O, O, O, O, O, O] (by kernel_rfl) rfl rfl ⟨kc BK323 0, kc BK323 1, kc BK323 2, kc BK323 3, kc BK337 0, kc BK337 1⟩ (fun hHeld => ?_); refine with_tabW cobweblaw02_alive.tab4 cobweblaw02_alive.bits4 (fun HT_ HW_ => ?_)
  generalize w42.drew = w43 at BK323 BK333 BK337 HB hHeld ⊢
  refine pure_ (i := 0) (N := some 24) (v := ?_) (a' := ?_) #[T, O, O, O, O, O, O, O, O, O, O, O, O, O, O, O, O, O, O, O, O, O, O, O, O, O, O, O, O, O, O, O, O, O, O, O, O, O, O, O, O, O] rfl rfl (any_of HT_.out (by kernel_rfl)) (fun _ _ _ h => h) (Or.inl ⟨by rfl, ?_⟩) ?_ ?_; rotate_left; focus (intro w'; go_simp; with_reducible rfl)
  rotate_left; focus (simp only [Act.put, s1, s2, s3, i64_w, i32_w]; rfl)
  refine pure_ (i := 1) (N := some 25) (v := ?_) (a' := ?_) #[T, T, O, O, O, O, O, O, O, O, O, O, O, O, O, O, O, O, O, O, O, O, O, O, O, O, O, O, O, O, O, O, O, O, O, O, O, O, O, O, O, O] rfl rfl (any_of HT_.out (by kernel_rfl)) (fun _ _ _ h => h) (Or.inl ⟨by rfl, ?_⟩) ?_ ?_; rotate_left; focus (intro w'; go_simp; with_reducible rfl)
  rotate_left; focus (simp only [Act.put, s1, s2, s3, i64_w, i32_w]; rfl)
  refine take_ (i := 2) (N := some 26) (v := ?_) (a' := ?_) #[T, T, T, O, O, O, O, O, O, O, O, O, O, O, O, O, O, O, O, O, O, O, O, O, O, O, O, O, O, O, O, O, O, O, O, O, O, O, O, O, O, O] rfl rfl (take_ofW HT_.out HW_.out (by kernel_rfl)) (fun _ _ _ h => h) (Or.inl ⟨by rfl, ?_⟩) hHeld ?_ ?_; rotate_left; focus (rintro w' ⟨s0, s1, s2, s3, s4, s5⟩; go_simp; with_reducible rfl)
  rotate_left; focus (simp only [Act.put, s1, s2, s3, i64_w, i32_w]; rfl)
  refine one_ (i := 3) (N := some 27) #[T, T, T, T, O, O, O, O, O, O, O, O, O, O, O, O, O, O, O, O, O, O, O, O, O, O, O, O, O, O, O, O, O, O, O, O, O, O, O, O, O, O] rfl rfl (one_of HT_.out (by kernel_rfl)) (by decide) (fun K hK => ?_)
  refine goes_ Try.func24 (by kernel_rfl) rfl #[.int .i64 7] (by rfl) rfl rfl (by (try simp only [List.map_toArray, List.map_cons, List.map_nil]); first | done | rfl | (simp only [List.length_drop, List.length_take]; rfl)) ?_
  with_reducible refine (wide_Of.calls 7 t338 t339 _ A9.out).mono ?_
  rintro e w44 ⟨rfl, hb⟩
  refine ⟨_, rfl, ?_⟩
  replace BK323 := kb BK323 hb
  replace BK333 := kb BK333 hb
  replace BK337 := kb BK337 hb
  replace HB := kB HB hb
  (try clear hb); (try clear hb2); (try clear hk); (try clear hi)
  refine hK.out _ _ ⟨kc BK323 0, kc BK323 1, kc BK323 2, kc BK323 3, kc BK337 0, kc BK337 1⟩ (fun hHeld => ?_)
  clear hK K
  refine norm_ (a' := ?_) ?_ ?_; rotate_left; focus (show Act.put _ (some 27) _ = _; simp only [Act.put, s1, s2, s3, i64_w, i32_w]; rfl)
  refine one_ (i := 4) (N := some 28) #[T, T, T, T, T, O, O, O, O, O, O, O, O, O, O, O, O, O, O, O, O, O, O, O, O, O, O, O, O, O, O, O, O, O, O, O, O, O, O, O, O, O] rfl rfl (one_of HT_.out (by kernel_rfl)) (by decide) (fun K hK => ?_)
  refine goes_ Try.func24 (by kernel_rfl) rfl #[.int .i64 2] (by rfl) rfl rfl (by (try simp only [List.map_toArray, List.map_cons, List.map_nil]); first | done | rfl | (simp only [List.length_drop, List.length_take]; rfl)) ?_
  with_reducible refine (wide_Of.calls 2 t340 t341 _ A10.out).mono ?_
  rintro e w45 ⟨rfl, hb⟩
  refine ⟨_, rfl, ?_⟩
  replace BK323 := kb BK323 hb
  replace BK333 := kb BK333 hb
  replace BK337 := kb BK337 hb
  replace HB := kB HB hb
  (try clear hb); (try clear hb2); (try clear hk); (try clear hi)
  refine hK.out _ _ ⟨kc BK323 0, kc BK323 1, kc BK323 2, kc BK323 3, kc BK337 0, kc BK337 1⟩ (fun hHeld => ?_)
  clear hK K
  refine norm_ (a' := ?_) ?_ ?_; rotate_left; focus (show Act.put _ (some 28) _ = _; simp only [Act.put, s1, s2, s3, i64_w, i32_w]; rfl)
  refine pure_ (i := 5) (N := some 29) (v := ?_) (a' := ?_) #[T, T, T, T, T, T, O, O, O, O, O, O, O, O, O, O, O, O, O, O, O, O, O, O, O, O, O, O, O, O, O, O, O, O, O, O, O, O, O, O, O, O] rfl rfl (any_of HT_.out (by kernel_rfl)) (fun _ _ _ h => h) (Or.inl ⟨by rfl, ?_⟩) ?_ ?_; rotate_left; focus (intro w'; go_simp; with_reducible rfl)
  rotate_left; focus (simp only [Act.put, s1, s2, s3, i64_w, i32_w]; rfl)
  refine pure_ (i := 6) (N := some 30) (v := ?_) (a' := ?_) #[T, T, T, T, T, T, T, O, O, O, O, O, O, O, O, O, O, O, O, O, O, O, O, O, O, O, O, O, O, O, O, O, O, O, O, O, O, O, O, O, O, O] rfl rfl (any_of HT_.out (by kernel_rfl)) (fun _ _ _ h => h) (Or.inl ⟨by rfl, ?_⟩) ?_ ?_; rotate_left; focus (intro w'; go_simp; with_reducible rfl)
  rotate_left; focus (simp only [Act.put, s1, s2, s3, i64_w, i32_w]; rfl)
  refine pure_ (i := 7) (N := some 31) (v := ?_) (a' := ?_) #[T, T, T, T, T, T, T, T, O, O, O, O, O, O, O, O, O, O, O, O, O, O, O, O, O, O, O, O, O, O, O, O, O, O, O, O, O, O, O, O, O, O] rfl rfl (any_of HT_.out (by kernel_rfl)) (fun _ _ _ h => h) (Or.inl ⟨by rfl, ?_⟩) ?_ ?_; rotate_left; focus (intro w'; go_simp; with_reducible rfl)
  rotate_left; focus (simp only [Act.put, s1, s2, s3, i64_w, i32_w]; rfl)
  refine pure_ (i := 8) (N := some 32) (v := ?_) (a' := ?_) #[T, T, T, T, T, T, T, T, T, O, O, O, O, O, O, O, O, O, O, O, O, O, O, O, O, O, O, O, O, O, O, O, O, O, O, O, O, O, O, O, O, O] rfl rfl (any_of HT_.out (by kernel_rfl)) (fun _ _ _ h => h) (Or.inl ⟨by rfl, ?_⟩) ?_ ?_; rotate_left; focus (intro w'; go_simp; with_reducible rfl)
  rotate_left; focus (simp only [Act.put, s1, s2, s3, i64_w, i32_w]; rfl)
  refine pure_ (i := 9) (N := some 33) (v := ?_) (a' := ?_) #[T, T, T, T, T, T, T, T, T, T, O, O, O, O, O, O, O, O, O, O, O, O, O, O, O, O, O, O, O, O, O, O, O, O, O, O, O, O, O, O, O, O] rfl rfl (any_of HT_.out (by kernel_rfl)) (fun _ _ _ h => h) (Or.inl ⟨by rfl, ?_⟩) ?_ ?_; rotate_left; focus (intro w'; go_simp; with_reducible rfl)
  rotate_left; focus (simp only [Act.put, s1, s2, s3, i64_w, i32_w]; rfl)
  refine pure_ (i := 10) (N := some 34) (v := ?_) (a' := ?_) #[T, T, T, T, T, T, T, T, T, T, T, O, O, O, O, O, O, O, O, O, O, O, O, O, O, O, O, O, O, O, O, O, O, O, O, O, O, O, O, O, O, O] rfl rfl (any_of HT_.out (by kernel_rfl)) (fun _ _ _ h => h) (Or.inl ⟨by rfl, ?_⟩) ?_ ?_; rotate_left; focus (intro w'; go_simp; with_reducible rfl)
  rotate_left; focus (simp only [Act.put, s1, s2, s3, i64_w, i32_w]; rfl)
  refine pure_ (i := 11) (N := some 35) (v := ?_) (a' := ?_) #[T, T, T, T, T, T, T, T, T, T, T, T, O, O, O, O, O, O, O, O, O, O, O, O, O, O, O, O, O, O, O, O, O, O, O, O, O, O, O, O, O, O] rfl rfl (any_of HT_.out (by kernel_rfl)) (fun _ _ _ h => h) (Or.inl ⟨by rfl, ?_⟩) ?_ ?_; rotate_left; focus (intro w'; go_simp; with_reducible rfl)
  rotate_left; focus (simp only [Act.put, s1, s2, s3, i64_w, i32_w]; rfl)
  refine pure_ (i := 12) (N := some 36) (v := ?_) (a' := ?_) #[T, T, T, T, T, T, T, T, T, T, T, T, T, O, O, O, O, O, O, O, O, O, O, O, O, O, O, O, O, O, O, O, O, O, O, O, O, O, O, O, O, O] rfl rfl (any_of HT_.out (by kernel_rfl)) (fun _ _ _ h => h) (Or.inl ⟨by rfl, ?_⟩) ?_ ?_; rotate_left; focus (intro w'; go_simp; with_reducible rfl)
  rotate_left; focus (simp only [Act.put, s1, s2, s3, i64_w, i32_w]; rfl)
  refine take_ (i := 13) (N := some 37) (v := ?_) (a' := ?_) #[T, T, T, T, T, T, T, T, T, T, T, T, T, T, O, O, O, O, O, O, O, O, O, O, O, O, O, O, O, O, O, O, O, O, O, O, O, O, O, O, O, O] rfl rfl (take_ofW HT_.out HW_.out (by kernel_rfl)) (fun _ _ _ h => h) (Or.inl ⟨by rfl, ?_⟩) hHeld ?_ ?_; rotate_left; focus (rintro w' ⟨s0, s1, s2, s3, s4, s5⟩; go_simp; with_reducible rfl)
  rotate_left; focus (simp only [Act.put, s1, s2, s3, i64_w, i32_w]; rfl)
  refine one_ (i := 14) (N := some 38) #[T, T, T, T, T, T, T, T, T, T, T, T, T, T, T, O, O, O, O, O, O, O, O, O, O, O, O, O, O, O, O, O, O, O, O, O, O, O, O, O, O, O] rfl rfl (one_of HT_.out (by kernel_rfl)) (by decide) (fun K hK => ?_)
  refine goes_ Try.func20 (by kernel_rfl) rfl #[.agg #[.int .i64 t318, .int .u64 t319, .int .i64 t320, .int .u64 t321]] (by rfl) rfl rfl (by (try simp only [List.map_toArray, List.map_cons, List.map_nil]); first | done | rfl | (simp only [List.length_drop, List.length_take]; rfl)) ?_
  with_reducible refine (frac_Right.calls t318 t319 t320 t321 true _ A13.out).mono ?_
  rintro e w46 ⟨rfl, hb⟩
  refine ⟨_, rfl, ?_⟩
  replace BK323 := kb BK323 hb
  replace BK333 := kb BK333 hb
  replace BK337 := kb BK337 hb
  replace HB := kB HB hb
  (try clear hb); (try clear hb2); (try clear hk); (try clear hi)
  refine hK.out _ _ ⟨kc BK323 0, kc BK323 1, kc BK323 2, kc BK323 3, kc BK337 0, kc BK337 1⟩ (fun hHeld => ?_)
  clear hK K
  refine norm_ (a' := ?_) ?_ ?_; rotate_left; focus (show Act.put _ (some 38) _ = _; simp only [Act.put, s1, s2, s3, i64_w, i32_w]; rfl)
  refine pure_ (i := 15) (N := some 39) (v := ?_) (a' := ?_) #[T, T, T, T, T, T, T, T, T, T, T, T, T, T, T, T, O, O, O, O, O, O, O, O, O, O, O, O, O, O, O, O, O, O, O, O, O, O, O, O, O, O] rfl rfl (any_of HT_.out (by kernel_rfl)) (fun _ _ _ h => h) (Or.inl ⟨by rfl, ?_⟩) ?_ ?_; rotate_left; focus (intro w'; go_simp; with_reducible rfl)
  rotate_left; focus (simp only [Act.put, s1, s2, s3, i64_w, i32_w]; rfl)
  refine pure_ (i := 16) (N := some 40) (v := ?_) (a' := ?_) #[T, T, T, T, T, T, T, T, T, T, T, T, T, T, T, T, T, O, O, O, O, O, O, O, O, O, O, O, O, O, O, O, O, O, O, O, O, O, O, O, O, O] rfl rfl (any_of HT_.out (by kernel_rfl)) (fun _ _ _ h => h) (Or.inl ⟨by rfl, ?_⟩) ?_ ?_; rotate_left; focus (intro w'; go_simp; with_reducible rfl)
  rotate_left; focus (simp only [Act.put, s1, s2, s3, i64_w, i32_w]; rfl)
  refine pure_ (i := 17) (N := some 41) (v := ?_) (a' := ?_) #[T, T, T, T, T, T, T, T, T, T, T, T, T, T, T, T, T, T, O, O, O, O, O, O, O, O, O, O, O, O, O, O, O, O, O, O, O, O, O, O, O, O] rfl rfl (any_of HT_.out (by kernel_rfl)) (fun _ _ _ h => h) (Or.inl ⟨by rfl, ?_⟩) ?_ ?_; rotate_left; focus (intro w'; go_simp; with_reducible rfl)
  rotate_left; focus (simp only [Act.put, s1, s2, s3, i64_w, i32_w]; rfl)
  refine one_ (i := 18) (N := some 42) #[T, T, T, T, T, T, T, T, T, T, T, T, T, T, T, T, T, T, T, O, O, O, O, O, O, O, O, O, O, O, O, O, O, O, O, O, O, O, O, O, O, O] rfl rfl (one_of HT_.out (by kernel_rfl)) (by decide) (fun K hK => ?_)
  refine goes_ Try.func20 (by kernel_rfl) rfl #[.agg #[.int .i64 0, .int .u64 0, .int .i64 0, .int .u64 0]] (by rfl) rfl rfl (by (try simp only [List.map_toArray, List.map_cons, List.map_nil]); first | done | rfl | (simp only [List.length_drop, List.length_take]; rfl)) ?_
  with_reducible refine (frac_Right.calls 0 0 0 0 false _ A15.out).mono ?_
  rintro e w47 ⟨rfl, hb⟩
  refine ⟨_, rfl, ?_⟩
  replace BK323 := kb BK323 hb
  replace BK333 := kb BK333 hb
  replace BK337 := kb BK337 hb
  replace HB := kB HB hb
  (try clear hb); (try clear hb2); (try clear hk); (try clear hi)
  refine hK.out _ _ ⟨kc BK323 0, kc BK323 1, kc BK323 2, kc BK323 3, kc BK337 0, kc BK337 1⟩ (fun hHeld => ?_)
  clear hK K
  refine norm_ (a' := ?_) ?_ ?_; rotate_left; focus (show Act.put _ (some 42) _ = _; simp only [Act.put, s1, s2, s3, i64_w, i32_w]; rfl)
  refine pure_ (i := 19) (N := some 43) (v := ?_) (a' := ?_) #[T, T, T, T, T, T, T, T, T, T, T, T, T, T, T, T, T, T, T, T, O, O, O, O, O, O, O, O, O, O, O, O, O, O, O, O, O, O, O, O, O, O] rfl rfl (any_of HT_.out (by kernel_rfl)) (fun _ _ _ h => h) (Or.inl ⟨by rfl, ?_⟩) ?_ ?_; rotate_left; focus (intro w'; go_simp; with_reducible rfl)
  rotate_left; focus (simp only [Act.put, s1, s2, s3, i64_w, i32_w]; rfl)
  refine pure_ (i := 20) (N := some 44) (v := ?_) (a' := ?_) #[T, T, T, T, T, T, T, T, T, T, T, T, T, T, T, T, T, T, T, T, T, O, O, O, O, O, O, O, O, O, O, O, O, O, O, O, O, O, O, O, O, O] rfl rfl (any_of HT_.out (by kernel_rfl)) (fun _ _ _ h => h) (Or.inl ⟨by rfl, ?_⟩) ?_ ?_; rotate_left; focus (intro w'; go_simp; with_reducible rfl)
  rotate_left; focus (simp only [Act.put, s1, s2, s3, i64_w, i32_w]; rfl)
  refine pure_ (i := 21) (N := some 45) (v := ?_) (a' := ?_) #[T, T, T, T, T, T, T, T, T, T, T, T, T, T, T, T, T, T, T, T, T, T, O, O, O, O, O, O, O, O, O, O, O, O, O, O, O, O, O, O, O, O] rfl rfl (any_of HT_.out (by kernel_rfl)) (fun _ _ _ h => h) (Or.inl ⟨by rfl, ?_⟩) ?_ ?_; rotate_left; focus (intro w'; go_simp; with_reducible rfl)
  rotate_left; focus (simp only [Act.put, s1, s2, s3, i64_w, i32_w]; rfl)
  refine take_ (i := 22) (N := some 46) (v := ?_) (a' := ?_) #[T, T, T, T, T, T, T, T, T, T, T, T, T, T, T, T, T, T, T, T, T, T, T, O, O, O, O, O, O, O, O, O, O, O, O, O, O, O, O, O, O, O] rfl rfl (take_ofW HT_.out HW_.out (by kernel_rfl)) (fun _ _ _ h => h) (Or.inl ⟨by rfl, ?_⟩) hHeld ?_ ?_; rotate_left; focus (rintro w' ⟨s0, s1, s2, s3, s4, s5⟩; go_simp; with_reducible rfl)
  rotate_left; focus (simp only [Act.put, s1, s2, s3, i64_w, i32_w]; rfl)
  refine one_ (i := 23) (N := some 47) #[T, T, T, T, T, T, T, T, T, T, T, T, T, T, T, T, T, T, T, T, T, T, T, T, O, O, O, O, O, O, O, O, O, O, O, O, O, O, O, O, O, O] rfl rfl (one_of HT_.out (by kernel_rfl)) (by decide) (fun K hK => ?_)
  refine goes_ Try.func19 (by kernel_rfl) rfl #[.agg #[.int .i64 t318, .int .u64 t319, .int .i64 t320, .int .u64 t321]] (by rfl) rfl rfl (by (try simp only [List.map_toArray, List.map_cons, List.map_nil]); first | done | rfl | (simp only [List.length_drop, List.length_take]; rfl)) ?_
  with_reducible refine (frac_Floor.calls k t318 t319 t320 t321 t344 t345 _ A17.out).mono ?_
  rintro e w48 ⟨rfl, hb⟩
  refine ⟨_, rfl, ?_⟩
  replace BK323 := kb BK323 hb
  replace BK333 := kb BK333 hb
  replace BK337 := kb BK337 hb
  replace HB := kB HB hb
  (try clear hb); (try clear hb2); (try clear hk); (try clear hi)
  refine hK.out _ _ ⟨kc BK323 0, kc BK323 1, kc BK323 2, kc BK323 3, kc BK337 0, kc BK337 1⟩ (fun hHeld => ?_)
  clear hK K
  refine norm_ (a' := ?_) ?_ ?_; rotate_left; focus (show Act.put _ (some 47) _ = _; simp only [Act.put, s1, s2, s3, i64_w, i32_w]; rfl)
  refine one_ (i := 24) (N := some 48) #[T, T, T, T, T, T, T, T, T, T, T, T, T, T, T, T, T, T, T, T, T, T, T, T, T, O, O, O, O, O, O, O, O, O, O, O, O, O, O, O, O, O] rfl rfl (one_of HT_.out (by kernel_rfl)) (by decide) (fun K hK => ?_)
  refine goes_ Try.func24 (by kernel_rfl) rfl #[.int .i64 3] (by rfl) rfl rfl (by (try simp only [List.map_toArray, List.map_cons, List.map_nil]); first | done | rfl | (simp only [List.length_drop, List.length_take]; rfl)) ?_
  with_reducible refine (wide_Of.calls 3 t346 t347 _ A18.out).mono ?_
  rintro e w49 ⟨rfl, hb⟩
  refine ⟨_, rfl, ?_⟩
  replace BK323 := kb BK323 hb
  replace BK333 := kb BK333 hb
  replace BK337 := kb BK337 hb
  replace HB := kB HB hb
  (try clear hb); (try clear hb2); (try clear hk); (try clear hi)
  refine hK.out _ _ ⟨kc BK323 0, kc BK323 1, kc BK323 2, kc BK323 3, kc BK337 0, kc BK337 1⟩ (fun hHeld => ?_)
  clear hK K
  refine norm_ (a' := ?_) ?_ ?_; rotate_left; focus (show Act.put _ (some 48) _ = _; simp only [Act.put, s1, s2, s3, i64_w, i32_w]; rfl)
  refine pure_ (i := 25) (N := some 49) (v := ?_) (a' := ?_) #[T, T, T, T, T, T, T, T, T, T, T, T, T, T, T, T, T, T, T, T, T, T, T, T, T, T, O, O, O, O, O, O, O, O, O, O, O, O, O, O, O, O] rfl rfl (any_of HT_.out (by kernel_rfl)) (fun _ _ _ h => h) (Or.inl ⟨by rfl, ?_⟩) ?_ ?_; rotate_left; focus (intro w'; go_simp; with_reducible rfl)
  rotate_left; focus (simp only [Act.put, s1, s2, s3, i64_w, i32_w]; rfl)
  refine pure_ (i := 26) (N := some 50) (v := ?_) (a' := ?_) #[T, T, T, T, T, T, T, T, T, T, T, T, T, T, T, T, T, T, T, T, T, T, T, T, T, T, T, O, O, O, O, O, O, O, O, O, O, O, O, O, O, O] rfl rfl (any_of HT_.out (by kernel_rfl)) (fun _ _ _ h => h) (Or.inl ⟨by rfl, ?_⟩) ?_ ?_; rotate_left; focus (intro w'; go_simp; with_reducible rfl)
  rotate_left; focus (simp only [Act.put, s1, s2, s3, i64_w, i32_w]; rfl)
  refine pure_ (i := 27) (N := some 51) (v := ?_) (a' := ?_) #[T, T, T, T, T, T, T, T, T, T, T, T, T, T, T, T, T, T, T, T, T, T, T, T, T, T, T, T, O, O, O, O, O, O, O, O, O, O, O, O, O, O] rfl rfl (any_of HT_.out (by kernel_rfl)) (fun _ _ _ h => h) (Or.inl ⟨by rfl, ?_⟩) ?_ ?_; rotate_left; focus (intro w'; go_simp; with_reducible rfl)
  rotate_left; focus (simp only [Act.put, s1, s2, s3, i64_w, i32_w]; rfl)
  refine pure_ (i := 28) (N := some 52) (v := ?_) (a' := ?_) #[T, T, T, T, T, T, T, T, T, T, T, T, T, T, T, T, T, T, T, T, T, T, T, T, T, T, T, T, T, O, O, O, O, O, O, O, O, O, O, O, O, O] rfl rfl (any_of HT_.out (by kernel_rfl)) (fun _ _ _ h => h) (Or.inl ⟨by rfl, ?_⟩) ?_ ?_; rotate_left; focus (intro w'; go_simp; with_reducible rfl)
  rotate_left; focus (simp only [Act.put, s1, s2, s3, i64_w, i32_w]; rfl)
  refine pure_ (i := 29) (N := some 53) (v := ?_) (a' := ?_) #[T, T, T, T, T, T, T, T, T, T, T, T, T, T, T, T, T, T, T, T, T, T, T, T, T, T, T, T, T, T, O, O, O, O, O, O, O, O, O, O, O, O] rfl rfl (any_of HT_.out (by kernel_rfl)) (fun _ _ _ h => h) (Or.inl ⟨by rfl, ?_⟩) ?_ ?_; rotate_left; focus (intro w'; go_simp; with_reducible rfl)
  rotate_left; focus (simp only [Act.put, s1, s2, s3, i64_w, i32_w]; rfl)
  refine pure_ (i := 30) (N := some 54) (v := ?_) (a' := ?_) #[T, T, T, T, T, T, T, T, T, T, T, T, T, T, T, T, T, T, T, T, T, T, T, T, T, T, T, T, T, T, T, O, O, O, O, O, O, O, O, O, O, O] rfl rfl (any_of HT_.out (by kernel_rfl)) (fun _ _ _ h => h) (Or.inl ⟨by rfl, ?_⟩) ?_ ?_; rotate_left; focus (intro w'; go_simp; with_reducible rfl)
  rotate_left; focus (simp only [Act.put, s1, s2, s3, i64_w, i32_w]; rfl)
  refine take_ (i := 31) (N := some 55) (v := ?_) (a' := ?_) #[T, T, T, T, T, T, T, T, T, T, T, T, T, T, T, T, T, T, T, T, T, T, T, T, T, T, T, T, T, T, T, T, O, O, O, O, O, O, O, O, O, O] rfl rfl (take_ofW HT_.out HW_.out (by kernel_rfl)) (fun _ _ _ h => h) (Or.inl ⟨by rfl, ?_⟩) hHeld ?_ ?_; rotate_left; focus (rintro w' ⟨s0, s1, s2, s3, s4, s5⟩; go_simp; with_reducible rfl)
  rotate_left; focus (simp only [Act.put, s1, s2, s3, i64_w, i32_w]; rfl)
  refine one_ (i := 32) (N := some 56) #[T, T, T, T, T, T, T, T, T, T, T, T, T, T, T, T, T, T, T, T, T, T, T, T, T, T, T, T, T, T, T, T, T, O, O, O, O, O, O, O, O, O] rfl rfl (one_of HT_.out (by kernel_rfl)) (by decide) (fun K hK => ?_)
  refine goes_ Try.func24 (by kernel_rfl) rfl #[.int .i64 2] (by rfl) rfl rfl (by (try simp only [List.map_toArray, List.map_cons, List.map_nil]); first | done | rfl | (simp only [List.length_drop, List.length_take]; rfl)) ?_
  with_reducible refine (wide_Of.calls 2 t348 t349 _ A21.out).mono ?_
  rintro e w50 ⟨rfl, hb⟩
  refine ⟨_, rfl, ?_⟩
  replace BK323 := kb BK323 hb
  replace BK333 := kb BK333 hb
  replace BK337 := kb BK337 hb
  replace HB := kB HB hb
  (try clear hb); (try clear hb2); (try clear hk); (try clear hi)
  refine hK.out _ _ ⟨kc BK323 0, kc BK323 1, kc BK323 2, kc BK323 3, kc BK337 0, kc BK337 1⟩ (fun hHeld => ?_)
  clear hK K
  refine norm_ (a' := ?_) ?_ ?_; rotate_left; focus (show Act.put _ (some 56) _ = _; simp only [Act.put, s1, s2, s3, i64_w, i32_w]; rfl)
  refine pure_ (i := 33) (N := some 57) (v := ?_) (a' := ?_) #[T, T, T, T, T, T, T, T, T, T, T, T, T, T, T, T, T, T, T, T, T, T, T, T, T, T, T, T, T, T, T, T, T, T, O, O, O, O, O, O, O, O] rfl rfl (any_of HT_.out (by kernel_rfl)) (fun _ _ _ h => h) (Or.inl ⟨by rfl, ?_⟩) ?_ ?_; rotate_left; focus (intro w'; go_simp; with_reducible rfl)
  rotate_left; focus (simp only [Act.put, s1, s2, s3, i64_w, i32_w]; rfl)
  refine pure_ (i := 34) (N := some 58) (v := ?_) (a' := ?_) #[T, T, T, T, T, T, T, T, T, T, T, T, T, T, T, T, T, T, T, T, T, T, T, T, T, T, T, T, T, T, T, T, T, T, T, O, O, O, O, O, O, O] rfl rfl (any_of HT_.out (by kernel_rfl)) (fun _ _ _ h => h) (Or.inl ⟨by rfl, ?_⟩) ?_ ?_; rotate_left; focus (intro w'; go_simp; with_reducible rfl)
  rotate_left; focus (simp only [Act.put, s1, s2, s3, i64_w, i32_w]; rfl)
  refine pure_ (i := 35) (N := some 59) (v := ?_) (a' := ?_) #[T, T, T, T, T, T, T, T, T, T, T, T, T, T, T, T, T, T, T, T, T, T, T, T, T, T, T, T, T, T, T, T, T, T, T, T, O, O, O, O, O, O] rfl rfl (any_of HT_.out (by kernel_rfl)) (fun _ _ _ h => h) (Or.inl ⟨by rfl, ?_⟩) ?_ ?_; rotate_left; focus (intro w'; go_simp; with_reducible rfl)
  rotate_left; focus (simp only [Act.put, s1, s2, s3, i64_w, i32_w]; rfl)
  refine take_ (i := 36) (N := some 60) (v := ?_) (a' := ?_) #[T, T, T, T, T, T, T, T, T, T, T, T, T, T, T, T, T, T, T, T, T, T, T, T, T, T, T, T, T, T, T, T, T, T, T, T, T, O, O, O, O, O] rfl rfl (take_ofW HT_.out HW_.out (by kernel_rfl)) (fun _ _ _ h => h) (Or.inl ⟨by rfl, ?_⟩) hHeld ?_ ?_; rotate_left; focus (rintro w' ⟨s0, s1, s2, s3, s4, s5⟩; go_simp; with_reducible rfl)
  rotate_left; focus (simp only [Act.put, s1, s2, s3, i64_w, i32_w]; rfl)
  refine one_ (i := 37) (N := some 61) #[T, T, T, T, T, T, T, T, T, T, T, T, T, T, T, T, T, T, T, T, T, T, T, T, T, T, T, T, T, T, T, T, T, T, T, T, T, T, O, O, O, O] rfl rfl (one_of HT_.out (by kernel_rfl)) (by decide) (fun K hK => ?_)
  refine goes_ Try.func46 (by kernel_rfl) rfl #[.int .i64 4] (by rfl) rfl rfl (by (try simp only [List.map_toArray, List.map_cons, List.map_nil]); first | done | rfl | (simp only [List.length_drop, List.length_take]; rfl)) ?_
  with_reducible refine (frac_Of.calls 4 t350 t351 t352 t353 _ A23.out).mono ?_
  rintro e w51 ⟨rfl, hb⟩
  refine ⟨_, rfl, ?_⟩
  replace BK323 := kb BK323 hb
  replace BK333 := kb BK333 hb
  replace BK337 := kb BK337 hb
  replace HB := kB HB hb
  (try clear hb); (try clear hb2); (try clear hk); (try clear hi)
  refine hK.out _ _ ⟨kc BK323 0, kc BK323 1, kc BK323 2, kc BK323 3, kc BK337 0, kc BK337 1⟩ (fun hHeld => ?_)
  clear hK K
  refine norm_ (a' := ?_) ?_ ?_; rotate_left; focus (show Act.put _ (some 61) _ = _; simp only [Act.put, s1, s2, s3, i64_w, i32_w]; rfl)
  refine one_ (i := 38) (N := some 62) #[T, T, T, T, T, T, T, T, T, T, T, T, T, T, T, T, T, T, T, T, T, T, T, T, T, T, T, T, T, T, T, T, T, T, T, T, T, T, T, O, O, O] rfl rfl (one_of HT_.out (by kernel_rfl)) (by decide) (fun K hK => ?_)
  refine goes_ Try.func14 (by kernel_rfl) rfl #[.agg #[.int .i64 t318, .int .u64 t319, .int .i64 t320, .int .u64 t321], .agg #[.int .i64 t350, .int .u64 t351, .int .i64 t352, .int .u64 t353]] (by rfl) rfl rfl (by (try simp only [List.map_toArray, List.map_cons, List.map_nil]); first | done | rfl | (simp only [List.length_drop, List.length_take]; rfl)) ?_
  with_reducible refine (frac_Cmp.calls k t318 t319 t320 t321 t350 t351 t352 t353 t354 _ A24.out).mono ?_
  rintro e w52 ⟨rfl, hb⟩
  refine ⟨_, rfl, ?_⟩
  replace BK323 := kb BK323 hb
  replace BK333 := kb BK333 hb
  replace BK337 := kb BK337 hb
  replace HB := kB HB hb
  (try clear hb); (try clear hb2); (try clear hk); (try clear hi)
  refine hK.out _ _ ⟨kc BK323 0, kc BK323 1, kc BK323 2, kc BK323 3, kc BK337 0, kc BK337 1⟩ (fun hHeld => ?_)
  clear hK K
  refine norm_ (a' := ?_) ?_ ?_; rotate_left; focus (show Act.put _ (some 62) _ = _; simp only [Act.put, s1, s2, s3, i64_w, i32_w]; rfl)
  refine pure_ (i := 39) (N := some 63) (v := ?_) (a' := ?_) #[T, T, T, T, T, T, T, T, T, T, T, T, T, T, T, T, T, T, T, T, T, T, T, T, T, T, T, T, T, T, T, T, T, T, T, T, T, T, T, T, O, O] rfl rfl (any_of HT_.out (by kernel_rfl)) (fun _ _ _ h => h) (Or.inl ⟨by rfl, ?_⟩) ?_ ?_; rotate_left; focus (intro w'; go_simp; with_reducible rfl)
  rotate_left; focus (simp only [Act.put, s1, s2, s3, i64_w, i32_w]; rfl)
  refine pure_ (i := 40) (N := some 64) (v := ?_) (a' := ?_) #[T, T, T, T, T, T, T, T, T, T, T, T, T, T, T, T, T, T, T, T, T, T, T, T, T, T, T, T, T, T, T, T, T, T, T, T, T, T, T, T, T, O] rfl rfl (any_of HT_.out (by kernel_rfl)) (fun _ _ _ h => h) (Or.inl ⟨by rfl, ?_⟩) ?_ ?_; rotate_left; focus (intro w'; go_simp; with_reducible rfl)
  rotate_left; focus (simp only [Act.put, s1, s2, s3, i64_w, i32_w]; rfl)
  refine pure_ (i := 41) (N := some 0) (v := ?_) (a' := ?_) #[T, T, T, T, T, T, T, T, T, T, T, T, T, T, T, T, T, T, T, T, T, T, T, T, T, T, T, T, T, T, T, T, T, T, T, T, T, T, T, T, T, T] rfl rfl (any_of HT_.out (by kernel_rfl)) (fun _ _ _ h => h) (Or.inl ⟨by rfl, ?_⟩) ?_ ?_; rotate_left; focus (intro w'; go_simp; with_reducible rfl)
  rotate_left; focus (simp only [Act.put, s1, s2, s3, i64_w, i32_w]; rfl)
  refine done_ (done_of HT_.out (by kernel_rfl)) ?_
  try go_wp2
  go_ret
  exact ⟨by first | rfl | (simp [errW_none, errW_some] <;> rfl) | (simp [*, errW_none, errW_some] <;> rfl), ky HB⟩
end Go.Proofs.Ytpjbniihdndlmab.Q
