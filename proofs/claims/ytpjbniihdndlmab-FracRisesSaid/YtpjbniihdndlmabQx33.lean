-- Printed by wip/pp.sh (a session's own turning of the kit's print) for this seat.
import Derived.Test.YtpjbniihdndlmabQx0
import Derived.Test.YtpjbniihdndlmabQx5
import Derived.Test.YtpjbniihdndlmabQx32
namespace Go.Proofs.Ytpjbniihdndlmab.Q
open Go.RowKit Go.Proofs.YtpjbniihdndlmabW.PrintWords Go.Proofs.YtpjbniihdndlmabW.PrintLast Go.Proofs.YtpjbniihdndlmabW.PrintMore
open Go.Proofs.Ytpjbniihdndlmab.H
attribute [local go_sem] hq_add64 hq_sub64 hq_not64 add64c_nn sub64c_nn sub64c_le
attribute [local go_sem] max2_int min2_int max_two min_two max_three min_three max_four min_four   -- for this text's walks alone
set_option linter.unusedVariables false
set_option linter.unusedSimpArgs false

/-! ### frac_Make: function 50 -/
def frac_Make.j0 : Nat → Bool → Int → Int → Int → Int → Option (Int × Int × Int × Int × Bool)
  | 0, _, _, _, _, _ => none
  | k + 1, x36, x309000, x309001, x313000, x313001 => if x36 = true then (some (0, 0, 0, 0, false)) else (some (x309000, x309001, x313000, x313001, true))
def frac_Make.f (k : Nat) (a0_0 : Int) (a0_1 : Int) (a1_0 : Int) (a1_1 : Int) : Option (Int × Int × Int × Int × Bool) := (wide_Sign.f a1_0 a1_1).bind fun t304 => (if t304 > 0 then (some (a0_0, a0_1, a1_0, a1_1, true)) else ((wide_Neg.f a0_0 a0_1).bind fun bt305 => ((wide_Neg.f a1_0 a1_1).bind fun bt309 => (if bt305.2.2 = true then (if bt309.2.2 = true then ((wide_Sign.f bt309.1 bt309.2.1).bind fun t313 => (frac_Make.j0 k (t313 == 0) bt305.1 bt305.2.1 bt309.1 bt309.2.1)) else (frac_Make.j0 k true bt305.1 bt305.2.1 bt309.1 bt309.2.1)) else (frac_Make.j0 k true bt305.1 bt305.2.1 bt309.1 bt309.2.1)))))
theorem frac_Make.mono_l : ∀ k, (∀ y0 y1 y2 y3 y4, LeO (frac_Make.j0 k y0 y1 y2 y3 y4) (frac_Make.j0 (k + 1) y0 y1 y2 y3 y4))
  | 0 => fun _ _ _ _ _ r h => by simp [frac_Make.j0] at h
  | k + 1 => by
    have ih0 := frac_Make.mono_l k
    · intro y0 y1 y2 y3 y4
      unfold frac_Make.j0
      repeat' first
      | (with_reducible exact ih0 _ _ _ _ _)
      | (with_reducible exact LeO.refl _)
      | (with_reducible exact LeO.none _)
      | (with_reducible refine LeO.ite ?_ ?_)
      | (with_reducible refine LeO.bind ?_ (fun _ => ?_))
      | exact ih0 _ _ _ _ _
      | exact LeO.none _
      | refine LeO.ite ?_ ?_
      | refine LeO.bind ?_ (fun _ => ?_)
theorem frac_Make.mono : ∀ a0 a1 a2 a3 k, LeO (frac_Make.f k a0 a1 a2 a3) (frac_Make.f (k + 1) a0 a1 a2 a3) := by
  intro a0 a1 a2 a3 k
  have ih0 := frac_Make.mono_l k
  unfold frac_Make.f
  repeat' first
      | (with_reducible exact ih0 _ _ _ _ _)
      | (with_reducible exact LeO.refl _)
      | (with_reducible exact LeO.none _)
      | (with_reducible refine LeO.ite ?_ ?_)
      | (with_reducible refine LeO.bind ?_ (fun _ => ?_))
      | exact ih0 _ _ _ _ _
      | exact LeO.none _
      | refine LeO.ite ?_ ?_
      | refine LeO.bind ?_ (fun _ => ?_)
set_option maxHeartbeats 8000000 in
set_option maxRecDepth 100000 in
theorem frac_Make.calls (k : Nat) (a0_0 : Int) (a0_1 : Int) (a1_0 : Int) (a1_1 : Int) (r1 : Int) (r2 : Int) (r3 : Int) (r4 : Int) (r5 : Bool) (w : World) (h : frac_Make.f k a0_0 a0_1 a1_0 a1_1 = some (r1, r2, r3, r4, r5)) :
    Calls Try.prog 50 #[.agg #[.int .i64 a0_0, .int .u64 a0_1], .agg #[.int .i64 a1_0, .int .u64 a1_1]] w fun e w' => e = .returned (.tuple #[.agg #[.int .i64 r1, .int .u64 r2, .int .i64 r3, .int .u64 r4], .bool r5]) ∧ Below w.heap.size w w' := by
  have hu24 := Try.underlying24
  have hu26 := Try.underlying26
  have HB := Aside0.mk (Below.refl w.heap.size w)
  have H : ((wide_Sign.f a1_0 a1_1).bind fun t304 => (if t304 > 0 then (some (a0_0, a0_1, a1_0, a1_1, true)) else ((wide_Neg.f a0_0 a0_1).bind fun bt305 => ((wide_Neg.f a1_0 a1_1).bind fun bt309 => (if bt305.2.2 = true then (if bt309.2.2 = true then ((wide_Sign.f bt309.1 bt309.2.1).bind fun t313 => (frac_Make.j0 k (t313 == 0) bt305.1 bt305.2.1 bt309.1 bt309.2.1)) else (frac_Make.j0 k true bt305.1 bt305.2.1 bt309.1 bt309.2.1)) else (frac_Make.j0 k true bt305.1 bt305.2.1 bt309.1 bt309.2.1)))))) = some (r1, r2, r3, r4, r5) := h
  clear h
  replace H := Option.bind_eq_some_iff.mp H
  obtain ⟨t304, A30, H⟩ := H
  replace H : (if t304 > 0 then (some (a0_0, a0_1, a1_0, a1_1, true)) else ((wide_Neg.f a0_0 a0_1).bind fun bt305 => ((wide_Neg.f a1_0 a1_1).bind fun bt309 => (if bt305.2.2 = true then (if bt309.2.2 = true then ((wide_Sign.f bt309.1 bt309.2.1).bind fun t313 => (frac_Make.j0 k (t313 == 0) bt305.1 bt305.2.1 bt309.1 bt309.2.1)) else (frac_Make.j0 k true bt305.1 bt305.2.1 bt309.1 bt309.2.1)) else (frac_Make.j0 k true bt305.1 bt305.2.1 bt309.1 bt309.2.1))))) = some (r1, r2, r3, r4, r5) := H
  have A3 := Aside0.mk A30
  clear A30
  by_cases c4 : t304 > 0
  · rw [if_pos c4] at H
    have c4b0 : decide (0 < t304) = true := decide_eq_true c4
    clear c4
    simp only [Option.some.injEq, Prod.mk.injEq] at H
    obtain ⟨rfl, rfl, rfl, rfl, rfl⟩ := H
    go_enter Try.func50, Try.ntmps50
    go_wp2_with (first | ((with_reducible refine gate_dst (N := 2) rfl ?_); refine box_event ?hg (N := 2) ?hd (cs := #[.int .i64 a0_0, .int .u64 a0_1]) (t := 24) ?hr ?_; (case hd => rfl); (case hg => rfl); (case hr => first | (go_simp; done) | (go_simp; rfl)); intro gb301 hg w5 hbox hb; have BK301 := Aside0.mk (hbox); have GW301 := kS HB hg; have GE301 := kS HB hg; replace HB := kB HB hb; clear hb hbox hg) | ((with_reducible refine gate_dst (N := 3) rfl ?_); refine box_event ?hg (N := 3) ?hd (cs := #[.int .i64 a1_0, .int .u64 a1_1]) (t := 24) ?hr ?_; (case hd => rfl); (case hg => rfl); (case hr => first | (go_simp; done) | (go_simp; rfl)); intro gb302 hg w6 hbox hb; have BK302 := Aside0.mk (hbox); have GW302 := kS HB hg; have GE302 := kS HB hg; have NB301_302 := kN BK301 hg; have NB302_301 := kM BK301 hg; replace BK301 := kb BK301 hb; replace HB := kB HB hb; clear hb hbox hg) | ((with_reducible refine gate_dst (N := 4) rfl ?_); refine box_event ?hg (N := 4) ?hd (cs := #[.int .i64 0, .int .u64 0, .int .i64 0, .int .u64 0]) (t := 26) ?hr ?_; (case hd => rfl); (case hg => rfl); (case hr => first | (go_simp; done) | (go_simp; rfl)); intro gb303 hg w7 hbox hb; have BK303 := Aside0.mk (hbox); have GW303 := kS HB hg; have GE303 := kS HB hg; have NB301_303 := kN BK301 hg; have NB303_301 := kM BK301 hg; have NB302_303 := kN BK302 hg; have NB303_302 := kM BK302 hg; replace BK301 := kb BK301 hb; replace BK302 := kb BK302 hb; replace HB := kB HB hb; clear hb hbox hg; have hnb8 := NB302_301.out; have hnc8 := NB301_302.out; have hnb9 := NB302_303.out; have hnc9 := NB303_302.out; have hcz10_0 : w7.cell? ⟨gb302, 0, none⟩ = some (.int .i64 a1_0) := kc BK302 0; have hcz10_1 : w7.cell? ⟨gb302, 1, none⟩ = some (.int .u64 a1_1) := kc BK302 1; have hfz10_0 := blk_frozen BK302.out 0; have hfz10_1 := blk_frozen BK302.out 1) | ((with_reducible refine gate_callee (f := 15) rfl ?_); refine goesL_ (some 11) rfl rfl Try.func15 (by kernel_rfl) rfl #[.agg #[.int .i64 a1_0, .int .u64 a1_1]] rfl (by (try simp only [List.map_toArray, List.map_cons, List.map_nil]); first | done | rfl | (simp only [List.length_drop, List.length_take]; rfl)) ?_; (with_reducible refine (wide_Sign.calls a1_0 a1_1 t304 _ A3.out).mono ?_); rintro e w11 ⟨rfl, hb⟩; refine ⟨_, rfl, ?_⟩; replace BK301 := kb BK301 hb; replace BK302 := kb BK302 hb; replace BK303 := kb BK303 hb; replace HB := kB HB hb; (try clear hb); (try clear hb2); (try clear hk); (try clear hi); have hnb12 := NB301_303.out; have hnc12 := NB303_301.out; have hcz13_0 : w11.cell? ⟨gb301, 0, none⟩ = some (.int .i64 a0_0) := kc BK301 0; have hcz13_1 : w11.cell? ⟨gb301, 1, none⟩ = some (.int .u64 a0_1) := kc BK301 1; have hfz13_0 := blk_frozen BK301.out 0; have hfz13_1 := blk_frozen BK301.out 1; have hcz14_0 : w11.cell? ⟨gb302, 0, none⟩ = some (.int .i64 a1_0) := kc BK302 0; have hcz14_1 : w11.cell? ⟨gb302, 1, none⟩ = some (.int .u64 a1_1) := kc BK302 1; have hfz14_0 := blk_frozen BK302.out 0; have hfz14_1 := blk_frozen BK302.out 1; have hcz15_0 : w11.cell? ⟨gb303, 0, none⟩ = some (.int .i64 0) := kc BK303 0; have hcz15_1 : w11.cell? ⟨gb303, 1, none⟩ = some (.int .u64 0) := kc BK303 1; have hcz15_2 : w11.cell? ⟨gb303, 2, none⟩ = some (.int .i64 0) := kc BK303 2; have hcz15_3 : w11.cell? ⟨gb303, 3, none⟩ = some (.int .u64 0) := kc BK303 3; have hfz15_0 := blk_frozen BK303.out 0; have hfz15_1 := blk_frozen BK303.out 1; have hfz15_2 := blk_frozen BK303.out 2; have hfz15_3 := blk_frozen BK303.out 3))
    refine bodyPost_ret (results_ct rfl _ _ gb303 26 #[.int .i64 a0_0, .int .u64 a0_1, .int .i64 a1_0, .int .u64 a1_1] (0, 0) _ rfl (by (with_reducible repeat (first | refine blk_drewN ?_ _ | refine blk_drew ?_ | refine blk_alloc ?_ _)); refine blk_put (cs := #[.int .i64 a0_0, .int .u64 a0_1, .int .i64 a1_0, .int .u64 0]) ?_ 3 _ rfl; (with_reducible repeat (first | refine blk_drewN ?_ _ | refine blk_drew ?_ | refine blk_alloc ?_ _)); refine blk_put (cs := #[.int .i64 a0_0, .int .u64 a0_1, .int .i64 0, .int .u64 0]) ?_ 2 _ rfl; (with_reducible repeat (first | refine blk_drewN ?_ _ | refine blk_drew ?_ | refine blk_alloc ?_ _)); refine blk_put (cs := #[.int .i64 a0_0, .int .u64 0, .int .i64 0, .int .u64 0]) ?_ 1 _ rfl; (with_reducible repeat (first | refine blk_drewN ?_ _ | refine blk_drew ?_ | refine blk_alloc ?_ _)); refine blk_put (cs := #[.int .i64 0, .int .u64 0, .int .i64 0, .int .u64 0]) ?_ 0 _ rfl; (with_reducible repeat (first | refine blk_drewN ?_ _ | refine blk_drew ?_ | refine blk_alloc ?_ _)); exact BK303.out) Try.underlying26 rfl (by kernel_rfl)) rfl ?_
    exact ⟨by first | rfl | (simp [errW_none, errW_some] <;> rfl) | (simp [*, errW_none, errW_some] <;> rfl), ky HB⟩
  rw [if_neg c4] at H
  have c4b0 : decide (0 < t304) = false := decide_eq_false c4
  clear c4
  replace H := Option.bind_eq_some_iff.mp H
  obtain ⟨⟨t305, t306, t307⟩, A160, H⟩ := H
  replace H : ((wide_Neg.f a1_0 a1_1).bind fun bt309 => (if t307 = true then (if bt309.2.2 = true then ((wide_Sign.f bt309.1 bt309.2.1).bind fun t313 => (frac_Make.j0 k (t313 == 0) t305 t306 bt309.1 bt309.2.1)) else (frac_Make.j0 k true t305 t306 bt309.1 bt309.2.1)) else (frac_Make.j0 k true t305 t306 bt309.1 bt309.2.1))) = some (r1, r2, r3, r4, r5) := H
  have A16 := Aside0.mk A160
  clear A160
  replace H := Option.bind_eq_some_iff.mp H
  obtain ⟨⟨t309, t310, t311⟩, A170, H⟩ := H
  replace H : (if t307 = true then (if t311 = true then ((wide_Sign.f t309 t310).bind fun t313 => (frac_Make.j0 k (t313 == 0) t305 t306 t309 t310)) else (frac_Make.j0 k true t305 t306 t309 t310)) else (frac_Make.j0 k true t305 t306 t309 t310)) = some (r1, r2, r3, r4, r5) := H
  have A17 := Aside0.mk A170
  clear A170
  have HC18 := Aside0.mk H
  clear H
  go_enter Try.func50, Try.ntmps50
  go_upto_region 5 with (first | ((with_reducible refine gate_dst (N := 2) rfl ?_); refine box_event ?hg (N := 2) ?hd (cs := #[.int .i64 a0_0, .int .u64 a0_1]) (t := 24) ?hr ?_; (case hd => rfl); (case hg => rfl); (case hr => first | (go_simp; done) | (go_simp; rfl)); intro gb301 hg w19 hbox hb; have BK301 := Aside0.mk (hbox); have GW301 := kS HB hg; have GE301 := kS HB hg; replace HB := kB HB hb; clear hb hbox hg) | ((with_reducible refine gate_dst (N := 3) rfl ?_); refine box_event ?hg (N := 3) ?hd (cs := #[.int .i64 a1_0, .int .u64 a1_1]) (t := 24) ?hr ?_; (case hd => rfl); (case hg => rfl); (case hr => first | (go_simp; done) | (go_simp; rfl)); intro gb302 hg w20 hbox hb; have BK302 := Aside0.mk (hbox); have GW302 := kS HB hg; have GE302 := kS HB hg; have NB301_302 := kN BK301 hg; have NB302_301 := kM BK301 hg; replace BK301 := kb BK301 hb; replace HB := kB HB hb; clear hb hbox hg) | ((with_reducible refine gate_dst (N := 4) rfl ?_); refine box_event ?hg (N := 4) ?hd (cs := #[.int .i64 0, .int .u64 0, .int .i64 0, .int .u64 0]) (t := 26) ?hr ?_; (case hd => rfl); (case hg => rfl); (case hr => first | (go_simp; done) | (go_simp; rfl)); intro gb303 hg w21 hbox hb; have BK303 := Aside0.mk (hbox); have GW303 := kS HB hg; have GE303 := kS HB hg; have NB301_303 := kN BK301 hg; have NB303_301 := kM BK301 hg; have NB302_303 := kN BK302 hg; have NB303_302 := kM BK302 hg; replace BK301 := kb BK301 hb; replace BK302 := kb BK302 hb; replace HB := kB HB hb; clear hb hbox hg; have hnb22 := NB302_301.out; have hnc22 := NB301_302.out; have hnb23 := NB302_303.out; have hnc23 := NB303_302.out; have hcz24_0 : w21.cell? ⟨gb302, 0, none⟩ = some (.int .i64 a1_0) := kc BK302 0; have hcz24_1 : w21.cell? ⟨gb302, 1, none⟩ = some (.int .u64 a1_1) := kc BK302 1; have hfz24_0 := blk_frozen BK302.out 0; have hfz24_1 := blk_frozen BK302.out 1) | ((with_reducible refine gate_callee (f := 15) rfl ?_); refine goesL_ (some 11) rfl rfl Try.func15 (by kernel_rfl) rfl #[.agg #[.int .i64 a1_0, .int .u64 a1_1]] rfl (by (try simp only [List.map_toArray, List.map_cons, List.map_nil]); first | done | rfl | (simp only [List.length_drop, List.length_take]; rfl)) ?_; (with_reducible refine (wide_Sign.calls a1_0 a1_1 t304 _ A3.out).mono ?_); rintro e w25 ⟨rfl, hb⟩; refine ⟨_, rfl, ?_⟩; replace BK301 := kb BK301 hb; replace BK302 := kb BK302 hb; replace BK303 := kb BK303 hb; replace HB := kB HB hb; (try clear hb); (try clear hb2); (try clear hk); (try clear hi); have hnb26 := NB301_303.out; have hnc26 := NB303_301.out; have hcz27_0 : w25.cell? ⟨gb301, 0, none⟩ = some (.int .i64 a0_0) := kc BK301 0; have hcz27_1 : w25.cell? ⟨gb301, 1, none⟩ = some (.int .u64 a0_1) := kc BK301 1; have hfz27_0 := blk_frozen BK301.out 0; have hfz27_1 := blk_frozen BK301.out 1) | ((with_reducible refine gate_callee (f := 30) rfl ?_); refine goesL_ (some 18) rfl rfl Try.func30 (by kernel_rfl) rfl #[.agg #[.int .i64 a0_0, .int .u64 a0_1]] rfl (by (try simp only [List.map_toArray, List.map_cons, List.map_nil]); first | done | rfl | (simp only [List.length_drop, List.length_take]; rfl)) ?_; (with_reducible refine (wide_Neg.calls a0_0 a0_1 t305 t306 t307 _ A16.out).mono ?_); rintro e w28 ⟨rfl, hb⟩; refine ⟨_, rfl, ?_⟩; replace BK301 := kb BK301 hb; replace BK302 := kb BK302 hb; replace BK303 := kb BK303 hb; replace HB := kB HB hb; (try clear hb); (try clear hb2); (try clear hk); (try clear hi)) | ((with_reducible refine gate_dst (N := 6) rfl ?_); refine box_event ?hg (N := 6) ?hd (cs := #[.int .i64 0, .int .u64 0]) (t := 24) ?hr ?_; (case hd => rfl); (case hg => rfl); (case hr => first | (go_simp; done) | (go_simp; rfl)); intro gb308 hg w29 hbox hb; have BK308 := Aside0.mk (hbox); have GW308 := kS HB hg; have GE308 := kS HB hg; have NB301_308 := kN BK301 hg; have NB308_301 := kM BK301 hg; have NB302_308 := kN BK302 hg; have NB308_302 := kM BK302 hg; have NB303_308 := kN BK303 hg; have NB308_303 := kM BK303 hg; replace BK301 := kb BK301 hb; replace BK302 := kb BK302 hb; replace BK303 := kb BK303 hb; replace HB := kB HB hb; clear hb hbox hg; have hnb30 := NB308_301.out; have hnc30 := NB301_308.out; have hnb31 := NB308_302.out; have hnc31 := NB302_308.out; have hnb32 := NB308_303.out; have hnc32 := NB303_308.out; have hcz33_0 : w29.cell? ⟨gb308, 0, none⟩ = some (.int .i64 0) := kc BK308 0; have hcz33_1 : w29.cell? ⟨gb308, 1, none⟩ = some (.int .u64 0) := kc BK308 1; have hfz33_0 := blk_frozen BK308.out 0; have hfz33_1 := blk_frozen BK308.out 1; have hcz34_0 : w29.cell? ⟨gb302, 0, none⟩ = some (.int .i64 a1_0) := kc BK302 0; have hcz34_1 : w29.cell? ⟨gb302, 1, none⟩ = some (.int .u64 a1_1) := kc BK302 1; have hfz34_0 := blk_frozen BK302.out 0; have hfz34_1 := blk_frozen BK302.out 1) | ((with_reducible refine gate_callee (f := 30) rfl ?_); refine goesL_ (some 23) rfl rfl Try.func30 (by kernel_rfl) rfl #[.agg #[.int .i64 a1_0, .int .u64 a1_1]] rfl (by (try simp only [List.map_toArray, List.map_cons, List.map_nil]); first | done | rfl | (simp only [List.length_drop, List.length_take]; rfl)) ?_; (with_reducible refine (wide_Neg.calls a1_0 a1_1 t309 t310 t311 _ A17.out).mono ?_); rintro e w35 ⟨rfl, hb⟩; refine ⟨_, rfl, ?_⟩; have n0_ := kb BK301 hb; have n1_ := kb BK302 hb; have n2_ := kb BK303 hb; have n3_ := Aside0.mk (blk_below (g := gb308) (o := .cells #[.int .i64 t305, .int .u64 t306] 24 (0, 0)) (by (with_reducible repeat (first | refine blk_drewN ?_ _ | refine blk_drew ?_ | refine blk_alloc ?_ _)); refine blk_put (cs := #[.int .i64 t305, .int .u64 0]) ?_ 1 _ rfl; (with_reducible repeat (first | refine blk_drewN ?_ _ | refine blk_drew ?_ | refine blk_alloc ?_ _)); refine blk_put (cs := #[.int .i64 0, .int .u64 0]) ?_ 0 _ rfl; (with_reducible repeat (first | refine blk_drewN ?_ _ | refine blk_drew ?_ | refine blk_alloc ?_ _)); exact BK308.out) hb); have n4_ := kB HB hb; clear BK301; clear BK302; clear BK303; clear BK308; clear HB; have BK301 := n0_; have BK302 := n1_; have BK303 := n2_; have BK308 := n3_; have HB := n4_; clear n0_ n1_ n2_ n3_ n4_; (try clear hb); (try clear hb2); (try clear hk); (try clear hi)) | ((with_reducible refine gate_dst (N := 8) rfl ?_); refine box_event ?hg (N := 8) ?hd (cs := #[.int .i64 0, .int .u64 0]) (t := 24) ?hr ?_; (case hd => rfl); (case hg => rfl); (case hr => first | (go_simp; done) | (go_simp; rfl)); intro gb312 hg w36 hbox hb; have BK312 := Aside0.mk (hbox); have GW312 := kS HB hg; have GE312 := kS HB hg; have NB301_312 := kN BK301 hg; have NB312_301 := kM BK301 hg; have NB302_312 := kN BK302 hg; have NB312_302 := kM BK302 hg; have NB303_312 := kN BK303 hg; have NB312_303 := kM BK303 hg; have NB308_312 := kN BK308 hg; have NB312_308 := kM BK308 hg; replace BK301 := kb BK301 hb; replace BK302 := kb BK302 hb; replace BK303 := kb BK303 hb; replace BK308 := kb BK308 hb; replace HB := kB HB hb; clear hb hbox hg; have hnb37 := NB312_301.out; have hnc37 := NB301_312.out; have hnb38 := NB312_302.out; have hnc38 := NB302_312.out; have hnb39 := NB312_303.out; have hnc39 := NB303_312.out; have hnb40 := NB312_308.out; have hnc40 := NB308_312.out; have hcz41_0 : w36.cell? ⟨gb312, 0, none⟩ = some (.int .i64 0) := kc BK312 0; have hcz41_1 : w36.cell? ⟨gb312, 1, none⟩ = some (.int .u64 0) := kc BK312 1; have hfz41_0 := blk_frozen BK312.out 0; have hfz41_1 := blk_frozen BK312.out 1))
  (try simp only [Act.put, s1, s2, s3])
  go_cut [36] (fun v36 wc => ∃ (kq : Nat) (x36_17 : Bool), v36 = .bool x36_17 ∧ Aside0 (frac_Make.j0 kq x36_17 t305 t306 t309 t310 = some (r1, r2, r3, r4, r5)) ∧ Aside0 (kq ≤ k) ∧ Aside0 (wc.heap[gb301]? = some (.cells #[.int .i64 a0_0, .int .u64 a0_1] 24 (0, 0))) ∧ Aside0 (wc.heap[gb302]? = some (.cells #[.int .i64 a1_0, .int .u64 a1_1] 24 (0, 0))) ∧ Aside0 (wc.heap[gb303]? = some (.cells #[.int .i64 0, .int .u64 0, .int .i64 0, .int .u64 0] 26 (0, 0))) ∧ Aside0 (wc.heap[gb308]? = some (.cells #[.int .i64 t305, .int .u64 t306] 24 (0, 0))) ∧ Aside0 (wc.heap[gb312]? = some (.cells #[.int .i64 t309, .int .u64 t310] 24 (0, 0))) ∧ Aside0 (Below w.heap.size w wc))
  case first =>
    have H := HC18.out; clear HC18
    by_cases c42 : t307 = true
    rotate_left
    · replace c42 := Bool.eq_false_iff.mpr c42
      subst c42
      have H1 : (frac_Make.j0 k true t305 t306 t309 t310) = some (r1, r2, r3, r4, r5) := by rw [if_neg (show ¬ (false = true) by decide)] at H; exact H
      clear H; have H := H1; clear H1
      have H' := Aside0.mk H
      clear H
      go_wp2
      go_meet
      case rel => exact ⟨_, (true), (by first | rfl | (simp; done) | (simp [*]; done)), H', ⟨by first | omega | exact Nat.le_refl _⟩, ⟨kx BK301⟩, ⟨kx BK302⟩, ⟨kx BK303⟩, ⟨kx BK308⟩, ⟨by (with_reducible repeat (first | refine blk_drewN ?_ _ | refine blk_drew ?_ | refine blk_alloc ?_ _)); refine blk_put (cs := #[.int .i64 t309, .int .u64 0]) ?_ 1 _ rfl; (with_reducible repeat (first | refine blk_drewN ?_ _ | refine blk_drew ?_ | refine blk_alloc ?_ _)); refine blk_put (cs := #[.int .i64 0, .int .u64 0]) ?_ 0 _ rfl; (with_reducible repeat (first | refine blk_drewN ?_ _ | refine blk_drew ?_ | refine blk_alloc ?_ _)); exact BK312.out⟩, ⟨ky HB⟩⟩
    subst c42
    have H1 : (if t311 = true then ((wide_Sign.f t309 t310).bind fun t313 => (frac_Make.j0 k (t313 == 0) t305 t306 t309 t310)) else (frac_Make.j0 k true t305 t306 t309 t310)) = some (r1, r2, r3, r4, r5) := by rw [if_pos rfl] at H; exact H
    clear H; have H := H1; clear H1
    by_cases c43 : t311 = true
    rotate_left
    · replace c43 := Bool.eq_false_iff.mpr c43
      subst c43
      have H1 : (frac_Make.j0 k true t305 t306 t309 t310) = some (r1, r2, r3, r4, r5) := by rw [if_neg (show ¬ (false = true) by decide)] at H; exact H
      clear H; have H := H1; clear H1
      have H' := Aside0.mk H
      clear H
      go_wp2
      go_meet
      case rel => exact ⟨_, (true), (by first | rfl | (simp; done) | (simp [*]; done)), H', ⟨by first | omega | exact Nat.le_refl _⟩, ⟨kx BK301⟩, ⟨kx BK302⟩, ⟨kx BK303⟩, ⟨kx BK308⟩, ⟨by (with_reducible repeat (first | refine blk_drewN ?_ _ | refine blk_drew ?_ | refine blk_alloc ?_ _)); refine blk_put (cs := #[.int .i64 t309, .int .u64 0]) ?_ 1 _ rfl; (with_reducible repeat (first | refine blk_drewN ?_ _ | refine blk_drew ?_ | refine blk_alloc ?_ _)); refine blk_put (cs := #[.int .i64 0, .int .u64 0]) ?_ 0 _ rfl; (with_reducible repeat (first | refine blk_drewN ?_ _ | refine blk_drew ?_ | refine blk_alloc ?_ _)); exact BK312.out⟩, ⟨ky HB⟩⟩
    subst c43
    have H1 : ((wide_Sign.f t309 t310).bind fun t313 => (frac_Make.j0 k (t313 == 0) t305 t306 t309 t310)) = some (r1, r2, r3, r4, r5) := by rw [if_pos rfl] at H; exact H
    clear H; have H := H1; clear H1
    replace H := Option.bind_eq_some_iff.mp H
    obtain ⟨t313, A440, H⟩ := H
    replace H : (frac_Make.j0 k (t313 == 0) t305 t306 t309 t310) = some (r1, r2, r3, r4, r5) := H
    have A44 := Aside0.mk A440
    clear A440
    have H' := Aside0.mk H
    clear H; have hnb45 := NB312_301.out; have hnc45 := NB301_312.out; have hnb46 := NB312_302.out; have hnc46 := NB302_312.out; have hnb47 := NB312_303.out; have hnc47 := NB303_312.out; have hnb48 := NB312_308.out; have hnc48 := NB308_312.out
    have hcz49_0 : w36.cell? ⟨gb312, 0, none⟩ = some (.int .i64 0) := kc BK312 0
    have hcz49_1 : w36.cell? ⟨gb312, 1, none⟩ = some (.int .u64 0) := kc BK312 1
    have hfz49_0 := blk_frozen BK312.out 0
    have hfz49_1 := blk_frozen BK312.out 1
    go_wp2_with (first | (go_at_call 15; (with_reducible refine (wide_Sign.calls t309 t310 t313 _ A44.out).mono ?_); rintro e w50 ⟨rfl, hb⟩; have n0_ := kb BK301 hb; have n1_ := kb BK302 hb; have n2_ := kb BK303 hb; have n3_ := kb BK308 hb; have n4_ := Aside0.mk (blk_below (g := gb312) (o := .cells #[.int .i64 t309, .int .u64 t310] 24 (0, 0)) (by (with_reducible repeat (first | refine blk_drewN ?_ _ | refine blk_drew ?_ | refine blk_alloc ?_ _)); refine blk_put (cs := #[.int .i64 t309, .int .u64 0]) ?_ 1 _ rfl; (with_reducible repeat (first | refine blk_drewN ?_ _ | refine blk_drew ?_ | refine blk_alloc ?_ _)); refine blk_put (cs := #[.int .i64 0, .int .u64 0]) ?_ 0 _ rfl; (with_reducible repeat (first | refine blk_drewN ?_ _ | refine blk_drew ?_ | refine blk_alloc ?_ _)); exact BK312.out) hb); have n5_ := kB HB hb; clear BK301; clear BK302; clear BK303; clear BK308; clear BK312; clear HB; have BK301 := n0_; have BK302 := n1_; have BK303 := n2_; have BK308 := n3_; have BK312 := n4_; have HB := n5_; clear n0_ n1_ n2_ n3_ n4_ n5_; (try clear hb); (try clear hb2); (try clear hk); (try clear hi)))
    go_meet
    case rel => exact ⟨_, ((t313 == 0)), (by first | rfl | (simp; done) | (simp [*]; done)), H', ⟨by first | omega | exact Nat.le_refl _⟩, ⟨kx BK301⟩, ⟨kx BK302⟩, ⟨kx BK303⟩, ⟨kx BK308⟩, ⟨kx BK312⟩, ⟨ky HB⟩⟩
  case rest =>
    clear HC18; try clear c1; try clear c2; try clear p2; try clear c3; try clear c4; try clear c4b0; try clear c5; try clear c8; try clear c9; try clear c12; try clear c15; try clear c22; try clear c23; try clear c26; try clear c30; try clear c31; try clear c32; try clear c37; try clear c38; try clear c39; try clear c40; try clear c42; try clear c43; try clear c45; try clear c46; try clear c47; try clear c48; try clear c50; try clear hcz10_0; try clear hcz10_1; try clear hcz13_0; try clear hcz13_1; try clear hcz14_0; try clear hcz14_1; try clear hcz15_0; try clear hcz15_1; try clear hcz15_2; try clear hcz15_3; try clear hcz24_0; try clear hcz24_1; try clear hcz27_0; try clear hcz27_1; try clear hcz33_0; try clear hcz33_1; try clear hcz34_0; try clear hcz34_1; try clear hcz41_0; try clear hcz41_1; try clear hcz49_0; try clear hcz49_1; try clear hfz10_0; try clear hfz10_1; try clear hfz13_0; try clear hfz13_1; try clear hfz14_0; try clear hfz14_1; try clear hfz15_0; try clear hfz15_1; try clear hfz15_2; try clear hfz15_3; try clear hfz24_0; try clear hfz24_1; try clear hfz27_0; try clear hfz27_1; try clear hfz33_0; try clear hfz33_1; try clear hfz34_0; try clear hfz34_1; try clear hfz41_0; try clear hfz41_1; try clear hfz49_0; try clear hfz49_1
    obtain ⟨kq, x36_17, rfl, HA, HJ17, BK301, BK302, BK303, BK308, BK312, HB⟩ := hcut
    cases kq with
    | zero => exact absurd HA.out (by simp [frac_Make.j0])
    | succ kj17 =>
      have H := HA.out; clear HA
      simp only [frac_Make.j0] at H
      by_cases c51 : x36_17 = true
      · subst c51
        have H1 : (some (0, 0, 0, 0, false)) = some (r1, r2, r3, r4, r5) := by rw [if_pos rfl] at H; exact H
        clear H; have H := H1; clear H1
        simp only [Option.some.injEq, Prod.mk.injEq] at H
        obtain ⟨rfl, rfl, rfl, rfl, rfl⟩ := H
        have hnb52 := NB303_301.out; have hnc52 := NB301_303.out; have hnb53 := NB303_302.out; have hnc53 := NB302_303.out; have hnb54 := NB303_308.out; have hnc54 := NB308_303.out; have hnb55 := NB303_312.out; have hnc55 := NB312_303.out
        have hcz56_0 : wc.cell? ⟨gb303, 0, none⟩ = some (.int .i64 0) := kc BK303 0
        have hcz56_1 : wc.cell? ⟨gb303, 1, none⟩ = some (.int .u64 0) := kc BK303 1
        have hcz56_2 : wc.cell? ⟨gb303, 2, none⟩ = some (.int .i64 0) := kc BK303 2
        have hcz56_3 : wc.cell? ⟨gb303, 3, none⟩ = some (.int .u64 0) := kc BK303 3
        have hfz56_0 := blk_frozen BK303.out 0
        have hfz56_1 := blk_frozen BK303.out 1
        have hfz56_2 := blk_frozen BK303.out 2
        have hfz56_3 := blk_frozen BK303.out 3
        go_wp2
        refine bodyPost_ret (results_ct rfl _ _ gb303 26 #[.int .i64 0, .int .u64 0, .int .i64 0, .int .u64 0] (0, 0) _ rfl (by (with_reducible repeat (first | refine blk_drewN ?_ _ | refine blk_drew ?_ | refine blk_alloc ?_ _)); refine blk_put (cs := #[.int .i64 0, .int .u64 0, .int .i64 0, .int .u64 0]) ?_ 3 _ rfl; (with_reducible repeat (first | refine blk_drewN ?_ _ | refine blk_drew ?_ | refine blk_alloc ?_ _)); refine blk_put (cs := #[.int .i64 0, .int .u64 0, .int .i64 0, .int .u64 0]) ?_ 2 _ rfl; (with_reducible repeat (first | refine blk_drewN ?_ _ | refine blk_drew ?_ | refine blk_alloc ?_ _)); refine blk_put (cs := #[.int .i64 0, .int .u64 0, .int .i64 0, .int .u64 0]) ?_ 1 _ rfl; (with_reducible repeat (first | refine blk_drewN ?_ _ | refine blk_drew ?_ | refine blk_alloc ?_ _)); refine blk_put (cs := #[.int .i64 0, .int .u64 0, .int .i64 0, .int .u64 0]) ?_ 0 _ rfl; (with_reducible repeat (first | refine blk_drewN ?_ _ | refine blk_drew ?_ | refine blk_alloc ?_ _)); exact BK303.out) Try.underlying26 rfl (by kernel_rfl)) rfl ?_
        exact ⟨by first | rfl | (simp [errW_none, errW_some] <;> rfl) | (simp [*, errW_none, errW_some] <;> rfl), ky HB⟩
      replace c51 := Bool.eq_false_iff.mpr c51
      subst c51
      have H1 : (some (t305, t306, t309, t310, true)) = some (r1, r2, r3, r4, r5) := by rw [if_neg (show ¬ (false = true) by decide)] at H; exact H
      clear H; have H := H1; clear H1
      simp only [Option.some.injEq, Prod.mk.injEq] at H
      obtain ⟨rfl, rfl, rfl, rfl, rfl⟩ := H
      have hnb57 := NB308_301.out; have hnc57 := NB301_308.out; have hnb58 := NB308_302.out; have hnc58 := NB302_308.out; have hnb59 := NB308_303.out; have hnc59 := NB303_308.out; have hnb60 := NB308_312.out; have hnc60 := NB312_308.out
      have hcz61_0 : wc.cell? ⟨gb308, 0, none⟩ = some (.int .i64 t305) := kc BK308 0
      have hcz61_1 : wc.cell? ⟨gb308, 1, none⟩ = some (.int .u64 t306) := kc BK308 1
      have hfz61_0 := blk_frozen BK308.out 0
      have hfz61_1 := blk_frozen BK308.out 1
      have hnb62 := NB312_301.out; have hnc62 := NB301_312.out; have hnb63 := NB312_302.out; have hnc63 := NB302_312.out; have hnb64 := NB312_303.out; have hnc64 := NB303_312.out
      have hcz65_0 : wc.cell? ⟨gb312, 0, none⟩ = some (.int .i64 t309) := kc BK312 0
      have hcz65_1 : wc.cell? ⟨gb312, 1, none⟩ = some (.int .u64 t310) := kc BK312 1
      have hfz65_0 := blk_frozen BK312.out 0
      have hfz65_1 := blk_frozen BK312.out 1
      have hnb66 := NB303_301.out; have hnc66 := NB301_303.out; have hnb67 := NB303_302.out; have hnc67 := NB302_303.out
      have hcz68_0 : wc.cell? ⟨gb303, 0, none⟩ = some (.int .i64 0) := kc BK303 0
      have hcz68_1 : wc.cell? ⟨gb303, 1, none⟩ = some (.int .u64 0) := kc BK303 1
      have hcz68_2 : wc.cell? ⟨gb303, 2, none⟩ = some (.int .i64 0) := kc BK303 2
      have hcz68_3 : wc.cell? ⟨gb303, 3, none⟩ = some (.int .u64 0) := kc BK303 3
      have hfz68_0 := blk_frozen BK303.out 0
      have hfz68_1 := blk_frozen BK303.out 1
      have hfz68_2 := blk_frozen BK303.out 2
      have hfz68_3 := blk_frozen BK303.out 3
      go_wp2
      refine bodyPost_ret (results_ct rfl _ _ gb303 26 #[.int .i64 t305, .int .u64 t306, .int .i64 t309, .int .u64 t310] (0, 0) _ rfl (by (with_reducible repeat (first | refine blk_drewN ?_ _ | refine blk_drew ?_ | refine blk_alloc ?_ _)); refine blk_put (cs := #[.int .i64 t305, .int .u64 t306, .int .i64 t309, .int .u64 0]) ?_ 3 _ rfl; (with_reducible repeat (first | refine blk_drewN ?_ _ | refine blk_drew ?_ | refine blk_alloc ?_ _)); refine blk_put (cs := #[.int .i64 t305, .int .u64 t306, .int .i64 0, .int .u64 0]) ?_ 2 _ rfl; (with_reducible repeat (first | refine blk_drewN ?_ _ | refine blk_drew ?_ | refine blk_alloc ?_ _)); refine blk_put (cs := #[.int .i64 t305, .int .u64 0, .int .i64 0, .int .u64 0]) ?_ 1 _ rfl; (with_reducible repeat (first | refine blk_drewN ?_ _ | refine blk_drew ?_ | refine blk_alloc ?_ _)); refine blk_put (cs := #[.int .i64 0, .int .u64 0, .int .i64 0, .int .u64 0]) ?_ 0 _ rfl; (with_reducible repeat (first | refine blk_drewN ?_ _ | refine blk_drew ?_ | refine blk_alloc ?_ _)); exact BK303.out) Try.underlying26 rfl (by kernel_rfl)) rfl ?_
      exact ⟨by first | rfl | (simp [errW_none, errW_some] <;> rfl) | (simp [*, errW_none, errW_some] <;> rfl), ky HB⟩

end Go.Proofs.Ytpjbniihdndlmab.Q
