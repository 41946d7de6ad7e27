-- Printed by wip/pp.sh (a session's own turning of the kit's print) for this seat.
import Derived.Test.YtpjbniihdndlmabQx0
import Derived.Test.YtpjbniihdndlmabQx12
import Derived.Test.YtpjbniihdndlmabQx13
import Derived.Test.YtpjbniihdndlmabQx27
import Derived.Test.YtpjbniihdndlmabQx28
namespace Go.Proofs.Ytpjbniihdndlmab.Q
open Go.RowKit Go.Proofs.YtpjbniihdndlmabW.PrintWords Go.Proofs.YtpjbniihdndlmabW.PrintLast Go.Proofs.YtpjbniihdndlmabW.PrintMore
open Go.Proofs.Ytpjbniihdndlmab.H
attribute [local go_sem] hq_add64 hq_sub64 hq_not64 add64c_nn sub64c_nn sub64c_le
attribute [local go_sem] max2_int min2_int max_two min_two max_three min_three max_four min_four   -- for this text's walks alone
set_option linter.unusedVariables false
set_option linter.unusedSimpArgs false

/-! ### frac_up: function 57 -/
def frac_up.f (k : Nat) (a0_0 : Int) (a0_1 : Int) (a1_0 : Int) (a1_1 : Int) (a2_0 : Int) (a2_1 : Int) : Option (Int × Int) := (wide_Sub.f a2_0 a2_1 a1_0 a1_1).bind fun bt248 => ((wide_Cmp.f k a1_0 a1_1 bt248.1 bt248.2.1).bind fun t252 => (if t252 ≥ 0 then ((wide_Of.f 1).bind fun bt253 => ((wide_Add.f a0_0 a0_1 bt253.1 bt253.2).bind fun bt255 => (some (bt255.1, bt255.2.1)))) else (some (a0_0, a0_1))))
theorem frac_up.mono : ∀ a0 a1 a2 a3 a4 a5 k, LeO (frac_up.f k a0 a1 a2 a3 a4 a5) (frac_up.f (k + 1) a0 a1 a2 a3 a4 a5) := by
  intro a0 a1 a2 a3 a4 a5 k
  unfold frac_up.f
  repeat' first
      | (with_reducible exact wide_Cmp.mono _ _ _ _ _)
      | (with_reducible exact LeO.refl _)
      | (with_reducible exact LeO.none _)
      | (with_reducible refine LeO.ite ?_ ?_)
      | (with_reducible refine LeO.bind ?_ (fun _ => ?_))
      | exact wide_Cmp.mono _ _ _ _ _
      | exact LeO.none _
      | refine LeO.ite ?_ ?_
      | refine LeO.bind ?_ (fun _ => ?_)
set_option maxHeartbeats 8000000 in
set_option maxRecDepth 100000 in
theorem frac_up.calls (k : Nat) (a0_0 : Int) (a0_1 : Int) (a1_0 : Int) (a1_1 : Int) (a2_0 : Int) (a2_1 : Int) (r1 : Int) (r2 : Int) (w : World) (h : frac_up.f k a0_0 a0_1 a1_0 a1_1 a2_0 a2_1 = some (r1, r2)) :
    Calls Try.prog 57 #[.agg #[.int .i64 a0_0, .int .u64 a0_1], .agg #[.int .i64 a1_0, .int .u64 a1_1], .agg #[.int .i64 a2_0, .int .u64 a2_1]] w fun e w' => e = .returned (.agg #[.int .i64 r1, .int .u64 r2]) ∧ Below w.heap.size w w' := by
  have hu24 := Try.underlying24
  have HB := Aside0.mk (Below.refl w.heap.size w)
  have H : ((wide_Sub.f a2_0 a2_1 a1_0 a1_1).bind fun bt248 => ((wide_Cmp.f k a1_0 a1_1 bt248.1 bt248.2.1).bind fun t252 => (if t252 ≥ 0 then ((wide_Of.f 1).bind fun bt253 => ((wide_Add.f a0_0 a0_1 bt253.1 bt253.2).bind fun bt255 => (some (bt255.1, bt255.2.1)))) else (some (a0_0, a0_1))))) = some (r1, r2) := h
  clear h
  replace H := Option.bind_eq_some_iff.mp H
  obtain ⟨⟨t248, t249, t250⟩, A40, H⟩ := H
  replace H : ((wide_Cmp.f k a1_0 a1_1 t248 t249).bind fun t252 => (if t252 ≥ 0 then ((wide_Of.f 1).bind fun bt253 => ((wide_Add.f a0_0 a0_1 bt253.1 bt253.2).bind fun bt255 => (some (bt255.1, bt255.2.1)))) else (some (a0_0, a0_1)))) = some (r1, r2) := H
  have A4 := Aside0.mk A40
  clear A40
  replace H := Option.bind_eq_some_iff.mp H
  obtain ⟨t252, A50, H⟩ := H
  replace H : (if t252 ≥ 0 then ((wide_Of.f 1).bind fun bt253 => ((wide_Add.f a0_0 a0_1 bt253.1 bt253.2).bind fun bt255 => (some (bt255.1, bt255.2.1)))) else (some (a0_0, a0_1))) = some (r1, r2) := H
  have A5 := Aside0.mk A50
  clear A50
  by_cases c6 : t252 ≥ 0
  rotate_left
  · rw [if_neg c6] at H
    have c6b0 : decide (0 ≤ t252) = false := decide_eq_false c6
    clear c6
    simp only [Option.some.injEq, Prod.mk.injEq] at H
    obtain ⟨rfl, rfl⟩ := H
    go_enter Try.func57, Try.ntmps57
    go_wp2_with (first | ((with_reducible refine gate_dst (N := 3) rfl ?_); refine box_event ?hg (N := 3) ?hd (cs := #[.int .i64 a0_0, .int .u64 a0_1]) (t := 24) ?hr ?_; (case hd => rfl); (case hg => rfl); (case hr => first | (go_simp; done) | (go_simp; rfl)); intro gb244 hg w37 hbox hb; have BK244 := Aside0.mk (hbox); have GW244 := kS HB hg; have GE244 := kS HB hg; replace HB := kB HB hb; clear hb hbox hg) | ((with_reducible refine gate_dst (N := 4) rfl ?_); refine box_event ?hg (N := 4) ?hd (cs := #[.int .i64 a1_0, .int .u64 a1_1]) (t := 24) ?hr ?_; (case hd => rfl); (case hg => rfl); (case hr => first | (go_simp; done) | (go_simp; rfl)); intro gb245 hg w38 hbox hb; have BK245 := Aside0.mk (hbox); have GW245 := kS HB hg; have GE245 := kS HB hg; have NB244_245 := kN BK244 hg; have NB245_244 := kM BK244 hg; replace BK244 := kb BK244 hb; replace HB := kB HB hb; clear hb hbox hg) | ((with_reducible refine gate_dst (N := 5) rfl ?_); refine box_event ?hg (N := 5) ?hd (cs := #[.int .i64 a2_0, .int .u64 a2_1]) (t := 24) ?hr ?_; (case hd => rfl); (case hg => rfl); (case hr => first | (go_simp; done) | (go_simp; rfl)); intro gb246 hg w39 hbox hb; have BK246 := Aside0.mk (hbox); have GW246 := kS HB hg; have GE246 := kS HB hg; have NB244_246 := kN BK244 hg; have NB246_244 := kM BK244 hg; have NB245_246 := kN BK245 hg; have NB246_245 := kM BK245 hg; replace BK244 := kb BK244 hb; replace BK245 := kb BK245 hb; replace HB := kB HB hb; clear hb hbox hg) | ((with_reducible refine gate_dst (N := 6) rfl ?_); refine box_event ?hg (N := 6) ?hd (cs := #[.int .i64 0, .int .u64 0]) (t := 24) ?hr ?_; (case hd => rfl); (case hg => rfl); (case hr => first | (go_simp; done) | (go_simp; rfl)); intro gb247 hg w40 hbox hb; have BK247 := Aside0.mk (hbox); have GW247 := kS HB hg; have GE247 := kS HB hg; have NB244_247 := kN BK244 hg; have NB247_244 := kM BK244 hg; have NB245_247 := kN BK245 hg; have NB247_245 := kM BK245 hg; have NB246_247 := kN BK246 hg; have NB247_246 := kM BK246 hg; replace BK244 := kb BK244 hb; replace BK245 := kb BK245 hb; replace BK246 := kb BK246 hb; replace HB := kB HB hb; clear hb hbox hg; have hnb41 := NB246_244.out; have hnc41 := NB244_246.out; have hnb42 := NB246_245.out; have hnc42 := NB245_246.out; have hnb43 := NB246_247.out; have hnc43 := NB247_246.out; have hcz44_0 : w40.cell? ⟨gb246, 0, none⟩ = some (.int .i64 a2_0) := kc BK246 0; have hcz44_1 : w40.cell? ⟨gb246, 1, none⟩ = some (.int .u64 a2_1) := kc BK246 1; have hfz44_0 := blk_frozen BK246.out 0; have hfz44_1 := blk_frozen BK246.out 1; have hnb45 := NB245_244.out; have hnc45 := NB244_245.out; have hnb46 := NB245_247.out; have hnc46 := NB247_245.out; have hcz47_0 : w40.cell? ⟨gb245, 0, none⟩ = some (.int .i64 a1_0) := kc BK245 0; have hcz47_1 : w40.cell? ⟨gb245, 1, none⟩ = some (.int .u64 a1_1) := kc BK245 1; have hfz47_0 := blk_frozen BK245.out 0; have hfz47_1 := blk_frozen BK245.out 1) | ((with_reducible refine gate_callee (f := 31) rfl ?_); refine goesL_ (some 12) rfl rfl Try.func31 (by kernel_rfl) rfl #[.agg #[.int .i64 a2_0, .int .u64 a2_1], .agg #[.int .i64 a1_0, .int .u64 a1_1]] rfl (by (try simp only [List.map_toArray, List.map_cons, List.map_nil]); first | done | rfl | (simp only [List.length_drop, List.length_take]; rfl)) ?_; (with_reducible refine (wide_Sub.calls a2_0 a2_1 a1_0 a1_1 t248 t249 t250 _ A4.out).mono ?_); rintro e w48 ⟨rfl, hb⟩; refine ⟨_, rfl, ?_⟩; replace BK244 := kb BK244 hb; replace BK245 := kb BK245 hb; replace BK246 := kb BK246 hb; replace BK247 := kb BK247 hb; replace HB := kB HB hb; (try clear hb); (try clear hb2); (try clear hk); (try clear hi)) | ((with_reducible refine gate_dst (N := 7) rfl ?_); refine box_event ?hg (N := 7) ?hd (cs := #[.int .i64 0, .int .u64 0]) (t := 24) ?hr ?_; (case hd => rfl); (case hg => rfl); (case hr => first | (go_simp; done) | (go_simp; rfl)); intro gb251 hg w49 hbox hb; have BK251 := Aside0.mk (hbox); have GW251 := kS HB hg; have GE251 := kS HB hg; have NB244_251 := kN BK244 hg; have NB251_244 := kM BK244 hg; have NB245_251 := kN BK245 hg; have NB251_245 := kM BK245 hg; have NB246_251 := kN BK246 hg; have NB251_246 := kM BK246 hg; have NB247_251 := kN BK247 hg; have NB251_247 := kM BK247 hg; replace BK244 := kb BK244 hb; replace BK245 := kb BK245 hb; replace BK246 := kb BK246 hb; replace BK247 := kb BK247 hb; replace HB := kB HB hb; clear hb hbox hg; have hnb50 := NB251_244.out; have hnc50 := NB244_251.out; have hnb51 := NB251_245.out; have hnc51 := NB245_251.out; have hnb52 := NB251_246.out; have hnc52 := NB246_251.out; have hnb53 := NB251_247.out; have hnc53 := NB247_251.out; have hcz54_0 : w49.cell? ⟨gb251, 0, none⟩ = some (.int .i64 0) := kc BK251 0; have hcz54_1 : w49.cell? ⟨gb251, 1, none⟩ = some (.int .u64 0) := kc BK251 1; have hfz54_0 := blk_frozen BK251.out 0; have hfz54_1 := blk_frozen BK251.out 1; have hcz55_0 : w49.cell? ⟨gb245, 0, none⟩ = some (.int .i64 a1_0) := kc BK245 0; have hcz55_1 : w49.cell? ⟨gb245, 1, none⟩ = some (.int .u64 a1_1) := kc BK245 1; have hfz55_0 := blk_frozen BK245.out 0; have hfz55_1 := blk_frozen BK245.out 1) | ((with_reducible refine gate_callee (f := 29) rfl ?_); refine goesL_ (some 17) rfl rfl Try.func29 (by kernel_rfl) rfl #[.agg #[.int .i64 a1_0, .int .u64 a1_1], .agg #[.int .i64 t248, .int .u64 t249]] rfl (by (try simp only [List.map_toArray, List.map_cons, List.map_nil]); first | done | rfl | (simp only [List.length_drop, List.length_take]; rfl)) ?_; (with_reducible refine (wide_Cmp.calls k a1_0 a1_1 t248 t249 t252 _ A5.out).mono ?_); rintro e w56 ⟨rfl, hb⟩; refine ⟨_, rfl, ?_⟩; have n0_ := kb BK244 hb; have n1_ := kb BK245 hb; have n2_ := kb BK246 hb; have n3_ := kb BK247 hb; have n4_ := Aside0.mk (blk_below (g := gb251) (o := .cells #[.int .i64 t248, .int .u64 t249] 24 (0, 0)) (by (with_reducible repeat (first | refine blk_drewN ?_ _ | refine blk_drew ?_ | refine blk_alloc ?_ _)); refine blk_put (cs := #[.int .i64 t248, .int .u64 0]) ?_ 1 _ rfl; (with_reducible repeat (first | refine blk_drewN ?_ _ | refine blk_drew ?_ | refine blk_alloc ?_ _)); refine blk_put (cs := #[.int .i64 0, .int .u64 0]) ?_ 0 _ rfl; (with_reducible repeat (first | refine blk_drewN ?_ _ | refine blk_drew ?_ | refine blk_alloc ?_ _)); exact BK251.out) hb); have n5_ := kB HB hb; clear BK244; clear BK245; clear BK246; clear BK247; clear BK251; clear HB; have BK244 := n0_; have BK245 := n1_; have BK246 := n2_; have BK247 := n3_; have BK251 := n4_; have HB := n5_; clear n0_ n1_ n2_ n3_ n4_ n5_; (try clear hb); (try clear hb2); (try clear hk); (try clear hi); have hnb57 := NB244_247.out; have hnc57 := NB247_244.out; have hcz58_0 : w56.cell? ⟨gb244, 0, none⟩ = some (.int .i64 a0_0) := kc BK244 0; have hcz58_1 : w56.cell? ⟨gb244, 1, none⟩ = some (.int .u64 a0_1) := kc BK244 1; have hfz58_0 := blk_frozen BK244.out 0; have hfz58_1 := blk_frozen BK244.out 1; have hcz59_0 : w56.cell? ⟨gb247, 0, none⟩ = some (.int .i64 0) := kc BK247 0; have hcz59_1 : w56.cell? ⟨gb247, 1, none⟩ = some (.int .u64 0) := kc BK247 1; have hfz59_0 := blk_frozen BK247.out 0; have hfz59_1 := blk_frozen BK247.out 1))
    refine bodyPost_ret (results_cell_row rfl _ _ gb247 24 #[.int .i64 a0_0, .int .u64 a0_1] (0, 0) _ rfl (by (with_reducible repeat (first | refine blk_drewN ?_ _ | refine blk_drew ?_ | refine blk_alloc ?_ _)); refine blk_put (cs := #[.int .i64 a0_0, .int .u64 0]) ?_ 1 _ rfl; (with_reducible repeat (first | refine blk_drewN ?_ _ | refine blk_drew ?_ | refine blk_alloc ?_ _)); refine blk_put (cs := #[.int .i64 0, .int .u64 0]) ?_ 0 _ rfl; (with_reducible repeat (first | refine blk_drewN ?_ _ | refine blk_drew ?_ | refine blk_alloc ?_ _)); exact BK247.out) Try.underlying24 rfl (by kernel_rfl)) rfl ?_
    exact ⟨by first | rfl | (simp [errW_none, errW_some] <;> rfl) | (simp [*, errW_none, errW_some] <;> rfl), ky HB⟩

  rw [if_pos c6] at H
  have c6b0 : decide (0 ≤ t252) = true := decide_eq_true c6
  clear c6
  replace H := Option.bind_eq_some_iff.mp H
  obtain ⟨⟨t253, t254⟩, A70, H⟩ := H
  replace H : ((wide_Add.f a0_0 a0_1 t253 t254).bind fun bt255 => (some (bt255.1, bt255.2.1))) = some (r1, r2) := H
  have A7 := Aside0.mk A70
  clear A70
  replace H := Option.bind_eq_some_iff.mp H
  obtain ⟨⟨t255, t256, t257⟩, A80, H⟩ := H
  replace H : (some (t255, t256)) = some (r1, r2) := H
  have A8 := Aside0.mk A80
  clear A80
  simp only [Option.some.injEq, Prod.mk.injEq] at H
  obtain ⟨rfl, rfl⟩ := H
  go_enter Try.func57, Try.ntmps57
  try go_wp2_with (first | ((with_reducible refine gate_dst (N := 3) rfl ?_); refine box_event ?hg (N := 3) ?hd (cs := #[.int .i64 a0_0, .int .u64 a0_1]) (t := 24) ?hr ?_; (case hd => rfl); (case hg => rfl); (case hr => first | (go_simp; done) | (go_simp; rfl)); intro gb244 hg w9 hbox hb; have BK244 := Aside0.mk (hbox); have GW244 := kS HB hg; have GE244 := kS HB hg; replace HB := kB HB hb; clear hb hbox hg) | ((with_reducible refine gate_dst (N := 4) rfl ?_); refine box_event ?hg (N := 4) ?hd (cs := #[.int .i64 a1_0, .int .u64 a1_1]) (t := 24) ?hr ?_; (case hd => rfl); (case hg => rfl); (case hr => first | (go_simp; done) | (go_simp; rfl)); intro gb245 hg w10 hbox hb; have BK245 := Aside0.mk (hbox); have GW245 := kS HB hg; have GE245 := kS HB hg; have NB244_245 := kN BK244 hg; have NB245_244 := kM BK244 hg; replace BK244 := kb BK244 hb; replace HB := kB HB hb; clear hb hbox hg) | ((with_reducible refine gate_dst (N := 5) rfl ?_); refine box_event ?hg (N := 5) ?hd (cs := #[.int .i64 a2_0, .int .u64 a2_1]) (t := 24) ?hr ?_; (case hd => rfl); (case hg => rfl); (case hr => first | (go_simp; done) | (go_simp; rfl)); intro gb246 hg w11 hbox hb; have BK246 := Aside0.mk (hbox); have GW246 := kS HB hg; have GE246 := kS HB hg; have NB244_246 := kN BK244 hg; have NB246_244 := kM BK244 hg; have NB245_246 := kN BK245 hg; have NB246_245 := kM BK245 hg; replace BK244 := kb BK244 hb; replace BK245 := kb BK245 hb; replace HB := kB HB hb; clear hb hbox hg) | ((with_reducible refine gate_dst (N := 6) rfl ?_); refine box_event ?hg (N := 6) ?hd (cs := #[.int .i64 0, .int .u64 0]) (t := 24) ?hr ?_; (case hd => rfl); (case hg => rfl); (case hr => first | (go_simp; done) | (go_simp; rfl)); intro gb247 hg w12 hbox hb; have BK247 := Aside0.mk (hbox); have GW247 := kS HB hg; have GE247 := kS HB hg; have NB244_247 := kN BK244 hg; have NB247_244 := kM BK244 hg; have NB245_247 := kN BK245 hg; have NB247_245 := kM BK245 hg; have NB246_247 := kN BK246 hg; have NB247_246 := kM BK246 hg; replace BK244 := kb BK244 hb; replace BK245 := kb BK245 hb; replace BK246 := kb BK246 hb; replace HB := kB HB hb; clear hb hbox hg; have hnb13 := NB246_244.out; have hnc13 := NB244_246.out; have hnb14 := NB246_245.out; have hnc14 := NB245_246.out; have hnb15 := NB246_247.out; have hnc15 := NB247_246.out; have hcz16_0 : w12.cell? ⟨gb246, 0, none⟩ = some (.int .i64 a2_0) := kc BK246 0; have hcz16_1 : w12.cell? ⟨gb246, 1, none⟩ = some (.int .u64 a2_1) := kc BK246 1; have hfz16_0 := blk_frozen BK246.out 0; have hfz16_1 := blk_frozen BK246.out 1; have hnb17 := NB245_244.out; have hnc17 := NB244_245.out; have hnb18 := NB245_247.out; have hnc18 := NB247_245.out; have hcz19_0 : w12.cell? ⟨gb245, 0, none⟩ = some (.int .i64 a1_0) := kc BK245 0; have hcz19_1 : w12.cell? ⟨gb245, 1, none⟩ = some (.int .u64 a1_1) := kc BK245 1; have hfz19_0 := blk_frozen BK245.out 0; have hfz19_1 := blk_frozen BK245.out 1) | ((with_reducible refine gate_callee (f := 31) rfl ?_); refine goesL_ (some 12) rfl rfl Try.func31 (by kernel_rfl) rfl #[.agg #[.int .i64 a2_0, .int .u64 a2_1], .agg #[.int .i64 a1_0, .int .u64 a1_1]] rfl (by (try simp only [List.map_toArray, List.map_cons, List.map_nil]); first | done | rfl | (simp only [List.length_drop, List.length_take]; rfl)) ?_; (with_reducible refine (wide_Sub.calls a2_0 a2_1 a1_0 a1_1 t248 t249 t250 _ A4.out).mono ?_); rintro e w20 ⟨rfl, hb⟩; refine ⟨_, rfl, ?_⟩; replace BK244 := kb BK244 hb; replace BK245 := kb BK245 hb; replace BK246 := kb BK246 hb; replace BK247 := kb BK247 hb; replace HB := kB HB hb; (try clear hb); (try clear hb2); (try clear hk); (try clear hi)) | ((with_reducible refine gate_dst (N := 7) rfl ?_); refine box_event ?hg (N := 7) ?hd (cs := #[.int .i64 0, .int .u64 0]) (t := 24) ?hr ?_; (case hd => rfl); (case hg => rfl); (case hr => first | (go_simp; done) | (go_simp; rfl)); intro gb251 hg w21 hbox hb; have BK251 := Aside0.mk (hbox); have GW251 := kS HB hg; have GE251 := kS HB hg; have NB244_251 := kN BK244 hg; have NB251_244 := kM BK244 hg; have NB245_251 := kN BK245 hg; have NB251_245 := kM BK245 hg; have NB246_251 := kN BK246 hg; have NB251_246 := kM BK246 hg; have NB247_251 := kN BK247 hg; have NB251_247 := kM BK247 hg; replace BK244 := kb BK244 hb; replace BK245 := kb BK245 hb; replace BK246 := kb BK246 hb; replace BK247 := kb BK247 hb; replace HB := kB HB hb; clear hb hbox hg; have hnb22 := NB251_244.out; have hnc22 := NB244_251.out; have hnb23 := NB251_245.out; have hnc23 := NB245_251.out; have hnb24 := NB251_246.out; have hnc24 := NB246_251.out; have hnb25 := NB251_247.out; have hnc25 := NB247_251.out; have hcz26_0 : w21.cell? ⟨gb251, 0, none⟩ = some (.int .i64 0) := kc BK251 0; have hcz26_1 : w21.cell? ⟨gb251, 1, none⟩ = some (.int .u64 0) := kc BK251 1; have hfz26_0 := blk_frozen BK251.out 0; have hfz26_1 := blk_frozen BK251.out 1; have hcz27_0 : w21.cell? ⟨gb245, 0, none⟩ = some (.int .i64 a1_0) := kc BK245 0; have hcz27_1 : w21.cell? ⟨gb245, 1, none⟩ = some (.int .u64 a1_1) := kc BK245 1; have hfz27_0 := blk_frozen BK245.out 0; have hfz27_1 := blk_frozen BK245.out 1) | ((with_reducible refine gate_callee (f := 29) rfl ?_); refine goesL_ (some 17) rfl rfl Try.func29 (by kernel_rfl) rfl #[.agg #[.int .i64 a1_0, .int .u64 a1_1], .agg #[.int .i64 t248, .int .u64 t249]] rfl (by (try simp only [List.map_toArray, List.map_cons, List.map_nil]); first | done | rfl | (simp only [List.length_drop, List.length_take]; rfl)) ?_; (with_reducible refine (wide_Cmp.calls k a1_0 a1_1 t248 t249 t252 _ A5.out).mono ?_); rintro e w28 ⟨rfl, hb⟩; refine ⟨_, rfl, ?_⟩; have n0_ := kb BK244 hb; have n1_ := kb BK245 hb; have n2_ := kb BK246 hb; have n3_ := kb BK247 hb; have n4_ := Aside0.mk (blk_below (g := gb251) (o := .cells #[.int .i64 t248, .int .u64 t249] 24 (0, 0)) (by (with_reducible repeat (first | refine blk_drewN ?_ _ | refine blk_drew ?_ | refine blk_alloc ?_ _)); refine blk_put (cs := #[.int .i64 t248, .int .u64 0]) ?_ 1 _ rfl; (with_reducible repeat (first | refine blk_drewN ?_ _ | refine blk_drew ?_ | refine blk_alloc ?_ _)); refine blk_put (cs := #[.int .i64 0, .int .u64 0]) ?_ 0 _ rfl; (with_reducible repeat (first | refine blk_drewN ?_ _ | refine blk_drew ?_ | refine blk_alloc ?_ _)); exact BK251.out) hb); have n5_ := kB HB hb; clear BK244; clear BK245; clear BK246; clear BK247; clear BK251; clear HB; have BK244 := n0_; have BK245 := n1_; have BK246 := n2_; have BK247 := n3_; have BK251 := n4_; have HB := n5_; clear n0_ n1_ n2_ n3_ n4_ n5_; (try clear hb); (try clear hb2); (try clear hk); (try clear hi)))
  replace BK244 := Aside0.mk (blk_drew BK244.out)
  replace BK245 := Aside0.mk (blk_drew BK245.out)
  replace BK246 := Aside0.mk (blk_drew BK246.out)
  replace BK247 := Aside0.mk (blk_drew BK247.out)
  replace BK251 := Aside0.mk (blk_drew BK251.out)
  replace HB := Aside0.mk (below_drew1 HB.out)
  refine start_ (n := 7) (S := fun w' => w'.cell? ⟨gb244, 0, none⟩ = some (.int .i64 a0_0) ∧ w'.cell? ⟨gb244, 1, none⟩ = some (.int .u64 a0_1)) (ds := [6]) #[O, O, O, O, O, O, O] (by kernel_rfl) rfl rfl ⟨kc BK244 0, kc BK244 1⟩ (fun hHeld => ?_)
  generalize w28.drew = w29 at BK244 BK245 BK246 BK247 BK251 HB hHeld ⊢
  refine take_ (i := 0) (N := some 20) (v := ?_) (a' := ?_) #[T, O, O, O, O, O, O] rfl rfl (by kernel_rfl) (fun _ _ _ h => h) (Or.inl ⟨by rfl, ?_⟩) hHeld ?_ ?_; rotate_left; focus (rintro w' ⟨s0, s1⟩; go_simp; with_reducible rfl)
  rotate_left; focus (simp only [Act.put, s1, s2, s3, i64_w, i32_w]; rfl)
  refine one_ (i := 1) (N := some 21) #[T, T, O, O, O, O, O] rfl rfl (by kernel_rfl) (by decide) (fun K hK => ?_)
  refine goes_ Try.func24 (by kernel_rfl) rfl #[.int .i64 1] (by rfl) rfl rfl (by (try simp only [List.map_toArray, List.map_cons, List.map_nil]); first | done | rfl | (simp only [List.length_drop, List.length_take]; rfl)) ?_
  with_reducible refine (wide_Of.calls 1 t253 t254 _ A7.out).mono ?_
  rintro e w30 ⟨rfl, hb⟩
  refine ⟨_, rfl, ?_⟩
  replace BK244 := kb BK244 hb
  replace BK245 := kb BK245 hb
  replace BK246 := kb BK246 hb
  replace BK247 := kb BK247 hb
  replace BK251 := kb BK251 hb
  replace HB := kB HB hb
  (try clear hb); (try clear hb2); (try clear hk); (try clear hi)
  refine hK.out _ _ ⟨kc BK244 0, kc BK244 1⟩ (fun hHeld => ?_)
  clear hK K
  refine norm_ (a' := ?_) ?_ ?_; rotate_left; focus (show Act.put _ (some 21) _ = _; simp only [Act.put, s1, s2, s3, i64_w, i32_w]; rfl)
  refine one_ (i := 2) (N := some 22) #[T, T, T, O, O, O, O] rfl rfl (by kernel_rfl) (by decide) (fun K hK => ?_)
  refine goes_ Try.func25 (by kernel_rfl) rfl #[.agg #[.int .i64 a0_0, .int .u64 a0_1], .agg #[.int .i64 t253, .int .u64 t254]] (by rfl) rfl rfl (by (try simp only [List.map_toArray, List.map_cons, List.map_nil]); first | done | rfl | (simp only [List.length_drop, List.length_take]; rfl)) ?_
  with_reducible refine (wide_Add.calls a0_0 a0_1 t253 t254 t255 t256 t257 _ A8.out).mono ?_
  rintro e w31 ⟨rfl, hb⟩
  refine ⟨_, rfl, ?_⟩
  replace BK244 := kb BK244 hb
  replace BK245 := kb BK245 hb
  replace BK246 := kb BK246 hb
  replace BK247 := kb BK247 hb
  replace BK251 := kb BK251 hb
  replace HB := kB HB hb
  (try clear hb); (try clear hb2); (try clear hk); (try clear hi)
  refine hK.out _ _ ⟨kc BK244 0, kc BK244 1⟩ (fun hHeld => ?_)
  clear hK K
  refine norm_ (a' := ?_) ?_ ?_; rotate_left; focus (show Act.put _ (some 22) _ = _; simp only [Act.put, s1, s2, s3, i64_w, i32_w]; rfl)
  refine pure_ (i := 3) (N := some 19) (v := ?_) (a' := ?_) #[T, T, T, T, O, O, O] rfl rfl (by kernel_rfl) (fun _ _ _ h => h) (Or.inl ⟨by rfl, ?_⟩) ?_ ?_; rotate_left; focus (intro w'; go_simp; with_reducible rfl)
  rotate_left; focus (simp only [Act.put, s1, s2, s3, i64_w, i32_w]; rfl)
  refine pure_ (i := 4) (N := some 23) (v := ?_) (a' := ?_) #[T, T, T, T, T, O, O] rfl rfl (by kernel_rfl) (fun _ _ _ h => h) (Or.inl ⟨by rfl, ?_⟩) ?_ ?_; rotate_left; focus (intro w'; go_simp; with_reducible rfl)
  rotate_left; focus (simp only [Act.put, s1, s2, s3, i64_w, i32_w]; rfl)
  refine pure_ (i := 5) (N := some 24) (v := ?_) (a' := ?_) #[T, T, T, T, T, T, O] rfl rfl (by kernel_rfl) (fun _ _ _ h => h) (Or.inl ⟨by rfl, ?_⟩) ?_ ?_; rotate_left; focus (intro w'; go_simp; with_reducible rfl)
  rotate_left; focus (simp only [Act.put, s1, s2, s3, i64_w, i32_w]; rfl)
  refine last_ (i := 6) (N := none) #[T, T, T, T, T, T, T] rfl rfl (by kernel_rfl) (by decide) (fun K hK => ?_)
  have hs32 : w31.cell? ⟨gb244, 0, none⟩ = some (.int .i64 a0_0) := kc BK244 0
  have hfs32 := blk_frozen BK244.out 0
  have hns32_1 := NB245_244.out; have hns32_2 := NB246_244.out; have hns32_3 := NB247_244.out; have hns32_4 := NB251_244.out; have hms32_1 := NB244_245.out; have hms32_2 := NB244_246.out; have hms32_3 := NB244_247.out; have hms32_4 := NB244_251.out
  have hs33 : w31.cell? ⟨gb244, 1, none⟩ = some (.int .u64 a0_1) := kc BK244 1
  have hfs33 := blk_frozen BK244.out 1
  have hns33_1 := NB245_244.out; have hns33_2 := NB246_244.out; have hns33_3 := NB247_244.out; have hns33_4 := NB251_244.out; have hms33_1 := NB244_245.out; have hms33_2 := NB244_246.out; have hms33_3 := NB244_247.out; have hms33_4 := NB244_251.out
  refine skip_ (w1 := ?_) (by rfl) rfl ?_ ?_
  rotate_left
  · go_simp
    rfl
  refine hK.out _ _ ?_
  clear hK K
  refine done_ (by kernel_rfl) ?_
  have hnb34 := NB244_247.out; have hnc34 := NB247_244.out
  have hcz35_0 : w31.cell? ⟨gb244, 0, none⟩ = some (.int .i64 a0_0) := kc BK244 0
  have hcz35_1 : w31.cell? ⟨gb244, 1, none⟩ = some (.int .u64 a0_1) := kc BK244 1
  have hfz35_0 := blk_frozen BK244.out 0
  have hfz35_1 := blk_frozen BK244.out 1
  have hcz36_0 : w31.cell? ⟨gb247, 0, none⟩ = some (.int .i64 0) := kc BK247 0
  have hcz36_1 : w31.cell? ⟨gb247, 1, none⟩ = some (.int .u64 0) := kc BK247 1
  have hfz36_0 := blk_frozen BK247.out 0
  have hfz36_1 := blk_frozen BK247.out 1
  try go_wp2
  refine bodyPost_ret (results_cell_row rfl _ _ gb247 24 #[.int .i64 t255, .int .u64 t256] (0, 0) _ rfl (by (with_reducible repeat (first | refine blk_drewN ?_ _ | refine blk_drew ?_ | refine blk_alloc ?_ _)); refine blk_put (cs := #[.int .i64 t255, .int .u64 0]) ?_ 1 _ rfl; (with_reducible repeat (first | refine blk_drewN ?_ _ | refine blk_drew ?_ | refine blk_alloc ?_ _)); refine blk_put (cs := #[.int .i64 0, .int .u64 0]) ?_ 0 _ rfl; (with_reducible repeat (first | refine blk_drewN ?_ _ | refine blk_drew ?_ | refine blk_alloc ?_ _)); refine blk_far ?_ NB247_244.out _; (with_reducible repeat (first | refine blk_drewN ?_ _ | refine blk_drew ?_ | refine blk_alloc ?_ _)); refine blk_far ?_ NB247_244.out _; (with_reducible repeat (first | refine blk_drewN ?_ _ | refine blk_drew ?_ | refine blk_alloc ?_ _)); exact BK247.out) Try.underlying24 rfl (by kernel_rfl)) rfl ?_
  exact ⟨by first | rfl | (simp [errW_none, errW_some] <;> rfl) | (simp [*, errW_none, errW_some] <;> rfl), ky HB⟩
end Go.Proofs.Ytpjbniihdndlmab.Q
