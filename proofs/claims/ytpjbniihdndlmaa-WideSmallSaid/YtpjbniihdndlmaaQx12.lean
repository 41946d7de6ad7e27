-- Printed by wip/pp.sh (a session's own turning of the kit's print) for this seat.
import Derived.Test.YtpjbniihdndlmaaQx0
import Derived.Test.YtpjbniihdndlmaaQx1
import Derived.Test.YtpjbniihdndlmaaQx5
import Derived.Test.YtpjbniihdndlmaaQx7
import Derived.Test.YtpjbniihdndlmaaQx10
namespace Go.Proofs.Ytpjbniihdndlmaa.Q
open Go.RowKit Go.Proofs.YtpjbniihdndlmaaW.PrintWords Go.Proofs.YtpjbniihdndlmaaW.PrintLast Go.Proofs.YtpjbniihdndlmaaW.PrintMore
open Go.Proofs.Ytpjbniihdndlmaa.H
attribute [local go_sem] hq_add64 hq_sub64 hq_not64 add64c_nn sub64c_nn sub64c_le
attribute [local go_sem] max2_int min2_int max_two min_two max_three min_three max_four min_four   -- for this text's walks alone
set_option linter.unusedVariables false
set_option linter.unusedSimpArgs false

attribute [local go_sem high] eqA24
/-! ### wide_Add: function 29 -/
def wide_Add.f (a0_0 : Int) (a0_1 : Int) (a1_0 : Int) (a1_1 : Int) : Option (Int × Int × Bool) := (wide_wrap.f a0_0 a0_1 a1_0 a1_1).bind fun bt210 => (if ((decide (a0_0 < 0)) != (decide (a1_0 < 0))) = true then ((wide_told.f bt210.1 bt210.2 true).bind fun bt213 => (some (bt213.1, bt213.2.1, bt213.2.2))) else ((wide_told.f bt210.1 bt210.2 ((decide (a0_0 < 0)) == (decide (bt210.1 < 0)))).bind fun bt216 => (some (bt216.1, bt216.2.1, bt216.2.2))))
set_option maxHeartbeats 8000000 in
set_option maxRecDepth 100000 in
theorem wide_Add.calls (a0_0 : Int) (a0_1 : Int) (a1_0 : Int) (a1_1 : Int) (r1 : Int) (r2 : Int) (r3 : Bool) (w : World) (h : wide_Add.f a0_0 a0_1 a1_0 a1_1 = some (r1, r2, r3)) :
    Calls Try.prog 29 #[.agg #[.int .i64 a0_0, .int .u64 a0_1], .agg #[.int .i64 a1_0, .int .u64 a1_1]] w fun e w' => e = .returned (.tuple #[.agg #[.int .i64 r1, .int .u64 r2], .bool r3]) ∧ Below w.heap.size w w' := by
  have hu24 := Try.underlying24
  have HB := Aside0.mk (Below.refl w.heap.size w)
  have H : ((wide_wrap.f a0_0 a0_1 a1_0 a1_1).bind fun bt210 => (if ((decide (a0_0 < 0)) != (decide (a1_0 < 0))) = true then ((wide_told.f bt210.1 bt210.2 true).bind fun bt213 => (some (bt213.1, bt213.2.1, bt213.2.2))) else ((wide_told.f bt210.1 bt210.2 ((decide (a0_0 < 0)) == (decide (bt210.1 < 0)))).bind fun bt216 => (some (bt216.1, bt216.2.1, bt216.2.2))))) = some (r1, r2, r3) := h
  clear h
  replace H := Option.bind_eq_some_iff.mp H
  obtain ⟨⟨t210, t211⟩, A30, H⟩ := H
  replace H : (if ((decide (a0_0 < 0)) != (decide (a1_0 < 0))) = true then ((wide_told.f t210 t211 true).bind fun bt213 => (some (bt213.1, bt213.2.1, bt213.2.2))) else ((wide_told.f t210 t211 ((decide (a0_0 < 0)) == (decide (t210 < 0)))).bind fun bt216 => (some (bt216.1, bt216.2.1, bt216.2.2)))) = some (r1, r2, r3) := H
  have A3 := Aside0.mk A30
  clear A30
  by_cases c4 : ((decide (a0_0 < 0)) != (decide (a1_0 < 0))) = true
  · rw [if_pos c4] at H
    have c4b0 : ((decide (a0_0 < 0)) != (decide (a1_0 < 0))) = true := c4
    (try (have c4b1 : decide ((decide (a0_0 < 0)) = (decide (a1_0 < 0))) = false := by simpa using c4))
    (try (have c4b2 : ((decide (a0_0 < 0)) == (decide (a1_0 < 0))) = false := by simpa using c4))
    (try (have c4b3 : ¬ ((decide (a0_0 < 0)) = (decide (a1_0 < 0))) := by simpa using c4))
    clear c4
    replace H := Option.bind_eq_some_iff.mp H
    obtain ⟨⟨t213, t214, t215⟩, A50, H⟩ := H
    replace H : (some (t213, t214, t215)) = some (r1, r2, r3) := H
    have A5 := Aside0.mk A50
    clear A50
    simp only [Option.some.injEq, Prod.mk.injEq] at H
    obtain ⟨rfl, rfl, rfl⟩ := H
    go_enter Try.func29, Try.ntmps29
    go_wp2_with (first | ((with_reducible refine gate_dst (N := 2) rfl ?_); refine box_event ?hg (N := 2) ?hd (cs := #[.int .i64 a0_0, .int .u64 a0_1]) (t := 24) ?hr ?_; (case hd => rfl); (case hg => rfl); (case hr => first | (go_simp; done) | (go_simp; rfl)); intro gb207 hg w6 hbox hb; have BK207 := Aside0.mk (hbox); have GW207 := kS HB hg; have GE207 := kS HB hg; replace HB := kB HB hb; clear hb hbox hg) | ((with_reducible refine gate_dst (N := 3) rfl ?_); refine box_event ?hg (N := 3) ?hd (cs := #[.int .i64 a1_0, .int .u64 a1_1]) (t := 24) ?hr ?_; (case hd => rfl); (case hg => rfl); (case hr => first | (go_simp; done) | (go_simp; rfl)); intro gb208 hg w7 hbox hb; have BK208 := Aside0.mk (hbox); have GW208 := kS HB hg; have GE208 := kS HB hg; have NB207_208 := kN BK207 hg; have NB208_207 := kM BK207 hg; replace BK207 := kb BK207 hb; replace HB := kB HB hb; clear hb hbox hg) | ((with_reducible refine gate_dst (N := 4) rfl ?_); refine box_event ?hg (N := 4) ?hd (cs := #[.int .i64 0, .int .u64 0]) (t := 24) ?hr ?_; (case hd => rfl); (case hg => rfl); (case hr => first | (go_simp; done) | (go_simp; rfl)); intro gb209 hg w8 hbox hb; have BK209 := Aside0.mk (hbox); have GW209 := kS HB hg; have GE209 := kS HB hg; have NB207_209 := kN BK207 hg; have NB209_207 := kM BK207 hg; have NB208_209 := kN BK208 hg; have NB209_208 := kM BK208 hg; replace BK207 := kb BK207 hb; replace BK208 := kb BK208 hb; replace HB := kB HB hb; clear hb hbox hg; have hnb9 := NB207_208.out; have hnc9 := NB208_207.out; have hnb10 := NB207_209.out; have hnc10 := NB209_207.out; have hcz11_0 : w8.cell? ⟨gb207, 0, none⟩ = some (.int .i64 a0_0) := kc BK207 0; have hcz11_1 : w8.cell? ⟨gb207, 1, none⟩ = some (.int .u64 a0_1) := kc BK207 1; have hfz11_0 := blk_frozen BK207.out 0; have hfz11_1 := blk_frozen BK207.out 1; have hnb12 := NB208_209.out; have hnc12 := NB209_208.out; have hcz13_0 : w8.cell? ⟨gb208, 0, none⟩ = some (.int .i64 a1_0) := kc BK208 0; have hcz13_1 : w8.cell? ⟨gb208, 1, none⟩ = some (.int .u64 a1_1) := kc BK208 1; have hfz13_0 := blk_frozen BK208.out 0; have hfz13_1 := blk_frozen BK208.out 1) | ((with_reducible refine gate_callee (f := 65) rfl ?_); refine goesL_ (some 9) rfl rfl Try.func65 (by kernel_rfl) rfl #[.agg #[.int .i64 a0_0, .int .u64 a0_1], .agg #[.int .i64 a1_0, .int .u64 a1_1]] rfl (by (try simp only [List.map_toArray, List.map_cons, List.map_nil]); first | done | rfl | (simp only [List.length_drop, List.length_take]; rfl)) ?_; (with_reducible refine (wide_wrap.calls a0_0 a0_1 a1_0 a1_1 t210 t211 _ A3.out).mono ?_); rintro e w14 ⟨rfl, hb⟩; refine ⟨_, rfl, ?_⟩; replace BK207 := kb BK207 hb; replace BK208 := kb BK208 hb; replace BK209 := kb BK209 hb; replace HB := kB HB hb; (try clear hb); (try clear hb2); (try clear hk); (try clear hi)) | ((with_reducible refine gate_dst (N := 6) rfl ?_); refine box_event ?hg (N := 6) ?hd (cs := #[.int .i64 0, .int .u64 0]) (t := 24) ?hr ?_; (case hd => rfl); (case hg => rfl); (case hr => first | (go_simp; done) | (go_simp; rfl)); intro gb212 hg w15 hbox hb; have BK212 := Aside0.mk (hbox); have GW212 := kS HB hg; have GE212 := kS HB hg; have NB207_212 := kN BK207 hg; have NB212_207 := kM BK207 hg; have NB208_212 := kN BK208 hg; have NB212_208 := kM BK208 hg; have NB209_212 := kN BK209 hg; have NB212_209 := kM BK209 hg; replace BK207 := kb BK207 hb; replace BK208 := kb BK208 hb; replace BK209 := kb BK209 hb; replace HB := kB HB hb; clear hb hbox hg; have hnb16 := NB212_207.out; have hnc16 := NB207_212.out; have hnb17 := NB212_208.out; have hnc17 := NB208_212.out; have hnb18 := NB212_209.out; have hnc18 := NB209_212.out; have hcz19_0 : w15.cell? ⟨gb212, 0, none⟩ = some (.int .i64 0) := kc BK212 0; have hcz19_1 : w15.cell? ⟨gb212, 1, none⟩ = some (.int .u64 0) := kc BK212 1; have hfz19_0 := blk_frozen BK212.out 0; have hfz19_1 := blk_frozen BK212.out 1; have hcz20_0 : w15.cell? ⟨gb207, 0, none⟩ = some (.int .i64 a0_0) := kc BK207 0; have hcz20_1 : w15.cell? ⟨gb207, 1, none⟩ = some (.int .u64 a0_1) := kc BK207 1; have hfz20_0 := blk_frozen BK207.out 0; have hfz20_1 := blk_frozen BK207.out 1; have hcz21_0 : w15.cell? ⟨gb208, 0, none⟩ = some (.int .i64 a1_0) := kc BK208 0; have hcz21_1 : w15.cell? ⟨gb208, 1, none⟩ = some (.int .u64 a1_1) := kc BK208 1; have hfz21_0 := blk_frozen BK208.out 0; have hfz21_1 := blk_frozen BK208.out 1) | ((with_reducible refine gate_callee (f := 59) rfl ?_); refine goesL_ (some 27) rfl rfl Try.func59 (by kernel_rfl) rfl #[.agg #[.int .i64 t210, .int .u64 t211], .bool true] rfl (by (try simp only [List.map_toArray, List.map_cons, List.map_nil]); first | done | rfl | (simp only [List.length_drop, List.length_take]; rfl)) ?_; (with_reducible refine (wide_told.calls t210 t211 true t213 t214 t215 _ A5.out).mono ?_); rintro e w22 ⟨rfl, hb⟩; refine ⟨_, rfl, ?_⟩; have n0_ := kb BK207 hb; have n1_ := kb BK208 hb; have n2_ := kb BK209 hb; have n3_ := Aside0.mk (blk_below (g := gb212) (o := .cells #[.int .i64 t210, .int .u64 t211] 24 (0, 0)) (by (with_reducible repeat (first | refine blk_drewN ?_ _ | refine blk_drew ?_ | refine blk_alloc ?_ _)); refine blk_put (cs := #[.int .i64 t210, .int .u64 0]) ?_ 1 _ rfl; (with_reducible repeat (first | refine blk_drewN ?_ _ | refine blk_drew ?_ | refine blk_alloc ?_ _)); refine blk_put (cs := #[.int .i64 0, .int .u64 0]) ?_ 0 _ rfl; (with_reducible repeat (first | refine blk_drewN ?_ _ | refine blk_drew ?_ | refine blk_alloc ?_ _)); exact BK212.out) hb); have n4_ := kB HB hb; clear BK207; clear BK208; clear BK209; clear BK212; clear HB; have BK207 := n0_; have BK208 := n1_; have BK209 := n2_; have BK212 := n3_; have HB := n4_; clear n0_ n1_ n2_ n3_ n4_; (try clear hb); (try clear hb2); (try clear hk); (try clear hi); have hcz23_0 : w22.cell? ⟨gb209, 0, none⟩ = some (.int .i64 0) := kc BK209 0; have hcz23_1 : w22.cell? ⟨gb209, 1, none⟩ = some (.int .u64 0) := kc BK209 1; have hfz23_0 := blk_frozen BK209.out 0; have hfz23_1 := blk_frozen BK209.out 1))
    refine bodyPost_ret (results_ct rfl _ _ gb209 24 #[.int .i64 t213, .int .u64 t214] (0, 0) _ rfl (by (with_reducible repeat (first | refine blk_drewN ?_ _ | refine blk_drew ?_ | refine blk_alloc ?_ _)); refine blk_put (cs := #[.int .i64 t213, .int .u64 0]) ?_ 1 _ rfl; (with_reducible repeat (first | refine blk_drewN ?_ _ | refine blk_drew ?_ | refine blk_alloc ?_ _)); refine blk_put (cs := #[.int .i64 0, .int .u64 0]) ?_ 0 _ rfl; (with_reducible repeat (first | refine blk_drewN ?_ _ | refine blk_drew ?_ | refine blk_alloc ?_ _)); exact BK209.out) Try.underlying24 rfl (by kernel_rfl)) rfl ?_
    exact ⟨by first | rfl | (simp [errW_none, errW_some] <;> rfl) | (simp [*, errW_none, errW_some] <;> rfl), ky HB⟩
  rw [if_neg c4] at H
  have c4b0 : ((decide (a0_0 < 0)) != (decide (a1_0 < 0))) = false := by simpa using c4
  (try (have c4b1 : decide ((decide (a0_0 < 0)) = (decide (a1_0 < 0))) = true := by simpa using c4))
  (try (have c4b2 : ((decide (a0_0 < 0)) == (decide (a1_0 < 0))) = true := by simpa using c4))
  clear c4
  replace H := Option.bind_eq_some_iff.mp H
  obtain ⟨⟨t216, t217, t218⟩, A240, H⟩ := H
  replace H : (some (t216, t217, t218)) = some (r1, r2, r3) := H
  have A24 := Aside0.mk A240
  clear A240
  simp only [Option.some.injEq, Prod.mk.injEq] at H
  obtain ⟨rfl, rfl, rfl⟩ := H
  go_enter Try.func29, Try.ntmps29
  go_wp2_with (first | ((with_reducible refine gate_dst (N := 2) rfl ?_); refine box_event ?hg (N := 2) ?hd (cs := #[.int .i64 a0_0, .int .u64 a0_1]) (t := 24) ?hr ?_; (case hd => rfl); (case hg => rfl); (case hr => first | (go_simp; done) | (go_simp; rfl)); intro gb207 hg w25 hbox hb; have BK207 := Aside0.mk (hbox); have GW207 := kS HB hg; have GE207 := kS HB hg; replace HB := kB HB hb; clear hb hbox hg) | ((with_reducible refine gate_dst (N := 3) rfl ?_); refine box_event ?hg (N := 3) ?hd (cs := #[.int .i64 a1_0, .int .u64 a1_1]) (t := 24) ?hr ?_; (case hd => rfl); (case hg => rfl); (case hr => first | (go_simp; done) | (go_simp; rfl)); intro gb208 hg w26 hbox hb; have BK208 := Aside0.mk (hbox); have GW208 := kS HB hg; have GE208 := kS HB hg; have NB207_208 := kN BK207 hg; have NB208_207 := kM BK207 hg; replace BK207 := kb BK207 hb; replace HB := kB HB hb; clear hb hbox hg) | ((with_reducible refine gate_dst (N := 4) rfl ?_); refine box_event ?hg (N := 4) ?hd (cs := #[.int .i64 0, .int .u64 0]) (t := 24) ?hr ?_; (case hd => rfl); (case hg => rfl); (case hr => first | (go_simp; done) | (go_simp; rfl)); intro gb209 hg w27 hbox hb; have BK209 := Aside0.mk (hbox); have GW209 := kS HB hg; have GE209 := kS HB hg; have NB207_209 := kN BK207 hg; have NB209_207 := kM BK207 hg; have NB208_209 := kN BK208 hg; have NB209_208 := kM BK208 hg; replace BK207 := kb BK207 hb; replace BK208 := kb BK208 hb; replace HB := kB HB hb; clear hb hbox hg; have hnb28 := NB207_208.out; have hnc28 := NB208_207.out; have hnb29 := NB207_209.out; have hnc29 := NB209_207.out; have hcz30_0 : w27.cell? ⟨gb207, 0, none⟩ = some (.int .i64 a0_0) := kc BK207 0; have hcz30_1 : w27.cell? ⟨gb207, 1, none⟩ = some (.int .u64 a0_1) := kc BK207 1; have hfz30_0 := blk_frozen BK207.out 0; have hfz30_1 := blk_frozen BK207.out 1; have hnb31 := NB208_209.out; have hnc31 := NB209_208.out; have hcz32_0 : w27.cell? ⟨gb208, 0, none⟩ = some (.int .i64 a1_0) := kc BK208 0; have hcz32_1 : w27.cell? ⟨gb208, 1, none⟩ = some (.int .u64 a1_1) := kc BK208 1; have hfz32_0 := blk_frozen BK208.out 0; have hfz32_1 := blk_frozen BK208.out 1) | ((with_reducible refine gate_callee (f := 65) rfl ?_); refine goesL_ (some 9) rfl rfl Try.func65 (by kernel_rfl) rfl #[.agg #[.int .i64 a0_0, .int .u64 a0_1], .agg #[.int .i64 a1_0, .int .u64 a1_1]] rfl (by (try simp only [List.map_toArray, List.map_cons, List.map_nil]); first | done | rfl | (simp only [List.length_drop, List.length_take]; rfl)) ?_; (with_reducible refine (wide_wrap.calls a0_0 a0_1 a1_0 a1_1 t210 t211 _ A3.out).mono ?_); rintro e w33 ⟨rfl, hb⟩; refine ⟨_, rfl, ?_⟩; replace BK207 := kb BK207 hb; replace BK208 := kb BK208 hb; replace BK209 := kb BK209 hb; replace HB := kB HB hb; (try clear hb); (try clear hb2); (try clear hk); (try clear hi)) | ((with_reducible refine gate_dst (N := 6) rfl ?_); refine box_event ?hg (N := 6) ?hd (cs := #[.int .i64 0, .int .u64 0]) (t := 24) ?hr ?_; (case hd => rfl); (case hg => rfl); (case hr => first | (go_simp; done) | (go_simp; rfl)); intro gb212 hg w34 hbox hb; have BK212 := Aside0.mk (hbox); have GW212 := kS HB hg; have GE212 := kS HB hg; have NB207_212 := kN BK207 hg; have NB212_207 := kM BK207 hg; have NB208_212 := kN BK208 hg; have NB212_208 := kM BK208 hg; have NB209_212 := kN BK209 hg; have NB212_209 := kM BK209 hg; replace BK207 := kb BK207 hb; replace BK208 := kb BK208 hb; replace BK209 := kb BK209 hb; replace HB := kB HB hb; clear hb hbox hg; have hnb35 := NB212_207.out; have hnc35 := NB207_212.out; have hnb36 := NB212_208.out; have hnc36 := NB208_212.out; have hnb37 := NB212_209.out; have hnc37 := NB209_212.out; have hcz38_0 : w34.cell? ⟨gb212, 0, none⟩ = some (.int .i64 0) := kc BK212 0; have hcz38_1 : w34.cell? ⟨gb212, 1, none⟩ = some (.int .u64 0) := kc BK212 1; have hfz38_0 := blk_frozen BK212.out 0; have hfz38_1 := blk_frozen BK212.out 1; have hcz39_0 : w34.cell? ⟨gb207, 0, none⟩ = some (.int .i64 a0_0) := kc BK207 0; have hcz39_1 : w34.cell? ⟨gb207, 1, none⟩ = some (.int .u64 a0_1) := kc BK207 1; have hfz39_0 := blk_frozen BK207.out 0; have hfz39_1 := blk_frozen BK207.out 1; have hcz40_0 : w34.cell? ⟨gb208, 0, none⟩ = some (.int .i64 a1_0) := kc BK208 0; have hcz40_1 : w34.cell? ⟨gb208, 1, none⟩ = some (.int .u64 a1_1) := kc BK208 1; have hfz40_0 := blk_frozen BK208.out 0; have hfz40_1 := blk_frozen BK208.out 1) | ((with_reducible refine gate_callee (f := 59) rfl ?_); refine goesL_ (some 27) rfl rfl Try.func59 (by kernel_rfl) rfl #[.agg #[.int .i64 t210, .int .u64 t211], .bool ((decide (a0_0 < 0)) == (decide (t210 < 0)))] rfl (by (try simp only [List.map_toArray, List.map_cons, List.map_nil]); first | done | rfl | (simp only [List.length_drop, List.length_take]; rfl)) ?_; (with_reducible refine (wide_told.calls t210 t211 ((decide (a0_0 < 0)) == (decide (t210 < 0))) t216 t217 t218 _ A24.out).mono ?_); rintro e w41 ⟨rfl, hb⟩; refine ⟨_, rfl, ?_⟩; have n0_ := kb BK207 hb; have n1_ := kb BK208 hb; have n2_ := kb BK209 hb; have n3_ := Aside0.mk (blk_below (g := gb212) (o := .cells #[.int .i64 t210, .int .u64 t211] 24 (0, 0)) (by (with_reducible repeat (first | refine blk_drewN ?_ _ | refine blk_drew ?_ | refine blk_alloc ?_ _)); refine blk_put (cs := #[.int .i64 t210, .int .u64 0]) ?_ 1 _ rfl; (with_reducible repeat (first | refine blk_drewN ?_ _ | refine blk_drew ?_ | refine blk_alloc ?_ _)); refine blk_put (cs := #[.int .i64 0, .int .u64 0]) ?_ 0 _ rfl; (with_reducible repeat (first | refine blk_drewN ?_ _ | refine blk_drew ?_ | refine blk_alloc ?_ _)); exact BK212.out) hb); have n4_ := kB HB hb; clear BK207; clear BK208; clear BK209; clear BK212; clear HB; have BK207 := n0_; have BK208 := n1_; have BK209 := n2_; have BK212 := n3_; have HB := n4_; clear n0_ n1_ n2_ n3_ n4_; (try clear hb); (try clear hb2); (try clear hk); (try clear hi); have hcz42_0 : w41.cell? ⟨gb209, 0, none⟩ = some (.int .i64 0) := kc BK209 0; have hcz42_1 : w41.cell? ⟨gb209, 1, none⟩ = some (.int .u64 0) := kc BK209 1; have hfz42_0 := blk_frozen BK209.out 0; have hfz42_1 := blk_frozen BK209.out 1))
  refine bodyPost_ret (results_ct rfl _ _ gb209 24 #[.int .i64 t216, .int .u64 t217] (0, 0) _ rfl (by (with_reducible repeat (first | refine blk_drewN ?_ _ | refine blk_drew ?_ | refine blk_alloc ?_ _)); refine blk_put (cs := #[.int .i64 t216, .int .u64 0]) ?_ 1 _ rfl; (with_reducible repeat (first | refine blk_drewN ?_ _ | refine blk_drew ?_ | refine blk_alloc ?_ _)); refine blk_put (cs := #[.int .i64 0, .int .u64 0]) ?_ 0 _ rfl; (with_reducible repeat (first | refine blk_drewN ?_ _ | refine blk_drew ?_ | refine blk_alloc ?_ _)); exact BK209.out) Try.underlying24 rfl (by kernel_rfl)) rfl ?_
  exact ⟨by first | rfl | (simp [errW_none, errW_some] <;> rfl) | (simp [*, errW_none, errW_some] <;> rfl), ky HB⟩

/-! ### wide_Small: function 30 -/
def wide_Small.f (a0_0 : Int) (a0_1 : Int) : Option (Int × Bool) := (wide_Of.f (wrap64 (a0_1))).bind fun bt220 => (if (!(bt220.1 == a0_0) || (!(bt220.2 == a0_1))) = true then (some (0, false)) else (some (wrap64 (a0_1), true)))
set_option maxHeartbeats 8000000 in
set_option maxRecDepth 100000 in
theorem wide_Small.calls (a0_0 : Int) (a0_1 : Int) (r1 : Int) (r2 : Bool) (w : World) (h : wide_Small.f a0_0 a0_1 = some (r1, r2)) :
    Calls Try.prog 30 #[.agg #[.int .i64 a0_0, .int .u64 a0_1]] w fun e w' => e = .returned (.tuple #[.int .i64 r1, .bool r2]) ∧ Below w.heap.size w w' := by
  have hu24 := Try.underlying24
  have HB := Aside0.mk (Below.refl w.heap.size w)
  have H : ((wide_Of.f (wrap64 (a0_1))).bind fun bt220 => (if (!(bt220.1 == a0_0) || (!(bt220.2 == a0_1))) = true then (some (0, false)) else (some (wrap64 (a0_1), true)))) = some (r1, r2) := h
  clear h
  replace H := Option.bind_eq_some_iff.mp H
  obtain ⟨⟨t220, t221⟩, A20, H⟩ := H
  replace H : (if (!(t220 == a0_0) || (!(t221 == a0_1))) = true then (some (0, false)) else (some (wrap64 (a0_1), true))) = some (r1, r2) := H
  have A2 := Aside0.mk A20
  clear A20
  by_cases c3 : (!(t220 == a0_0) || (!(t221 == a0_1))) = true
  · rw [if_pos c3] at H
    have c3b0 : (!(t220 == a0_0) || (!(t221 == a0_1))) = true := c3
    clear c3
    simp only [Option.some.injEq, Prod.mk.injEq] at H
    obtain ⟨rfl, rfl⟩ := H
    go_enter Try.func30, Try.ntmps30
    try go_wp2_with (first | ((with_reducible refine gate_dst (N := 1) rfl ?_); refine box_event ?hg (N := 1) ?hd (cs := #[.int .i64 a0_0, .int .u64 a0_1]) (t := 24) ?hr ?_; (case hd => rfl); (case hg => rfl); (case hr => first | (go_simp; done) | (go_simp; rfl)); intro gb219 hg w4 hbox hb; have BK219 := Aside0.mk (hbox); have GW219 := kS HB hg; have GE219 := kS HB hg; replace HB := kB HB hb; clear hb hbox hg; have hcz5_0 : w4.cell? ⟨gb219, 0, none⟩ = some (.int .i64 a0_0) := kc BK219 0; have hcz5_1 : w4.cell? ⟨gb219, 1, none⟩ = some (.int .u64 a0_1) := kc BK219 1; have hfz5_0 := blk_frozen BK219.out 0; have hfz5_1 := blk_frozen BK219.out 1))
    replace BK219 := Aside0.mk (blk_drew BK219.out)
    replace HB := Aside0.mk (below_drew1 HB.out)
    refine start_ (n := 4) (S := fun w' => w'.cell? ⟨gb219, 0, none⟩ = some (.int .i64 a0_0) ∧ w'.cell? ⟨gb219, 1, none⟩ = some (.int .u64 a0_1)) (ds := []) #[O, O, O, O] (by kernel_rfl) rfl rfl ⟨kc BK219 0, kc BK219 1⟩ (fun hHeld => ?_)
    generalize w4.drew = w6 at BK219 HB hHeld ⊢
    refine pure_ (i := 0) (N := some 8) (v := ?_) (a' := ?_) #[T, O, O, O] rfl rfl (by kernel_rfl) (fun _ _ _ h => h) (Or.inl ⟨by rfl, ?_⟩) ?_ ?_; rotate_left; focus (intro w'; go_simp; with_reducible rfl)
    rotate_left; focus (simp only [Act.put, List.setIfInBounds_toArray, List.set_cons_zero, List.set_cons_succ, i64_w, i32_w]; rfl)
    refine take_ (i := 2) (N := some 10) (v := ?_) (a' := ?_) #[T, O, T, O] rfl rfl (by kernel_rfl) (fun _ _ _ h => h) (Or.inl ⟨by rfl, ?_⟩) hHeld ?_ ?_; rotate_left; focus (rintro w' ⟨s0, s1⟩; go_simp; with_reducible rfl)
    rotate_left; focus (simp only [Act.put, List.setIfInBounds_toArray, List.set_cons_zero, List.set_cons_succ, i64_w, i32_w]; rfl)
    refine one_ (i := 1) (N := some 9) #[T, T, T, O] rfl rfl (by kernel_rfl) (by decide) (fun K hK => ?_)
    refine goes_ Try.func32 (by kernel_rfl) rfl #[.int .i64 (wrap64 (a0_1))] (by rfl) rfl rfl (by (try simp only [List.map_toArray, List.map_cons, List.map_nil]); first | done | rfl | (simp only [List.length_drop, List.length_take]; rfl)) ?_
    with_reducible refine (wide_Of.calls (wrap64 (a0_1)) t220 t221 _ A2.out).mono ?_
    rintro e w7 ⟨rfl, hb⟩
    refine ⟨_, rfl, ?_⟩
    replace BK219 := kb BK219 hb
    replace HB := kB HB hb
    (try clear hb)
    (try clear hb2)
    (try clear hk)
    (try clear hi)
    refine hK.out _ _ ⟨kc BK219 0, kc BK219 1⟩ (fun hHeld => ?_)
    clear hK K
    refine norm_ (a' := ?_) ?_ ?_
    rotate_left
    · show Act.put _ (some 9) _ = _
      simp only [Act.put, List.setIfInBounds_toArray, List.set_cons_zero, List.set_cons_succ, i64_w, i32_w]
      rfl
    refine pure_ (i := 3) (N := some 11) (v := ?_) (a' := ?_) #[T, T, T, T] rfl rfl (by kernel_rfl) (fun _ _ _ h => h) (Or.inl ⟨by rfl, ?_⟩) ?_ ?_; rotate_left; focus (intro w'; go_simp; with_reducible rfl)
    rotate_left; focus (simp only [Act.put, List.setIfInBounds_toArray, List.set_cons_zero, List.set_cons_succ, i64_w, i32_w]; rfl)
    refine done_ (by kernel_rfl) ?_
    try go_wp2
    go_ret2
    exact ⟨by first | rfl | (simp [errW_none, errW_some] <;> rfl) | (simp [*, errW_none, errW_some] <;> rfl), ky HB⟩
  rw [if_neg c3] at H
  have c3b0 : (!(t220 == a0_0) || (!(t221 == a0_1))) = false := by simpa using c3
  clear c3
  simp only [Option.some.injEq, Prod.mk.injEq] at H
  obtain ⟨rfl, rfl⟩ := H
  go_enter Try.func30, Try.ntmps30
  try go_wp2_with (first | ((with_reducible refine gate_dst (N := 1) rfl ?_); refine box_event ?hg (N := 1) ?hd (cs := #[.int .i64 a0_0, .int .u64 a0_1]) (t := 24) ?hr ?_; (case hd => rfl); (case hg => rfl); (case hr => first | (go_simp; done) | (go_simp; rfl)); intro gb219 hg w8 hbox hb; have BK219 := Aside0.mk (hbox); have GW219 := kS HB hg; have GE219 := kS HB hg; replace HB := kB HB hb; clear hb hbox hg; have hcz9_0 : w8.cell? ⟨gb219, 0, none⟩ = some (.int .i64 a0_0) := kc BK219 0; have hcz9_1 : w8.cell? ⟨gb219, 1, none⟩ = some (.int .u64 a0_1) := kc BK219 1; have hfz9_0 := blk_frozen BK219.out 0; have hfz9_1 := blk_frozen BK219.out 1))
  replace BK219 := Aside0.mk (blk_drew BK219.out)
  replace HB := Aside0.mk (below_drew1 HB.out)
  refine start_ (n := 4) (S := fun w' => w'.cell? ⟨gb219, 0, none⟩ = some (.int .i64 a0_0) ∧ w'.cell? ⟨gb219, 1, none⟩ = some (.int .u64 a0_1)) (ds := []) #[O, O, O, O] (by kernel_rfl) rfl rfl ⟨kc BK219 0, kc BK219 1⟩ (fun hHeld => ?_)
  generalize w8.drew = w10 at BK219 HB hHeld ⊢
  refine pure_ (i := 0) (N := some 8) (v := ?_) (a' := ?_) #[T, O, O, O] rfl rfl (by kernel_rfl) (fun _ _ _ h => h) (Or.inl ⟨by rfl, ?_⟩) ?_ ?_; rotate_left; focus (intro w'; go_simp; with_reducible rfl)
  rotate_left; focus (simp only [Act.put, List.setIfInBounds_toArray, List.set_cons_zero, List.set_cons_succ, i64_w, i32_w]; rfl)
  refine take_ (i := 2) (N := some 10) (v := ?_) (a' := ?_) #[T, O, T, O] rfl rfl (by kernel_rfl) (fun _ _ _ h => h) (Or.inl ⟨by rfl, ?_⟩) hHeld ?_ ?_; rotate_left; focus (rintro w' ⟨s0, s1⟩; go_simp; with_reducible rfl)
  rotate_left; focus (simp only [Act.put, List.setIfInBounds_toArray, List.set_cons_zero, List.set_cons_succ, i64_w, i32_w]; rfl)
  refine one_ (i := 1) (N := some 9) #[T, T, T, O] rfl rfl (by kernel_rfl) (by decide) (fun K hK => ?_)
  refine goes_ Try.func32 (by kernel_rfl) rfl #[.int .i64 (wrap64 (a0_1))] (by rfl) rfl rfl (by (try simp only [List.map_toArray, List.map_cons, List.map_nil]); first | done | rfl | (simp only [List.length_drop, List.length_take]; rfl)) ?_
  with_reducible refine (wide_Of.calls (wrap64 (a0_1)) t220 t221 _ A2.out).mono ?_
  rintro e w11 ⟨rfl, hb⟩
  refine ⟨_, rfl, ?_⟩
  replace BK219 := kb BK219 hb
  replace HB := kB HB hb
  (try clear hb)
  (try clear hb2)
  (try clear hk)
  (try clear hi)
  refine hK.out _ _ ⟨kc BK219 0, kc BK219 1⟩ (fun hHeld => ?_)
  clear hK K
  refine norm_ (a' := ?_) ?_ ?_
  rotate_left
  · show Act.put _ (some 9) _ = _
    simp only [Act.put, List.setIfInBounds_toArray, List.set_cons_zero, List.set_cons_succ, i64_w, i32_w]
    rfl
  refine pure_ (i := 3) (N := some 11) (v := ?_) (a' := ?_) #[T, T, T, T] rfl rfl (by kernel_rfl) (fun _ _ _ h => h) (Or.inl ⟨by rfl, ?_⟩) ?_ ?_; rotate_left; focus (intro w'; go_simp; with_reducible rfl)
  rotate_left; focus (simp only [Act.put, List.setIfInBounds_toArray, List.set_cons_zero, List.set_cons_succ, i64_w, i32_w]; rfl)
  refine done_ (by kernel_rfl) ?_
  try go_wp2
  go_ret2
  exact ⟨by first | rfl | (simp [errW_none, errW_some] <;> rfl) | (simp [*, errW_none, errW_some] <;> rfl), ky HB⟩

/-! ### wide_Text: function 37 -/
def wide_Text.l0 : Nat → Int → Int → List Int → Int → Int → Option (ByteArray)
  | 0, _, _, _, _, _ => none
  | k + 1, x3, x4, x5, x223000, x223001 => if (x5.length : Int) = 0 then ((wide_divide.f k x3 x4 0 10).bind fun bt225 => ((some (([(IntKind.u64.wrap (48 + bt225.2.2.2)) % 256] : List Int) : List Int)).bind fun y229 => (if y229.length + x5.length < 140737488355328 then (wide_Text.l0 k bt225.1 bt225.2.1 (y229 ++ x5) x223000 x223001) else (none)))) else (if (Go.bits .or .u64 x3 x4) = 0 then (if x223000 < 0 then ((some (([45] : List Int) : List Int)).bind fun y235 => (if y235.length + x5.length < 140737488355328 then (some (strOfNums (y235 ++ x5))) else (none))) else (some (strOfNums x5))) else ((wide_divide.f k x3 x4 0 10).bind fun bt241 => ((some (([(IntKind.u64.wrap (48 + bt241.2.2.2)) % 256] : List Int) : List Int)).bind fun y245 => (if y245.length + x5.length < 140737488355328 then (wide_Text.l0 k bt241.1 bt241.2.1 (y245 ++ x5) x223000 x223001) else (none)))))
def wide_Text.f (k : Nat) (a0_0 : Int) (a0_1 : Int) : Option (ByteArray) := (wide_size.f a0_0 a0_1).bind fun bt223 => (wide_Text.l0 k bt223.1 bt223.2 ([] : List Int) a0_0 a0_1)
theorem wide_Text.mono_l : ∀ k, (∀ y0 y1 y2 y3 y4, LeO (wide_Text.l0 k y0 y1 y2 y3 y4) (wide_Text.l0 (k + 1) y0 y1 y2 y3 y4))
  | 0 => fun _ _ _ _ _ r h => by simp [wide_Text.l0] at h
  | k + 1 => by
    have ih0 := wide_Text.mono_l k
    · intro y0 y1 y2 y3 y4
      unfold wide_Text.l0
      repeat' first
      | (with_reducible exact ih0 _ _ _ _ _)
      | (with_reducible exact wide_divide.mono _ _ _ _ _)
      | (with_reducible exact LeO.refl _)
      | (with_reducible exact LeO.none _)
      | (with_reducible refine LeO.ite ?_ ?_)
      | (with_reducible refine LeO.bind ?_ (fun _ => ?_))
      | exact ih0 _ _ _ _ _
      | exact wide_divide.mono _ _ _ _ _
      | exact LeO.none _
      | refine LeO.ite ?_ ?_
      | refine LeO.bind ?_ (fun _ => ?_)
theorem wide_Text.mono : ∀ a0 a1 k, LeO (wide_Text.f k a0 a1) (wide_Text.f (k + 1) a0 a1) := by
  intro a0 a1 k
  have ih0 := wide_Text.mono_l k
  unfold wide_Text.f
  repeat' first
      | (with_reducible exact ih0 _ _ _ _ _)
      | (with_reducible exact wide_divide.mono _ _ _ _ _)
      | (with_reducible exact LeO.refl _)
      | (with_reducible exact LeO.none _)
      | (with_reducible refine LeO.ite ?_ ?_)
      | (with_reducible refine LeO.bind ?_ (fun _ => ?_))
      | exact ih0 _ _ _ _ _
      | exact wide_divide.mono _ _ _ _ _
      | exact LeO.none _
      | refine LeO.ite ?_ ?_
      | refine LeO.bind ?_ (fun _ => ?_)
set_option maxHeartbeats 8000000 in
set_option maxRecDepth 100000 in
theorem wide_Text.calls (k : Nat) (a0_0 : Int) (a0_1 : Int) (r : ByteArray) (w : World) (h : wide_Text.f k a0_0 a0_1 = some r) :
    Calls Try.prog 37 #[.agg #[.int .i64 a0_0, .int .u64 a0_1]] w fun e w' => e = .returned (.string r) ∧ Below w.heap.size w w' := by
  have hu24 := Try.underlying24
  have HB := Aside0.mk (Below.refl w.heap.size w)
  have H : ((wide_size.f a0_0 a0_1).bind fun bt223 => (wide_Text.l0 k bt223.1 bt223.2 ([] : List Int) a0_0 a0_1)) = some r := h
  clear h
  replace H := Option.bind_eq_some_iff.mp H
  obtain ⟨⟨t223, t224⟩, A20, H⟩ := H
  replace H : (wide_Text.l0 k t223 t224 ([] : List Int) a0_0 a0_1) = some r := H
  have A2 := Aside0.mk A20
  clear A20
  have H' := Aside0.mk H
  clear H
  go_enter Try.func37, Try.ntmps37
  go_wp2_with (first | ((with_reducible refine gate_dst (N := 1) rfl ?_); refine box_event ?hg (N := 1) ?hd (cs := #[.int .i64 a0_0, .int .u64 a0_1]) (t := 24) ?hr ?_; (case hd => rfl); (case hg => rfl); (case hr => first | (go_simp; done) | (go_simp; rfl)); intro gb222 hg w3 hbox hb; have BK222 := Aside0.mk (hbox); have GW222 := kS HB hg; have GE222 := kS HB hg; replace HB := kB HB hb; clear hb hbox hg; have hcz4_0 : w3.cell? ⟨gb222, 0, none⟩ = some (.int .i64 a0_0) := kc BK222 0; have hcz4_1 : w3.cell? ⟨gb222, 1, none⟩ = some (.int .u64 a0_1) := kc BK222 1; have hfz4_0 := blk_frozen BK222.out 0; have hfz4_1 := blk_frozen BK222.out 1) | ((with_reducible refine gate_callee (f := 51) rfl ?_); refine goesL_ (some 12) rfl rfl Try.func51 (by kernel_rfl) rfl #[.agg #[.int .i64 a0_0, .int .u64 a0_1]] rfl (by (try simp only [List.map_toArray, List.map_cons, List.map_nil]); first | done | rfl | (simp only [List.length_drop, List.length_take]; rfl)) ?_; (with_reducible refine (wide_size.calls a0_0 a0_1 t223 t224 _ A2.out).mono ?_); rintro e w5 ⟨rfl, hb⟩; refine ⟨_, rfl, ?_⟩; replace BK222 := kb BK222 hb; replace HB := kB HB hb; (try clear hb); (try clear hb2); (try clear hk); (try clear hi)))
  go_loopg [3, 4, 5] k (fun kq v3 v4 v5 w' => ∃ (x3_1 : Int) (x4_1 : Int) (x5_1 : List Int), v3 = .int .u64 x3_1 ∧ v4 = .int .u64 x4_1 ∧ Aside0 (wide_Text.l0 kq x3_1 x4_1 x5_1 a0_0 a0_1 = some r) ∧ Aside0 (kq ≤ k) ∧ Aside0 (Kd.R (Kd.int .u8) 5 w' w.heap.size (fun _ => True) v5 x5_1) ∧ Aside0 (w'.heap[gb222]? = some (.cells #[.int .i64 a0_0, .int .u64 a0_1] 24 (0, 0))) ∧ Aside0 (Below w.heap.size w w'))
  case atStart => exact ⟨(t223), (t224), (([] : List Int)), (by first | rfl | (simp; done) | (simp [*]; done)), (by first | rfl | (simp; done) | (simp [*]; done)), H', ⟨Nat.le_refl _⟩, ⟨by first | exact Kd.R_nil _ _ _ _ _ | exact Kd.N_nil _ _ _ _ _ | exact Kd.V_nil _ _ _ _ _ | exact Kd.Q_nil _ _ _ _ _ | exact Kd.S_nil _ _ _ _ _⟩, ⟨kx BK222⟩, ⟨ky HB⟩⟩
  case round =>
    clear H'
    try clear p2; try clear c3; try clear c5; try clear hcz4_0; try clear hcz4_1; try clear hfz4_0; try clear hfz4_1
    obtain ⟨x3_1, x4_1, x5_1, rfl, rfl, HA, HK1, HO_5, BK222, HB⟩ := hrel
    cases gk with
    | zero => exact absurd HA.out (by simp [wide_Text.l0])
    | succ k1 =>
      have H := HA.out; clear HA
      simp only [wide_Text.l0] at H
      by_cases c6 : (x5_1.length : Int) = 0
      · rw [if_pos c6] at H
        have c6b0 : ((x5_1.length : Int) == 0) = true := beq_iff_eq.mpr c6
        have c6b1 : ((x5_1.length : Int) != 0) = false := bne_eq_false_iff_eq.mpr c6
        clear c6
        replace H := Option.bind_eq_some_iff.mp H
        obtain ⟨⟨t225, t226, t227, t228⟩, A70, H⟩ := H
        replace H : ((some (([(IntKind.u64.wrap (48 + t228)) % 256] : List Int) : List Int)).bind fun y229 => (if y229.length + x5_1.length < 140737488355328 then (wide_Text.l0 k1 t225 t226 (y229 ++ x5_1) a0_0 a0_1) else (none))) = some r := H
        have A7 := Aside0.mk A70
        clear A70
        obtain ⟨y229, hy229⟩ : ∃ y_ : List Int, y_ = (([(IntKind.u64.wrap (48 + t228)) % 256] : List Int)) := ⟨_, rfl⟩
        replace H : (if y229.length + x5_1.length < 140737488355328 then (wide_Text.l0 k1 t225 t226 (y229 ++ x5_1) a0_0 a0_1) else (none)) = some r := by first | (rw [hy229]; with_reducible exact H) | (have H2_ := (Option.bind_some _ _).symm.trans H; rw [hy229]; with_reducible exact H2_) | (have H2_ := (Option.bind_some _ _).symm.trans H; with_reducible exact H2_) | with_reducible exact H | (rw [hy229]; exact H) | exact H
        have Ny229 := Aside0.mk hy229
        clear hy229
        by_cases c8 : y229.length + x5_1.length < 140737488355328
        rotate_left
        · rw [if_neg c8] at H
          exact absurd H (by simp)
        rw [if_pos c8] at H
        have LMc8 := Aside0.mk c8
        clear c8
        obtain ⟨y232, hy232⟩ : ∃ y_ : List Int, y_ = (y229 ++ x5_1) := ⟨_, rfl⟩
        replace H : (wide_Text.l0 k1 t225 t226 y232 a0_0 a0_1) = some r := by first | (rw [hy232]; with_reducible exact H) | (have H2_ := (Option.bind_some _ _).symm.trans H; rw [hy232]; with_reducible exact H2_) | (have H2_ := (Option.bind_some _ _).symm.trans H; with_reducible exact H2_) | with_reducible exact H | (rw [hy232]; exact H) | exact H
        have Ny232 := Aside0.mk hy232
        clear hy232
        have H' := Aside0.mk H
        clear H
        obtain ⟨Ao9, co9, eo9⟩ := Kd.R_slice HO_5.out
        subst eo9
        go_wp2_with (first | ((with_reducible refine gate_callee (f := 64) rfl ?_); refine goesL_ (some 27) rfl rfl Try.func64 (by kernel_rfl) rfl #[.int .u64 x3_1, .int .u64 x4_1, .int .u64 0, .int .u64 10] rfl (by (try simp only [List.map_toArray, List.map_cons, List.map_nil]); first | done | rfl | (simp only [List.length_drop, List.length_take]; rfl)) ?_; (with_reducible refine (wide_divide.calls k1 x3_1 x4_1 0 10 t225 t226 t227 t228 _ A7.out).mono ?_); rintro e w' ⟨rfl, ⟨nd, rfl⟩⟩; refine ⟨_, rfl, ?_⟩) | ((with_reducible refine gate_dst (N := 35) rfl ?_); refine Kd.R_lit (Kd.int .u8) _ 5 ?hg (N := 35) ?hd (xs := ([(IntKind.u64.wrap (48 + t228)) % 256] : List Int)) (inner := [.int .u8 ((IntKind.u64.wrap (48 + t228)) % 256)]) (ok := fun _ => True) (okp := fun _ => True) ?hr ?hp (fun _ hk => hk) trivial (Below.refl _ _) (Nat.le_refl _) (by simp) ?_; (case hd => rfl); (case hg => rfl); (case hr => first | (go_simp; done) | (go_simp; rfl)); (case hp => exact (Reps.one (show Kd.M (Kd.int .u8) _ _ _ ((IntKind.u64.wrap (48 + t228)) % 256) [.int .u8 ((IntKind.u64.wrap (48 + t228)) % 256)] from rfl) (Reps.none _ _))); intro v230 w10 ho11 hb hg_ hnew_; clear hg_ hnew_; (first | rw [← Ny229.out] at ho11 | (simp only [Int.reduceToNat] at ho11; rw [← Ny229.out] at ho11)); have n0_ := Aside0.mk (Kd.R_elder' (kr HO_5) (Kd.R_base ho11) hb); have n1_ := Aside0.mk (Kd.R_lower (Kd.R_new' ho11 (Kd.R_lt (kr HO_5))) (below_size (ky HB))); have n2_ := kb BK222 hb; have n3_ := kB HB hb; clear HO_5; clear BK222; clear HB; have HO_5 := n0_; have HO231 := n1_; have BK222 := n2_; have HB := n3_; clear n0_ n1_ n2_ n3_; clear hb ho11) | ((with_reducible refine gate_builtin (b := .append) (xs := #[.tmp 35, .tmp 36]) rfl ?_); at_builtin; refine Kd.R_append_rows (Kd.int .u8) (w0 := w) w.heap.size rfl (.tmp 35) (.tmp 36) 105 5 (.int .u8 0) 1 rfl Try.underlying105 info5 rfl (by decide) (by omega) v230 y229 x5_1 _ _ _ (fun k_ => some k_ ≠ (.slice Ao9 x5_1.length co9 : Value).ownBlock) (fun _ => False) rfl rfl ?aO ?aR (fun _ _ h => h) (fun _ h => h.elim) ?aF ?aB ?aS ?aL ?_; (case aR => repeat (first | exact (Kd.R_reads' HO_5.out).2.2 | (with_reducible refine Kd.C_alloc ?_ _) | (with_reducible refine Kd.C_drewN ?_ _) | (with_reducible refine Kd.C_drew ?_))); (case aB => exact (ky HB)); (case aF => exact (fun k_ hk => Kd.fresh' (Kd.R_lt (kr HO_5)) k_ hk)); (case aO => exact (by (with_reducible repeat (first | apply Kd.R_alloc | apply Kd.R_drewN | apply Kd.R_drew)); exact Kd.R_mono HO231.out (fun _ hk => hk.2))); (case aS => exact (below_size (ky HB))); (case aL => have := LMc8.out; omega); intro v233 w12 ho hb hg hat; rw [← Ny232.out] at ho; have n0_ := Aside0.mk (Kd.R_after (ok := (fun _ => True)) (kr HO_5) hg hat); have n1_ := Aside0.mk (blk_grown (g := gb222) (o := .cells #[.int .i64 a0_0, .int .u64 a0_1] 24 (0, 0)) (kx BK222) hg (Kd.R_ne HO231.out BK222.out (by decide))); have n2_ := Aside0.mk (hb); have n3_ := Aside0.mk (ho); clear HO_5; clear BK222; clear HB; clear HO231; have HO_5 := n0_; have BK222 := n1_; have HB := n2_; have HO234 := n3_; clear n0_ n1_ n2_ n3_; clear ho hb hg hat))
        go_roundg k1
        case measure => have := HK1.out; omega
        case rel => exact ⟨(t225), (t226), (y232), (by first | rfl | (simp; done) | (simp [*]; done)), (by first | rfl | (simp; done) | (simp [*]; done)), H', ⟨by have := HK1.out; omega⟩, ⟨by (with_reducible repeat (first | apply Kd.R_alloc | apply Kd.R_drewN | apply Kd.R_drew)); exact Kd.R_mono HO234.out (fun _ hk => trivial)⟩, ⟨kx BK222⟩, ⟨ky HB⟩⟩
      rw [if_neg c6] at H
      have c6b0 : ((x5_1.length : Int) == 0) = false := beq_eq_false_iff_ne.mpr c6
      have c6b1 : ((x5_1.length : Int) != 0) = true := bne_iff_ne.mpr c6
      have c6b2 : ¬ (x5_1 = []) := fun h_ => c6 (by rw [h_]; rfl)
      by_cases c13 : (Go.bits .or .u64 x3_1 x4_1) = 0
      rotate_left
      · rw [if_neg c13] at H
        have c13b0 : ((Go.bits .or .u64 x3_1 x4_1) == 0) = false := beq_eq_false_iff_ne.mpr c13
        have c13b1 : ((Go.bits .or .u64 x3_1 x4_1) != 0) = true := bne_iff_ne.mpr c13
        replace H := Option.bind_eq_some_iff.mp H
        obtain ⟨⟨t241, t242, t243, t244⟩, A250, H⟩ := H
        replace H : ((some (([(IntKind.u64.wrap (48 + t244)) % 256] : List Int) : List Int)).bind fun y245 => (if y245.length + x5_1.length < 140737488355328 then (wide_Text.l0 k1 t241 t242 (y245 ++ x5_1) a0_0 a0_1) else (none))) = some r := H
        have A25 := Aside0.mk A250
        clear A250
        obtain ⟨y245, hy245⟩ : ∃ y_ : List Int, y_ = (([(IntKind.u64.wrap (48 + t244)) % 256] : List Int)) := ⟨_, rfl⟩
        replace H : (if y245.length + x5_1.length < 140737488355328 then (wide_Text.l0 k1 t241 t242 (y245 ++ x5_1) a0_0 a0_1) else (none)) = some r := by first | (rw [hy245]; with_reducible exact H) | (have H2_ := (Option.bind_some _ _).symm.trans H; rw [hy245]; with_reducible exact H2_) | (have H2_ := (Option.bind_some _ _).symm.trans H; with_reducible exact H2_) | with_reducible exact H | (rw [hy245]; exact H) | exact H
        have Ny245 := Aside0.mk hy245
        clear hy245
        by_cases c26 : y245.length + x5_1.length < 140737488355328
        rotate_left
        · rw [if_neg c26] at H
          exact absurd H (by simp)

        rw [if_pos c26] at H
        have LMc26 := Aside0.mk c26
        clear c26
        obtain ⟨y248, hy248⟩ : ∃ y_ : List Int, y_ = (y245 ++ x5_1) := ⟨_, rfl⟩
        replace H : (wide_Text.l0 k1 t241 t242 y248 a0_0 a0_1) = some r := by first | (rw [hy248]; with_reducible exact H) | (have H2_ := (Option.bind_some _ _).symm.trans H; rw [hy248]; with_reducible exact H2_) | (have H2_ := (Option.bind_some _ _).symm.trans H; with_reducible exact H2_) | with_reducible exact H | (rw [hy248]; exact H) | exact H
        have Ny248 := Aside0.mk hy248
        clear hy248
        have H' := Aside0.mk H
        clear H
        obtain ⟨Ao27, co27, eo27⟩ := Kd.R_slice HO_5.out
        subst eo27
        go_wp2_with (first | ((with_reducible refine gate_callee (f := 64) rfl ?_); refine goesL_ (some 27) rfl rfl Try.func64 (by kernel_rfl) rfl #[.int .u64 x3_1, .int .u64 x4_1, .int .u64 0, .int .u64 10] rfl (by (try simp only [List.map_toArray, List.map_cons, List.map_nil]); first | done | rfl | (simp only [List.length_drop, List.length_take]; rfl)) ?_; (with_reducible refine (wide_divide.calls k1 x3_1 x4_1 0 10 t241 t242 t243 t244 _ A25.out).mono ?_); rintro e w' ⟨rfl, ⟨nd, rfl⟩⟩; refine ⟨_, rfl, ?_⟩) | ((with_reducible refine gate_dst (N := 35) rfl ?_); refine Kd.R_lit (Kd.int .u8) _ 5 ?hg (N := 35) ?hd (xs := ([(IntKind.u64.wrap (48 + t244)) % 256] : List Int)) (inner := [.int .u8 ((IntKind.u64.wrap (48 + t244)) % 256)]) (ok := fun _ => True) (okp := fun _ => True) ?hr ?hp (fun _ hk => hk) trivial (Below.refl _ _) (Nat.le_refl _) (by simp) ?_; (case hd => rfl); (case hg => rfl); (case hr => first | (go_simp; done) | (go_simp; rfl)); (case hp => exact (Reps.one (show Kd.M (Kd.int .u8) _ _ _ ((IntKind.u64.wrap (48 + t244)) % 256) [.int .u8 ((IntKind.u64.wrap (48 + t244)) % 256)] from rfl) (Reps.none _ _))); intro v246 w28 ho29 hb hg_ hnew_; clear hg_ hnew_; (first | rw [← Ny245.out] at ho29 | (simp only [Int.reduceToNat] at ho29; rw [← Ny245.out] at ho29)); have n0_ := Aside0.mk (Kd.R_elder' (kr HO_5) (Kd.R_base ho29) hb); have n1_ := Aside0.mk (Kd.R_lower (Kd.R_new' ho29 (Kd.R_lt (kr HO_5))) (below_size (ky HB))); have n2_ := kb BK222 hb; have n3_ := kB HB hb; clear HO_5; clear BK222; clear HB; have HO_5 := n0_; have HO247 := n1_; have BK222 := n2_; have HB := n3_; clear n0_ n1_ n2_ n3_; clear hb ho29) | ((with_reducible refine gate_builtin (b := .append) (xs := #[.tmp 35, .tmp 36]) rfl ?_); at_builtin; refine Kd.R_append_rows (Kd.int .u8) (w0 := w) w.heap.size rfl (.tmp 35) (.tmp 36) 105 5 (.int .u8 0) 1 rfl Try.underlying105 info5 rfl (by decide) (by omega) v246 y245 x5_1 _ _ _ (fun k_ => some k_ ≠ (.slice Ao27 x5_1.length co27 : Value).ownBlock) (fun _ => False) rfl rfl ?aO ?aR (fun _ _ h => h) (fun _ h => h.elim) ?aF ?aB ?aS ?aL ?_; (case aR => repeat (first | exact (Kd.R_reads' HO_5.out).2.2 | (with_reducible refine Kd.C_alloc ?_ _) | (with_reducible refine Kd.C_drewN ?_ _) | (with_reducible refine Kd.C_drew ?_))); (case aB => exact (ky HB)); (case aF => exact (fun k_ hk => Kd.fresh' (Kd.R_lt (kr HO_5)) k_ hk)); (case aO => exact (by (with_reducible repeat (first | apply Kd.R_alloc | apply Kd.R_drewN | apply Kd.R_drew)); exact Kd.R_mono HO247.out (fun _ hk => hk.2))); (case aS => exact (below_size (ky HB))); (case aL => have := LMc26.out; omega); intro v249 w30 ho hb hg hat; rw [← Ny248.out] at ho; have n0_ := Aside0.mk (Kd.R_after (ok := (fun _ => True)) (kr HO_5) hg hat); have n1_ := Aside0.mk (blk_grown (g := gb222) (o := .cells #[.int .i64 a0_0, .int .u64 a0_1] 24 (0, 0)) (kx BK222) hg (Kd.R_ne HO247.out BK222.out (by decide))); have n2_ := Aside0.mk (hb); have n3_ := Aside0.mk (ho); clear HO_5; clear BK222; clear HB; clear HO247; have HO_5 := n0_; have BK222 := n1_; have HB := n2_; have HO250 := n3_; clear n0_ n1_ n2_ n3_; clear ho hb hg hat))
        go_roundg k1
        case measure => have := HK1.out; omega
        case rel => exact ⟨(t241), (t242), (y248), (by first | rfl | (simp; done) | (simp [*]; done)), (by first | rfl | (simp; done) | (simp [*]; done)), H', ⟨by have := HK1.out; omega⟩, ⟨by (with_reducible repeat (first | apply Kd.R_alloc | apply Kd.R_drewN | apply Kd.R_drew)); exact Kd.R_mono HO250.out (fun _ hk => trivial)⟩, ⟨kx BK222⟩, ⟨ky HB⟩⟩
      rw [if_pos c13] at H
      have c13b0 : ((Go.bits .or .u64 x3_1 x4_1) == 0) = true := beq_iff_eq.mpr c13
      have c13b1 : ((Go.bits .or .u64 x3_1 x4_1) != 0) = false := bne_eq_false_iff_eq.mpr c13
      clear c13
      by_cases c14 : a0_0 < 0
      rotate_left
      · rw [if_neg c14] at H
        have c14b0 : decide (a0_0 < 0) = false := decide_eq_false c14
        clear c14
        obtain rfl := Option.some.inj H
        obtain ⟨Ao22, co22, eo22⟩ := Kd.R_slice HO_5.out
        subst eo22
        have hcz23_0 : wr.cell? ⟨gb222, 0, none⟩ = some (.int .i64 a0_0) := kc BK222 0
        have hcz23_1 : wr.cell? ⟨gb222, 1, none⟩ = some (.int .u64 a0_1) := kc BK222 1
        have hfz23_0 := blk_frozen BK222.out 0
        have hfz23_1 := blk_frozen BK222.out 1
        have hcv24 := own_string (P := Try.prog) Try.underlying105 Try.underlying5 Try.underlying9 (Kd.own_of_R HO_5.out)
        go_wp2
        go_ret
        exact ⟨by first | rfl | (simp [errW_none, errW_some] <;> rfl) | (simp [*, errW_none, errW_some] <;> rfl), ky HB⟩
      rw [if_pos c14] at H
      have c14b0 : decide (a0_0 < 0) = true := decide_eq_true c14
      clear c14
      obtain ⟨y235, hy235⟩ : ∃ y_ : List Int, y_ = (([45] : List Int)) := ⟨_, rfl⟩
      replace H : (if y235.length + x5_1.length < 140737488355328 then (some (strOfNums (y235 ++ x5_1))) else (none)) = some r := by first | (rw [hy235]; with_reducible exact H) | (have H2_ := (Option.bind_some _ _).symm.trans H; rw [hy235]; with_reducible exact H2_) | (have H2_ := (Option.bind_some _ _).symm.trans H; with_reducible exact H2_) | with_reducible exact H | (rw [hy235]; exact H) | exact H
      have Ny235 := Aside0.mk hy235
      clear hy235
      by_cases c15 : y235.length + x5_1.length < 140737488355328
      rotate_left
      · rw [if_neg c15] at H
        exact absurd H (by simp)
      rw [if_pos c15] at H
      have LMc15 := Aside0.mk c15
      clear c15
      obtain ⟨y238, hy238⟩ : ∃ y_ : List Int, y_ = (y235 ++ x5_1) := ⟨_, rfl⟩
      replace H : (some (strOfNums y238)) = some r := by first | (rw [hy238]; with_reducible exact H) | (have H2_ := (Option.bind_some _ _).symm.trans H; rw [hy238]; with_reducible exact H2_) | (have H2_ := (Option.bind_some _ _).symm.trans H; with_reducible exact H2_) | with_reducible exact H | (rw [hy238]; exact H) | exact H
      have Ny238 := Aside0.mk hy238
      clear hy238
      obtain rfl := Option.some.inj H
      obtain ⟨Ao16, co16, eo16⟩ := Kd.R_slice HO_5.out
      subst eo16
      have hcz17_0 : wr.cell? ⟨gb222, 0, none⟩ = some (.int .i64 a0_0) := kc BK222 0
      have hcz17_1 : wr.cell? ⟨gb222, 1, none⟩ = some (.int .u64 a0_1) := kc BK222 1
      have hfz17_0 := blk_frozen BK222.out 0
      have hfz17_1 := blk_frozen BK222.out 1
      go_wp2_with (first | ((with_reducible refine gate_dst (N := 43) rfl ?_); refine Kd.R_lit (Kd.int .u8) _ 5 ?hg (N := 43) ?hd (xs := ([45] : List Int)) (inner := [.int .u8 45]) (ok := fun _ => True) (okp := fun _ => True) ?hr ?hp (fun _ hk => hk) trivial (Below.refl _ _) (Nat.le_refl _) (by simp) ?_; (case hd => rfl); (case hg => rfl); (case hr => first | (go_simp; done) | (go_simp; rfl)); (case hp => exact (Reps.one (show Kd.M (Kd.int .u8) _ _ _ 45 [.int .u8 45] from rfl) (Reps.none _ _))); intro v236 w18 ho19 hb hg_ hnew_; clear hg_ hnew_; (first | rw [← Ny235.out] at ho19 | (simp only [Int.reduceToNat] at ho19; rw [← Ny235.out] at ho19)); have n0_ := Aside0.mk (Kd.R_elder' (kr HO_5) (Kd.R_base ho19) hb); have n1_ := Aside0.mk (Kd.R_lower (Kd.R_new' ho19 (Kd.R_lt (kr HO_5))) (below_size (ky HB))); have n2_ := kb BK222 hb; have n3_ := kB HB hb; clear HO_5; clear BK222; clear HB; have HO_5 := n0_; have HO237 := n1_; have BK222 := n2_; have HB := n3_; clear n0_ n1_ n2_ n3_; clear hb ho19) | ((with_reducible refine gate_builtin (b := .append) (xs := #[.tmp 43, .tmp 44]) rfl ?_); at_builtin; refine Kd.R_append_rows (Kd.int .u8) (w0 := w) w.heap.size rfl (.tmp 43) (.tmp 44) 105 5 (.int .u8 0) 1 rfl Try.underlying105 info5 rfl (by decide) (by omega) v236 y235 x5_1 _ _ _ (fun k_ => some k_ ≠ (.slice Ao16 x5_1.length co16 : Value).ownBlock) (fun _ => False) rfl rfl ?aO ?aR (fun _ _ h => h) (fun _ h => h.elim) ?aF ?aB ?aS ?aL ?_; (case aR => repeat (first | exact (Kd.R_reads' HO_5.out).2.2 | (with_reducible refine Kd.C_alloc ?_ _) | (with_reducible refine Kd.C_drewN ?_ _) | (with_reducible refine Kd.C_drew ?_))); (case aB => exact (ky HB)); (case aF => exact (fun k_ hk => Kd.fresh' (Kd.R_lt (kr HO_5)) k_ hk)); (case aO => exact (by (with_reducible repeat (first | apply Kd.R_alloc | apply Kd.R_drewN | apply Kd.R_drew)); exact Kd.R_mono HO237.out (fun _ hk => hk.2))); (case aS => exact (below_size (ky HB))); (case aL => have := LMc15.out; omega); intro v239 w20 ho hb hg hat; rw [← Ny238.out] at ho; have n0_ := Aside0.mk (Kd.R_after (ok := (fun _ => True)) (kr HO_5) hg hat); have n1_ := Aside0.mk (blk_grown (g := gb222) (o := .cells #[.int .i64 a0_0, .int .u64 a0_1] 24 (0, 0)) (kx BK222) hg (Kd.R_ne HO237.out BK222.out (by decide))); have n2_ := Aside0.mk (hb); have n3_ := Aside0.mk (ho); clear HO_5; clear BK222; clear HB; clear HO237; have HO_5 := n0_; have BK222 := n1_; have HB := n2_; have HO240 := n3_; clear n0_ n1_ n2_ n3_; clear ho hb hg hat; have hcv21 := own_string (P := Try.prog) Try.underlying105 Try.underlying5 Try.underlying9 (Kd.own_of_R HO240.out)))
      go_ret
      exact ⟨by first | rfl | (simp [errW_none, errW_some] <;> rfl) | (simp [*, errW_none, errW_some] <;> rfl), ky HB⟩
end Go.Proofs.Ytpjbniihdndlmaa.Q
