-- Printed by wip/pp.sh (a session's own turning of the kit's print) for this seat.
import Derived.Test.YtpjbniihdndlmaaQx0
namespace Go.Proofs.Ytpjbniihdndlmaa.Q
open Go.RowKit Go.Proofs.YtpjbniihdndlmaaW.PrintWords Go.Proofs.YtpjbniihdndlmaaW.PrintLast Go.Proofs.YtpjbniihdndlmaaW.PrintMore
open Go.Proofs.Ytpjbniihdndlmaa.H
attribute [local go_sem] hq_add64 hq_sub64 hq_not64 add64c_nn sub64c_nn sub64c_le
attribute [local go_sem] max2_int min2_int max_two min_two max_three min_three max_four min_four   -- for this text's walks alone
set_option linter.unusedVariables false
set_option linter.unusedSimpArgs false

-- NOT PRINTED: function 53 (bits_Add64)

/-! ### wide_wrap: function 65 -/
def wide_wrap.f (a0_0 : Int) (a0_1 : Int) (a1_0 : Int) (a1_1 : Int) : Option (Int × Int) := if (add64c a0_1 a1_1 0) ≤ 1 then (some (wrap64 (add64s (IntKind.u64.wrap (a0_0)) (IntKind.u64.wrap (a1_0)) (add64c a0_1 a1_1 0)), add64s a0_1 a1_1 0)) else (none)
set_option maxHeartbeats 8000000 in
set_option maxRecDepth 100000 in
theorem wide_wrap.calls (a0_0 : Int) (a0_1 : Int) (a1_0 : Int) (a1_1 : Int) (r1 : Int) (r2 : Int) (w : World) (h : wide_wrap.f a0_0 a0_1 a1_0 a1_1 = some (r1, r2)) :
    Calls Try.prog 65 #[.agg #[.int .i64 a0_0, .int .u64 a0_1], .agg #[.int .i64 a1_0, .int .u64 a1_1]] w fun e w' => e = .returned (.agg #[.int .i64 r1, .int .u64 r2]) ∧ Below w.heap.size w w' := by
  have hu24 := Try.underlying24
  have HB := Aside0.mk (Below.refl w.heap.size w)
  have H : (if (add64c a0_1 a1_1 0) ≤ 1 then (some (wrap64 (add64s (IntKind.u64.wrap (a0_0)) (IntKind.u64.wrap (a1_0)) (add64c a0_1 a1_1 0)), add64s a0_1 a1_1 0)) else (none)) = some (r1, r2) := h
  clear h
  by_cases c3 : (add64c a0_1 a1_1 0) ≤ 1
  rotate_left
  · rw [if_neg c3] at H
    exact absurd H (by simp)

  rw [if_pos c3] at H
  have c3b0 := eq_true c3
  have c3b1 : decide ((add64c a0_1 a1_1 0) ≤ 1) = true := decide_eq_true c3
  clear c3
  simp only [Option.some.injEq, Prod.mk.injEq] at H
  obtain ⟨rfl, rfl⟩ := H
  go_enter Try.func65, Try.ntmps65
  go_wp2_with (first | ((with_reducible refine gate_dst (N := 2) rfl ?_); refine box_event ?hg (N := 2) ?hd (cs := #[.int .i64 a0_0, .int .u64 a0_1]) (t := 24) ?hr ?_; (case hd => rfl); (case hg => rfl); (case hr => first | (go_simp; done) | (go_simp; rfl)); intro gb101 hg w4 hbox hb; have BK101 := Aside0.mk (hbox); have GW101 := kS HB hg; have GE101 := kS HB hg; replace HB := kB HB hb; clear hb hbox hg) | ((with_reducible refine gate_dst (N := 3) rfl ?_); refine box_event ?hg (N := 3) ?hd (cs := #[.int .i64 a1_0, .int .u64 a1_1]) (t := 24) ?hr ?_; (case hd => rfl); (case hg => rfl); (case hr => first | (go_simp; done) | (go_simp; rfl)); intro gb102 hg w5 hbox hb; have BK102 := Aside0.mk (hbox); have GW102 := kS HB hg; have GE102 := kS HB hg; have NB101_102 := kN BK101 hg; have NB102_101 := kM BK101 hg; replace BK101 := kb BK101 hb; replace HB := kB HB hb; clear hb hbox hg) | ((with_reducible refine gate_dst (N := 4) rfl ?_); refine box_event ?hg (N := 4) ?hd (cs := #[.int .i64 0, .int .u64 0]) (t := 24) ?hr ?_; (case hd => rfl); (case hg => rfl); (case hr => first | (go_simp; done) | (go_simp; rfl)); intro gb103 hg w6 hbox hb; have BK103 := Aside0.mk (hbox); have GW103 := kS HB hg; have GE103 := kS HB hg; have NB101_103 := kN BK101 hg; have NB103_101 := kM BK101 hg; have NB102_103 := kN BK102 hg; have NB103_102 := kM BK102 hg; replace BK101 := kb BK101 hb; replace BK102 := kb BK102 hb; replace HB := kB HB hb; clear hb hbox hg; have hnb7 := NB101_102.out; have hnc7 := NB102_101.out; have hnb8 := NB101_103.out; have hnc8 := NB103_101.out; have hcz9_0 : w6.cell? ⟨gb101, 0, none⟩ = some (.int .i64 a0_0) := kc BK101 0; have hcz9_1 : w6.cell? ⟨gb101, 1, none⟩ = some (.int .u64 a0_1) := kc BK101 1; have hfz9_0 := blk_frozen BK101.out 0; have hfz9_1 := blk_frozen BK101.out 1; have hnb10 := NB102_103.out; have hnc10 := NB103_102.out; have hcz11_0 : w6.cell? ⟨gb102, 0, none⟩ = some (.int .i64 a1_0) := kc BK102 0; have hcz11_1 : w6.cell? ⟨gb102, 1, none⟩ = some (.int .u64 a1_1) := kc BK102 1; have hfz11_0 := blk_frozen BK102.out 0; have hfz11_1 := blk_frozen BK102.out 1; have hcz12_0 : w6.cell? ⟨gb103, 0, none⟩ = some (.int .i64 0) := kc BK103 0; have hcz12_1 : w6.cell? ⟨gb103, 1, none⟩ = some (.int .u64 0) := kc BK103 1; have hfz12_0 := blk_frozen BK103.out 0; have hfz12_1 := blk_frozen BK103.out 1) | ((first | rw [hq_add64] | rw [hq_sub64]); rotate_left; (first | decide | exact add64c_nn _ _ _ | exact sub64c_nn _ _ _); (first | decide | exact sub64c_le _ _ _ | exact of_eq_true (by assumption))))
  refine bodyPost_ret (results_cell_row rfl _ _ gb103 24 #[.int .i64 (wrap64 (add64s (IntKind.u64.wrap (a0_0)) (IntKind.u64.wrap (a1_0)) (add64c a0_1 a1_1 0))), .int .u64 (add64s a0_1 a1_1 0)] (0, 0) _ rfl (by (with_reducible repeat (first | refine blk_drewN ?_ _ | refine blk_drew ?_ | refine blk_alloc ?_ _)); refine blk_put (cs := #[.int .i64 (wrap64 (add64s (IntKind.u64.wrap (a0_0)) (IntKind.u64.wrap (a1_0)) (add64c a0_1 a1_1 0))), .int .u64 0]) ?_ 1 _ rfl; (with_reducible repeat (first | refine blk_drewN ?_ _ | refine blk_drew ?_ | refine blk_alloc ?_ _)); refine blk_put (cs := #[.int .i64 0, .int .u64 0]) ?_ 0 _ rfl; (with_reducible repeat (first | refine blk_drewN ?_ _ | refine blk_drew ?_ | refine blk_alloc ?_ _)); exact BK103.out) Try.underlying24 rfl (by kernel_rfl)) rfl ?_
  exact ⟨by first | rfl | (simp [errW_none, errW_some] <;> rfl) | (simp [*, errW_none, errW_some] <;> rfl), ky HB⟩
/-! ### wide_turn: function 66 -/
def wide_turn.f (a0_0 : Int) (a0_1 : Int) : Option (Int × Int) := (wide_wrap.f (Go.bits .xor .i64 (-1) a0_0) (not64 a0_1) 0 1).bind fun bt106 => (some (bt106.1, bt106.2))
set_option maxHeartbeats 8000000 in
set_option maxRecDepth 100000 in
theorem wide_turn.calls (a0_0 : Int) (a0_1 : Int) (r1 : Int) (r2 : Int) (w : World) (h : wide_turn.f a0_0 a0_1 = some (r1, r2)) :
    Calls Try.prog 66 #[.agg #[.int .i64 a0_0, .int .u64 a0_1]] w fun e w' => e = .returned (.agg #[.int .i64 r1, .int .u64 r2]) ∧ Below w.heap.size w w' := by
  have hu24 := Try.underlying24
  have HB := Aside0.mk (Below.refl w.heap.size w)
  have H : ((wide_wrap.f (Go.bits .xor .i64 (-1) a0_0) (not64 a0_1) 0 1).bind fun bt106 => (some (bt106.1, bt106.2))) = some (r1, r2) := h
  clear h
  replace H := Option.bind_eq_some_iff.mp H
  obtain ⟨⟨t106, t107⟩, A20, H⟩ := H
  replace H : (some (t106, t107)) = some (r1, r2) := H
  have A2 := Aside0.mk A20
  clear A20
  simp only [Option.some.injEq, Prod.mk.injEq] at H
  obtain ⟨rfl, rfl⟩ := H
  go_enter Try.func66, Try.ntmps66
  go_wp2_with (first | ((with_reducible refine gate_dst (N := 1) rfl ?_); refine box_event ?hg (N := 1) ?hd (cs := #[.int .i64 a0_0, .int .u64 a0_1]) (t := 24) ?hr ?_; (case hd => rfl); (case hg => rfl); (case hr => first | (go_simp; done) | (go_simp; rfl)); intro gb104 hg w3 hbox hb; have BK104 := Aside0.mk (hbox); have GW104 := kS HB hg; have GE104 := kS HB hg; replace HB := kB HB hb; clear hb hbox hg) | ((with_reducible refine gate_dst (N := 2) rfl ?_); refine box_event ?hg (N := 2) ?hd (cs := #[.int .i64 0, .int .u64 0]) (t := 24) ?hr ?_; (case hd => rfl); (case hg => rfl); (case hr => first | (go_simp; done) | (go_simp; rfl)); intro gb105 hg w4 hbox hb; have BK105 := Aside0.mk (hbox); have GW105 := kS HB hg; have GE105 := kS HB hg; have NB104_105 := kN BK104 hg; have NB105_104 := kM BK104 hg; replace BK104 := kb BK104 hb; replace HB := kB HB hb; clear hb hbox hg; have hnb5 := NB104_105.out; have hnc5 := NB105_104.out; have hcz6_0 : w4.cell? ⟨gb104, 0, none⟩ = some (.int .i64 a0_0) := kc BK104 0; have hcz6_1 : w4.cell? ⟨gb104, 1, none⟩ = some (.int .u64 a0_1) := kc BK104 1; have hfz6_0 := blk_frozen BK104.out 0; have hfz6_1 := blk_frozen BK104.out 1) | ((with_reducible refine gate_callee (f := 65) rfl ?_); refine goesL_ (some 11) rfl rfl Try.func65 (by kernel_rfl) rfl #[.agg #[.int .i64 (Go.bits .xor .i64 (-1) a0_0), .int .u64 (not64 a0_1)], .agg #[.int .i64 0, .int .u64 1]] rfl (by (try simp only [List.map_toArray, List.map_cons, List.map_nil]); first | done | rfl | (simp only [List.length_drop, List.length_take]; rfl)) ?_; (with_reducible refine (wide_wrap.calls (Go.bits .xor .i64 (-1) a0_0) (not64 a0_1) 0 1 t106 t107 _ A2.out).mono ?_); rintro e w7 ⟨rfl, hb⟩; refine ⟨_, rfl, ?_⟩; replace BK104 := kb BK104 hb; replace BK105 := kb BK105 hb; replace HB := kB HB hb; (try clear hb); (try clear hb2); (try clear hk); (try clear hi); have hcz8_0 : w7.cell? ⟨gb105, 0, none⟩ = some (.int .i64 0) := kc BK105 0; have hcz8_1 : w7.cell? ⟨gb105, 1, none⟩ = some (.int .u64 0) := kc BK105 1; have hfz8_0 := blk_frozen BK105.out 0; have hfz8_1 := blk_frozen BK105.out 1))
  refine bodyPost_ret (results_cell_row rfl _ _ gb105 24 #[.int .i64 t106, .int .u64 t107] (0, 0) _ rfl (by (with_reducible repeat (first | refine blk_drewN ?_ _ | refine blk_drew ?_ | refine blk_alloc ?_ _)); refine blk_put (cs := #[.int .i64 t106, .int .u64 0]) ?_ 1 _ rfl; (with_reducible repeat (first | refine blk_drewN ?_ _ | refine blk_drew ?_ | refine blk_alloc ?_ _)); refine blk_put (cs := #[.int .i64 0, .int .u64 0]) ?_ 0 _ rfl; (with_reducible repeat (first | refine blk_drewN ?_ _ | refine blk_drew ?_ | refine blk_alloc ?_ _)); exact BK105.out) Try.underlying24 rfl (by kernel_rfl)) rfl ?_
  exact ⟨by first | rfl | (simp [errW_none, errW_some] <;> rfl) | (simp [*, errW_none, errW_some] <;> rfl), ky HB⟩

/-! ### wide_size: function 51 -/
def wide_size.f (a0_0 : Int) (a0_1 : Int) : Option (Int × Int) := if a0_0 < 0 then ((wide_turn.f a0_0 a0_1).bind fun bt109 => (some (IntKind.u64.wrap (bt109.1), bt109.2))) else (some (IntKind.u64.wrap (a0_0), a0_1))
set_option maxHeartbeats 8000000 in
set_option maxRecDepth 100000 in
theorem wide_size.calls (a0_0 : Int) (a0_1 : Int) (r1 : Int) (r2 : Int) (w : World) (h : wide_size.f a0_0 a0_1 = some (r1, r2)) :
    Calls Try.prog 51 #[.agg #[.int .i64 a0_0, .int .u64 a0_1]] w fun e w' => e = .returned (.tuple #[.int .u64 r1, .int .u64 r2]) ∧ Below w.heap.size w w' := by
  have hu24 := Try.underlying24
  have HB := Aside0.mk (Below.refl w.heap.size w)
  have H : (if a0_0 < 0 then ((wide_turn.f a0_0 a0_1).bind fun bt109 => (some (IntKind.u64.wrap (bt109.1), bt109.2))) else (some (IntKind.u64.wrap (a0_0), a0_1))) = some (r1, r2) := h
  clear h
  by_cases c2 : a0_0 < 0
  rotate_left
  · rw [if_neg c2] at H
    have c2b0 : decide (a0_0 < 0) = false := decide_eq_false c2
    clear c2
    simp only [Option.some.injEq, Prod.mk.injEq] at H
    obtain ⟨rfl, rfl⟩ := H
    go_enter Try.func51, Try.ntmps51
    go_wp2_with (first | ((with_reducible refine gate_dst (N := 1) rfl ?_); refine box_event ?hg (N := 1) ?hd (cs := #[.int .i64 a0_0, .int .u64 a0_1]) (t := 24) ?hr ?_; (case hd => rfl); (case hg => rfl); (case hr => first | (go_simp; done) | (go_simp; rfl)); intro gb108 hg w8 hbox hb; have BK108 := Aside0.mk (hbox); have GW108 := kS HB hg; have GE108 := kS HB hg; replace HB := kB HB hb; clear hb hbox hg; have hcz9_0 : w8.cell? ⟨gb108, 0, none⟩ = some (.int .i64 a0_0) := kc BK108 0; have hcz9_1 : w8.cell? ⟨gb108, 1, none⟩ = some (.int .u64 a0_1) := kc BK108 1; have hfz9_0 := blk_frozen BK108.out 0; have hfz9_1 := blk_frozen BK108.out 1))
    repeat (go_quiet (first | ((with_reducible refine gate_dst (N := 1) rfl ?_); refine box_event ?hg (N := 1) ?hd (cs := #[.int .i64 a0_0, .int .u64 a0_1]) (t := 24) ?hr ?_; (case hd => rfl); (case hg => rfl); (case hr => first | (go_simp; done) | (go_simp; rfl)); intro gb108 hg w8 hbox hb; have BK108 := Aside0.mk (hbox); have GW108 := kS HB hg; have GE108 := kS HB hg; replace HB := kB HB hb; clear hb hbox hg; have hcz9_0 : w8.cell? ⟨gb108, 0, none⟩ = some (.int .i64 a0_0) := kc BK108 0; have hcz9_1 : w8.cell? ⟨gb108, 1, none⟩ = some (.int .u64 a0_1) := kc BK108 1; have hfz9_0 := blk_frozen BK108.out 0; have hfz9_1 := blk_frozen BK108.out 1)); try go_wp2_with (first | ((with_reducible refine gate_dst (N := 1) rfl ?_); refine box_event ?hg (N := 1) ?hd (cs := #[.int .i64 a0_0, .int .u64 a0_1]) (t := 24) ?hr ?_; (case hd => rfl); (case hg => rfl); (case hr => first | (go_simp; done) | (go_simp; rfl)); intro gb108 hg w8 hbox hb; have BK108 := Aside0.mk (hbox); have GW108 := kS HB hg; have GE108 := kS HB hg; replace HB := kB HB hb; clear hb hbox hg; have hcz9_0 : w8.cell? ⟨gb108, 0, none⟩ = some (.int .i64 a0_0) := kc BK108 0; have hcz9_1 : w8.cell? ⟨gb108, 1, none⟩ = some (.int .u64 a0_1) := kc BK108 1; have hfz9_0 := blk_frozen BK108.out 0; have hfz9_1 := blk_frozen BK108.out 1)))
    go_ret2
    exact ⟨by first | rfl | (simp [errW_none, errW_some] <;> rfl) | (simp [*, errW_none, errW_some] <;> rfl), ky HB⟩

  rw [if_pos c2] at H
  have c2b0 : decide (a0_0 < 0) = true := decide_eq_true c2
  clear c2
  replace H := Option.bind_eq_some_iff.mp H
  obtain ⟨⟨t109, t110⟩, A30, H⟩ := H
  replace H : (some (IntKind.u64.wrap (t109), t110)) = some (r1, r2) := H
  have A3 := Aside0.mk A30
  clear A30
  simp only [Option.some.injEq, Prod.mk.injEq] at H
  obtain ⟨rfl, rfl⟩ := H
  go_enter Try.func51, Try.ntmps51
  go_wp2_with (first | ((with_reducible refine gate_dst (N := 1) rfl ?_); refine box_event ?hg (N := 1) ?hd (cs := #[.int .i64 a0_0, .int .u64 a0_1]) (t := 24) ?hr ?_; (case hd => rfl); (case hg => rfl); (case hr => first | (go_simp; done) | (go_simp; rfl)); intro gb108 hg w4 hbox hb; have BK108 := Aside0.mk (hbox); have GW108 := kS HB hg; have GE108 := kS HB hg; replace HB := kB HB hb; clear hb hbox hg; have hcz5_0 : w4.cell? ⟨gb108, 0, none⟩ = some (.int .i64 a0_0) := kc BK108 0; have hcz5_1 : w4.cell? ⟨gb108, 1, none⟩ = some (.int .u64 a0_1) := kc BK108 1; have hfz5_0 := blk_frozen BK108.out 0; have hfz5_1 := blk_frozen BK108.out 1) | (go_at_call 66; (with_reducible refine (wide_turn.calls a0_0 a0_1 t109 t110 _ A3.out).mono ?_); rintro e w6 ⟨rfl, hb⟩; replace BK108 := kb BK108 hb; replace HB := kB HB hb; (try clear hb); (try clear hb2); (try clear hk); (try clear hi); have hcz7_0 : w6.cell? ⟨gb108, 0, none⟩ = some (.int .i64 a0_0) := kc BK108 0; have hcz7_1 : w6.cell? ⟨gb108, 1, none⟩ = some (.int .u64 a0_1) := kc BK108 1; have hfz7_0 := blk_frozen BK108.out 0; have hfz7_1 := blk_frozen BK108.out 1))
  repeat (go_quiet (first | ((with_reducible refine gate_dst (N := 1) rfl ?_); refine box_event ?hg (N := 1) ?hd (cs := #[.int .i64 a0_0, .int .u64 a0_1]) (t := 24) ?hr ?_; (case hd => rfl); (case hg => rfl); (case hr => first | (go_simp; done) | (go_simp; rfl)); intro gb108 hg w4 hbox hb; have BK108 := Aside0.mk (hbox); have GW108 := kS HB hg; have GE108 := kS HB hg; replace HB := kB HB hb; clear hb hbox hg; have hcz5_0 : w4.cell? ⟨gb108, 0, none⟩ = some (.int .i64 a0_0) := kc BK108 0; have hcz5_1 : w4.cell? ⟨gb108, 1, none⟩ = some (.int .u64 a0_1) := kc BK108 1; have hfz5_0 := blk_frozen BK108.out 0; have hfz5_1 := blk_frozen BK108.out 1) | (go_at_call 66; (with_reducible refine (wide_turn.calls a0_0 a0_1 t109 t110 _ A3.out).mono ?_); rintro e w6 ⟨rfl, hb⟩; replace BK108 := kb BK108 hb; replace HB := kB HB hb; (try clear hb); (try clear hb2); (try clear hk); (try clear hi); have hcz7_0 : w6.cell? ⟨gb108, 0, none⟩ = some (.int .i64 a0_0) := kc BK108 0; have hcz7_1 : w6.cell? ⟨gb108, 1, none⟩ = some (.int .u64 a0_1) := kc BK108 1; have hfz7_0 := blk_frozen BK108.out 0; have hfz7_1 := blk_frozen BK108.out 1)); try go_wp2_with (first | ((with_reducible refine gate_dst (N := 1) rfl ?_); refine box_event ?hg (N := 1) ?hd (cs := #[.int .i64 a0_0, .int .u64 a0_1]) (t := 24) ?hr ?_; (case hd => rfl); (case hg => rfl); (case hr => first | (go_simp; done) | (go_simp; rfl)); intro gb108 hg w4 hbox hb; have BK108 := Aside0.mk (hbox); have GW108 := kS HB hg; have GE108 := kS HB hg; replace HB := kB HB hb; clear hb hbox hg; have hcz5_0 : w4.cell? ⟨gb108, 0, none⟩ = some (.int .i64 a0_0) := kc BK108 0; have hcz5_1 : w4.cell? ⟨gb108, 1, none⟩ = some (.int .u64 a0_1) := kc BK108 1; have hfz5_0 := blk_frozen BK108.out 0; have hfz5_1 := blk_frozen BK108.out 1) | (go_at_call 66; (with_reducible refine (wide_turn.calls a0_0 a0_1 t109 t110 _ A3.out).mono ?_); rintro e w6 ⟨rfl, hb⟩; replace BK108 := kb BK108 hb; replace HB := kB HB hb; (try clear hb); (try clear hb2); (try clear hk); (try clear hi); have hcz7_0 : w6.cell? ⟨gb108, 0, none⟩ = some (.int .i64 a0_0) := kc BK108 0; have hcz7_1 : w6.cell? ⟨gb108, 1, none⟩ = some (.int .u64 a0_1) := kc BK108 1; have hfz7_0 := blk_frozen BK108.out 0; have hfz7_1 := blk_frozen BK108.out 1)))
  go_ret2
  exact ⟨by first | rfl | (simp [errW_none, errW_some] <;> rfl) | (simp [*, errW_none, errW_some] <;> rfl), ky HB⟩
/-! ### bits_Mul64: function 52 -/
def bits_Mul64.f (a0 : Int) (a1 : Int) : Option (Int × Int) := some (IntKind.u64.wrap ((IntKind.u64.wrap ((IntKind.u64.wrap ((a0 / 4294967296) * (a1 / 4294967296))) + ((IntKind.u64.wrap ((IntKind.u64.wrap ((a0 / 4294967296) * (Go.bits .and .u64 a1 4294967295))) + ((IntKind.u64.wrap ((Go.bits .and .u64 a0 4294967295) * (Go.bits .and .u64 a1 4294967295))) / 4294967296))) / 4294967296))) + ((IntKind.u64.wrap ((Go.bits .and .u64 (IntKind.u64.wrap ((IntKind.u64.wrap ((a0 / 4294967296) * (Go.bits .and .u64 a1 4294967295))) + ((IntKind.u64.wrap ((Go.bits .and .u64 a0 4294967295) * (Go.bits .and .u64 a1 4294967295))) / 4294967296))) 4294967295) + (IntKind.u64.wrap ((Go.bits .and .u64 a0 4294967295) * (a1 / 4294967296))))) / 4294967296)), IntKind.u64.wrap (a0 * a1))
set_option maxHeartbeats 8000000 in
set_option maxRecDepth 100000 in
theorem bits_Mul64.calls (a0 : Int) (a1 : Int) (r1 : Int) (r2 : Int) (w : World) (h : bits_Mul64.f a0 a1 = some (r1, r2)) :
    Calls Try.prog 52 #[.int .u64 a0, .int .u64 a1] w fun e w' => e = .returned (.tuple #[.int .u64 r1, .int .u64 r2]) ∧ Drawn0 w w' := by
  have H : (some (IntKind.u64.wrap ((IntKind.u64.wrap ((IntKind.u64.wrap ((a0 / 4294967296) * (a1 / 4294967296))) + ((IntKind.u64.wrap ((IntKind.u64.wrap ((a0 / 4294967296) * (Go.bits .and .u64 a1 4294967295))) + ((IntKind.u64.wrap ((Go.bits .and .u64 a0 4294967295) * (Go.bits .and .u64 a1 4294967295))) / 4294967296))) / 4294967296))) + ((IntKind.u64.wrap ((Go.bits .and .u64 (IntKind.u64.wrap ((IntKind.u64.wrap ((a0 / 4294967296) * (Go.bits .and .u64 a1 4294967295))) + ((IntKind.u64.wrap ((Go.bits .and .u64 a0 4294967295) * (Go.bits .and .u64 a1 4294967295))) / 4294967296))) 4294967295) + (IntKind.u64.wrap ((Go.bits .and .u64 a0 4294967295) * (a1 / 4294967296))))) / 4294967296)), IntKind.u64.wrap (a0 * a1))) = some (r1, r2) := h
  clear h
  simp only [Option.some.injEq, Prod.mk.injEq] at H
  obtain ⟨rfl, rfl⟩ := H
  go_enter Try.func52, Try.ntmps52
  go_wp2
  go_ret2
  exact ⟨by first | rfl | (simp; done) | (simp [*]; done), by repeat (first | exact Drawn0.refl _ | apply Drawn0.step)⟩

/-! ### wide_told: function 59 -/
def wide_told.f (a0_0 : Int) (a0_1 : Int) (a1 : Bool) : Option (Int × Int × Bool) := if a1 = true then (some (a0_0, a0_1, true)) else (some (0, 0, false))
set_option maxHeartbeats 8000000 in
set_option maxRecDepth 100000 in
theorem wide_told.calls (a0_0 : Int) (a0_1 : Int) (a1 : Bool) (r1 : Int) (r2 : Int) (r3 : Bool) (w : World) (h : wide_told.f a0_0 a0_1 a1 = some (r1, r2, r3)) :
    Calls Try.prog 59 #[.agg #[.int .i64 a0_0, .int .u64 a0_1], .bool a1] w fun e w' => e = .returned (.tuple #[.agg #[.int .i64 r1, .int .u64 r2], .bool r3]) ∧ Below w.heap.size w w' := by
  have hu24 := Try.underlying24
  have HB := Aside0.mk (Below.refl w.heap.size w)
  have H : (if a1 = true then (some (a0_0, a0_1, true)) else (some (0, 0, false))) = some (r1, r2, r3) := h
  clear h
  by_cases c3 : a1 = true
  rotate_left
  · replace c3 := Bool.eq_false_iff.mpr c3
    subst c3
    have H1 : (some (0, 0, false)) = some (r1, r2, r3) := by rw [if_neg (show ¬ (false = true) by decide)] at H; exact H
    clear H; have H := H1; clear H1
    simp only [Option.some.injEq, Prod.mk.injEq] at H
    obtain ⟨rfl, rfl, rfl⟩ := H
    go_enter Try.func59, Try.ntmps59
    go_wp2_with (first | ((with_reducible refine gate_dst (N := 2) rfl ?_); refine box_event ?hg (N := 2) ?hd (cs := #[.int .i64 a0_0, .int .u64 a0_1]) (t := 24) ?hr ?_; (case hd => rfl); (case hg => rfl); (case hr => first | (go_simp; done) | (go_simp; rfl)); intro gb111 hg w9 hbox hb; have BK111 := Aside0.mk (hbox); have GW111 := kS HB hg; have GE111 := kS HB hg; replace HB := kB HB hb; clear hb hbox hg) | ((with_reducible refine gate_dst (N := 4) rfl ?_); refine box_event ?hg (N := 4) ?hd (cs := #[.int .i64 0, .int .u64 0]) (t := 24) ?hr ?_; (case hd => rfl); (case hg => rfl); (case hr => first | (go_simp; done) | (go_simp; rfl)); intro gb112 hg w10 hbox hb; have BK112 := Aside0.mk (hbox); have GW112 := kS HB hg; have GE112 := kS HB hg; have NB111_112 := kN BK111 hg; have NB112_111 := kM BK111 hg; replace BK111 := kb BK111 hb; replace HB := kB HB hb; clear hb hbox hg; have hnb11 := NB112_111.out; have hnc11 := NB111_112.out; have hcz12_0 : w10.cell? ⟨gb112, 0, none⟩ = some (.int .i64 0) := kc BK112 0; have hcz12_1 : w10.cell? ⟨gb112, 1, none⟩ = some (.int .u64 0) := kc BK112 1; have hfz12_0 := blk_frozen BK112.out 0; have hfz12_1 := blk_frozen BK112.out 1))
    refine bodyPost_ret (results_ct rfl _ _ gb112 24 #[.int .i64 0, .int .u64 0] (0, 0) _ rfl (by (with_reducible repeat (first | refine blk_drewN ?_ _ | refine blk_drew ?_ | refine blk_alloc ?_ _)); refine blk_put (cs := #[.int .i64 0, .int .u64 0]) ?_ 1 _ rfl; (with_reducible repeat (first | refine blk_drewN ?_ _ | refine blk_drew ?_ | refine blk_alloc ?_ _)); refine blk_put (cs := #[.int .i64 0, .int .u64 0]) ?_ 0 _ rfl; (with_reducible repeat (first | refine blk_drewN ?_ _ | refine blk_drew ?_ | refine blk_alloc ?_ _)); exact BK112.out) Try.underlying24 rfl (by kernel_rfl)) rfl ?_
    exact ⟨by first | rfl | (simp [errW_none, errW_some] <;> rfl) | (simp [*, errW_none, errW_some] <;> rfl), ky HB⟩

  subst c3
  have H1 : (some (a0_0, a0_1, true)) = some (r1, r2, r3) := by rw [if_pos rfl] at H; exact H
  clear H; have H := H1; clear H1
  simp only [Option.some.injEq, Prod.mk.injEq] at H
  obtain ⟨rfl, rfl, rfl⟩ := H
  go_enter Try.func59, Try.ntmps59
  go_wp2_with (first | ((with_reducible refine gate_dst (N := 2) rfl ?_); refine box_event ?hg (N := 2) ?hd (cs := #[.int .i64 a0_0, .int .u64 a0_1]) (t := 24) ?hr ?_; (case hd => rfl); (case hg => rfl); (case hr => first | (go_simp; done) | (go_simp; rfl)); intro gb111 hg w4 hbox hb; have BK111 := Aside0.mk (hbox); have GW111 := kS HB hg; have GE111 := kS HB hg; replace HB := kB HB hb; clear hb hbox hg) | ((with_reducible refine gate_dst (N := 4) rfl ?_); refine box_event ?hg (N := 4) ?hd (cs := #[.int .i64 0, .int .u64 0]) (t := 24) ?hr ?_; (case hd => rfl); (case hg => rfl); (case hr => first | (go_simp; done) | (go_simp; rfl)); intro gb112 hg w5 hbox hb; have BK112 := Aside0.mk (hbox); have GW112 := kS HB hg; have GE112 := kS HB hg; have NB111_112 := kN BK111 hg; have NB112_111 := kM BK111 hg; replace BK111 := kb BK111 hb; replace HB := kB HB hb; clear hb hbox hg; have hnb6 := NB111_112.out; have hnc6 := NB112_111.out; have hcz7_0 : w5.cell? ⟨gb111, 0, none⟩ = some (.int .i64 a0_0) := kc BK111 0; have hcz7_1 : w5.cell? ⟨gb111, 1, none⟩ = some (.int .u64 a0_1) := kc BK111 1; have hfz7_0 := blk_frozen BK111.out 0; have hfz7_1 := blk_frozen BK111.out 1; have hcz8_0 : w5.cell? ⟨gb112, 0, none⟩ = some (.int .i64 0) := kc BK112 0; have hcz8_1 : w5.cell? ⟨gb112, 1, none⟩ = some (.int .u64 0) := kc BK112 1; have hfz8_0 := blk_frozen BK112.out 0; have hfz8_1 := blk_frozen BK112.out 1))
  refine bodyPost_ret (results_ct rfl _ _ gb112 24 #[.int .i64 a0_0, .int .u64 a0_1] (0, 0) _ rfl (by (with_reducible repeat (first | refine blk_drewN ?_ _ | refine blk_drew ?_ | refine blk_alloc ?_ _)); refine blk_put (cs := #[.int .i64 a0_0, .int .u64 0]) ?_ 1 _ rfl; (with_reducible repeat (first | refine blk_drewN ?_ _ | refine blk_drew ?_ | refine blk_alloc ?_ _)); refine blk_put (cs := #[.int .i64 0, .int .u64 0]) ?_ 0 _ rfl; (with_reducible repeat (first | refine blk_drewN ?_ _ | refine blk_drew ?_ | refine blk_alloc ?_ _)); exact BK112.out) Try.underlying24 rfl (by kernel_rfl)) rfl ?_
  exact ⟨by first | rfl | (simp [errW_none, errW_some] <;> rfl) | (simp [*, errW_none, errW_some] <;> rfl), ky HB⟩
/-! ### wide_least: function 76 -/
def wide_least.f  : Option (Int × Int) := some ((-9223372036854775808), 0)
set_option maxHeartbeats 8000000 in
set_option maxRecDepth 100000 in
theorem wide_least.calls  (r1 : Int) (r2 : Int) (w : World) (h : wide_least.f  = some (r1, r2)) :
    Calls Try.prog 76 #[] w fun e w' => e = .returned (.agg #[.int .i64 r1, .int .u64 r2]) ∧ Below w.heap.size w w' := by
  have hu24 := Try.underlying24
  have HB := Aside0.mk (Below.refl w.heap.size w)
  have H : (some ((-9223372036854775808), 0)) = some (r1, r2) := h
  clear h
  simp only [Option.some.injEq, Prod.mk.injEq] at H
  obtain ⟨rfl, rfl⟩ := H
  go_enter Try.func76, Try.ntmps76
  go_wp2_with (first | ((with_reducible refine gate_dst (N := 0) rfl ?_); refine box_event ?hg (N := 0) ?hd (cs := #[.int .i64 0, .int .u64 0]) (t := 24) ?hr ?_; (case hd => rfl); (case hg => rfl); (case hr => first | (go_simp; done) | (go_simp; rfl)); intro gb113 hg w1 hbox hb; have BK113 := Aside0.mk (hbox); have GW113 := kS HB hg; have GE113 := kS HB hg; replace HB := kB HB hb; clear hb hbox hg; have hcz2_0 : w1.cell? ⟨gb113, 0, none⟩ = some (.int .i64 0) := kc BK113 0; have hcz2_1 : w1.cell? ⟨gb113, 1, none⟩ = some (.int .u64 0) := kc BK113 1; have hfz2_0 := blk_frozen BK113.out 0; have hfz2_1 := blk_frozen BK113.out 1))
  refine bodyPost_ret (results_cell_row rfl _ _ gb113 24 #[.int .i64 (-9223372036854775808), .int .u64 0] (0, 0) _ rfl (by (with_reducible repeat (first | refine blk_drewN ?_ _ | refine blk_drew ?_ | refine blk_alloc ?_ _)); refine blk_put (cs := #[.int .i64 (-9223372036854775808), .int .u64 0]) ?_ 1 _ rfl; (with_reducible repeat (first | refine blk_drewN ?_ _ | refine blk_drew ?_ | refine blk_alloc ?_ _)); refine blk_put (cs := #[.int .i64 0, .int .u64 0]) ?_ 0 _ rfl; (with_reducible repeat (first | refine blk_drewN ?_ _ | refine blk_drew ?_ | refine blk_alloc ?_ _)); exact BK113.out) Try.underlying24 rfl (by kernel_rfl)) rfl ?_
  exact ⟨by first | rfl | (simp [errW_none, errW_some] <;> rfl) | (simp [*, errW_none, errW_some] <;> rfl), ky HB⟩

end Go.Proofs.Ytpjbniihdndlmaa.Q
