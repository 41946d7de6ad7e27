-- Printed by wip/pp.sh (a session's own turning of the kit's print) for this seat.
import Derived.Test.YtpjbniihdndlmabQx0
import Derived.Test.YtpjbniihdndlmabQx1
import Derived.Test.YtpjbniihdndlmabQx5
import Derived.Test.YtpjbniihdndlmabQx6
namespace Go.Proofs.Ytpjbniihdndlmab.Q
open Go.RowKit Go.Proofs.YtpjbniihdndlmabW.PrintWords Go.Proofs.YtpjbniihdndlmabW.PrintLast Go.Proofs.YtpjbniihdndlmabW.PrintMore
open Go.Proofs.Ytpjbniihdndlmab.H
attribute [local go_sem] hq_add64 hq_sub64 hq_not64 add64c_nn sub64c_nn sub64c_le
attribute [local go_sem] max2_int min2_int max_two min_two max_three min_three max_four min_four   -- for this text's walks alone
set_option linter.unusedVariables false
set_option linter.unusedSimpArgs false

attribute [local go_sem high] eqA24
/-! ### frac_Floor: function 19 -/
def frac_Floor.f (k : Nat) (a0_0 : Int) (a0_1 : Int) (a0_2 : Int) (a0_3 : Int) : Option (Int × Int) := (wide_Div.f k a0_0 a0_1 a0_2 a0_3).bind fun bt198 => (some (bt198.1, bt198.2.1))
theorem frac_Floor.mono : ∀ a0 a1 a2 a3 k, LeO (frac_Floor.f k a0 a1 a2 a3) (frac_Floor.f (k + 1) a0 a1 a2 a3) := by
  intro a0 a1 a2 a3 k
  unfold frac_Floor.f
  repeat' first
      | (with_reducible exact wide_Div.mono _ _ _ _ _)
      | (with_reducible exact LeO.refl _)
      | (with_reducible exact LeO.none _)
      | (with_reducible refine LeO.ite ?_ ?_)
      | (with_reducible refine LeO.bind ?_ (fun _ => ?_))
      | exact wide_Div.mono _ _ _ _ _
      | exact LeO.none _
      | refine LeO.ite ?_ ?_
      | refine LeO.bind ?_ (fun _ => ?_)
set_option maxHeartbeats 8000000 in
set_option maxRecDepth 100000 in
theorem frac_Floor.calls (k : Nat) (a0_0 : Int) (a0_1 : Int) (a0_2 : Int) (a0_3 : Int) (r1 : Int) (r2 : Int) (w : World) (h : frac_Floor.f k a0_0 a0_1 a0_2 a0_3 = some (r1, r2)) :
    Calls Try.prog 19 #[.agg #[.int .i64 a0_0, .int .u64 a0_1, .int .i64 a0_2, .int .u64 a0_3]] w fun e w' => e = .returned (.agg #[.int .i64 r1, .int .u64 r2]) ∧ Below w.heap.size w w' := by
  have hu26 := Try.underlying26
  have hu24 := Try.underlying24
  have HB := Aside0.mk (Below.refl w.heap.size w)
  have H : ((wide_Div.f k a0_0 a0_1 a0_2 a0_3).bind fun bt198 => (some (bt198.1, bt198.2.1))) = some (r1, r2) := h
  clear h
  replace H := Option.bind_eq_some_iff.mp H
  obtain ⟨⟨t198, t199, t200, t201, t202⟩, A20, H⟩ := H
  replace H : (some (t198, t199)) = some (r1, r2) := H
  have A2 := Aside0.mk A20
  clear A20
  simp only [Option.some.injEq, Prod.mk.injEq] at H
  obtain ⟨rfl, rfl⟩ := H
  go_enter Try.func19, Try.ntmps19
  go_wp2_with (first | ((with_reducible refine gate_dst (N := 1) rfl ?_); refine box_event ?hg (N := 1) ?hd (cs := #[.int .i64 a0_0, .int .u64 a0_1, .int .i64 a0_2, .int .u64 a0_3]) (t := 26) ?hr ?_; (case hd => rfl); (case hg => rfl); (case hr => first | (go_simp; done) | (go_simp; rfl)); intro gb196 hg w3 hbox hb; have BK196 := Aside0.mk (hbox); have GW196 := kS HB hg; have GE196 := kS HB hg; replace HB := kB HB hb; clear hb hbox hg) | ((with_reducible refine gate_dst (N := 2) rfl ?_); refine box_event ?hg (N := 2) ?hd (cs := #[.int .i64 0, .int .u64 0]) (t := 24) ?hr ?_; (case hd => rfl); (case hg => rfl); (case hr => first | (go_simp; done) | (go_simp; rfl)); intro gb197 hg w4 hbox hb; have BK197 := Aside0.mk (hbox); have GW197 := kS HB hg; have GE197 := kS HB hg; have NB196_197 := kN BK196 hg; have NB197_196 := kM BK196 hg; replace BK196 := kb BK196 hb; replace HB := kB HB hb; clear hb hbox hg; have hnb5 := NB196_197.out; have hnc5 := NB197_196.out; have hcz6_0 : w4.cell? ⟨gb196, 0, none⟩ = some (.int .i64 a0_0) := kc BK196 0; have hcz6_1 : w4.cell? ⟨gb196, 1, none⟩ = some (.int .u64 a0_1) := kc BK196 1; have hcz6_2 : w4.cell? ⟨gb196, 2, none⟩ = some (.int .i64 a0_2) := kc BK196 2; have hcz6_3 : w4.cell? ⟨gb196, 3, none⟩ = some (.int .u64 a0_3) := kc BK196 3; have hfz6_0 := blk_frozen BK196.out 0; have hfz6_1 := blk_frozen BK196.out 1; have hfz6_2 := blk_frozen BK196.out 2; have hfz6_3 := blk_frozen BK196.out 3) | ((with_reducible refine gate_callee (f := 49) rfl ?_); refine goesL_ (some 11) rfl rfl Try.func49 (by kernel_rfl) rfl #[.agg #[.int .i64 a0_0, .int .u64 a0_1], .agg #[.int .i64 a0_2, .int .u64 a0_3]] rfl (by (try simp only [List.map_toArray, List.map_cons, List.map_nil]); first | done | rfl | (simp only [List.length_drop, List.length_take]; rfl)) ?_; (with_reducible refine (wide_Div.calls k a0_0 a0_1 a0_2 a0_3 t198 t199 t200 t201 t202 _ A2.out).mono ?_); rintro e w7 ⟨rfl, hb⟩; refine ⟨_, rfl, ?_⟩; replace BK196 := kb BK196 hb; replace BK197 := kb BK197 hb; replace HB := kB HB hb; (try clear hb); (try clear hb2); (try clear hk); (try clear hi)) | ((with_reducible refine gate_dst (N := 3) rfl ?_); refine box_event ?hg (N := 3) ?hd (cs := #[.int .i64 0, .int .u64 0]) (t := 24) ?hr ?_; (case hd => rfl); (case hg => rfl); (case hr => first | (go_simp; done) | (go_simp; rfl)); intro gb203 hg w8 hbox hb; have BK203 := Aside0.mk (hbox); have GW203 := kS HB hg; have GE203 := kS HB hg; have NB196_203 := kN BK196 hg; have NB203_196 := kM BK196 hg; have NB197_203 := kN BK197 hg; have NB203_197 := kM BK197 hg; replace BK196 := kb BK196 hb; replace BK197 := kb BK197 hb; replace HB := kB HB hb; clear hb hbox hg) | ((with_reducible refine gate_dst (N := 4) rfl ?_); refine box_event ?hg (N := 4) ?hd (cs := #[.int .i64 0, .int .u64 0]) (t := 24) ?hr ?_; (case hd => rfl); (case hg => rfl); (case hr => first | (go_simp; done) | (go_simp; rfl)); intro gb204 hg w9 hbox hb; have BK204 := Aside0.mk (hbox); have GW204 := kS HB hg; have GE204 := kS HB hg; have NB196_204 := kN BK196 hg; have NB204_196 := kM BK196 hg; have NB197_204 := kN BK197 hg; have NB204_197 := kM BK197 hg; have NB203_204 := kN BK203 hg; have NB204_203 := kM BK203 hg; replace BK196 := kb BK196 hb; replace BK197 := kb BK197 hb; replace BK203 := kb BK203 hb; replace HB := kB HB hb; clear hb hbox hg; have hnb10 := NB203_196.out; have hnc10 := NB196_203.out; have hnb11 := NB203_197.out; have hnc11 := NB197_203.out; have hnb12 := NB203_204.out; have hnc12 := NB204_203.out; have hcz13_0 : w9.cell? ⟨gb203, 0, none⟩ = some (.int .i64 0) := kc BK203 0; have hcz13_1 : w9.cell? ⟨gb203, 1, none⟩ = some (.int .u64 0) := kc BK203 1; have hfz13_0 := blk_frozen BK203.out 0; have hfz13_1 := blk_frozen BK203.out 1; have hnb14 := NB204_196.out; have hnc14 := NB196_204.out; have hnb15 := NB204_197.out; have hnc15 := NB197_204.out; have hcz16_0 : w9.cell? ⟨gb204, 0, none⟩ = some (.int .i64 0) := kc BK204 0; have hcz16_1 : w9.cell? ⟨gb204, 1, none⟩ = some (.int .u64 0) := kc BK204 1; have hfz16_0 := blk_frozen BK204.out 0; have hfz16_1 := blk_frozen BK204.out 1; have hcz17_0 : w9.cell? ⟨gb197, 0, none⟩ = some (.int .i64 0) := kc BK197 0; have hcz17_1 : w9.cell? ⟨gb197, 1, none⟩ = some (.int .u64 0) := kc BK197 1; have hfz17_0 := blk_frozen BK197.out 0; have hfz17_1 := blk_frozen BK197.out 1))
  refine bodyPost_ret (results_cell_row rfl _ _ gb197 24 #[.int .i64 t198, .int .u64 t199] (0, 0) _ rfl (by (with_reducible repeat (first | refine blk_drewN ?_ _ | refine blk_drew ?_ | refine blk_alloc ?_ _)); refine blk_put (cs := #[.int .i64 t198, .int .u64 0]) ?_ 1 _ rfl; (with_reducible repeat (first | refine blk_drewN ?_ _ | refine blk_drew ?_ | refine blk_alloc ?_ _)); refine blk_put (cs := #[.int .i64 0, .int .u64 0]) ?_ 0 _ rfl; (with_reducible repeat (first | refine blk_drewN ?_ _ | refine blk_drew ?_ | refine blk_alloc ?_ _)); refine blk_far ?_ NB197_204.out _; (with_reducible repeat (first | refine blk_drewN ?_ _ | refine blk_drew ?_ | refine blk_alloc ?_ _)); refine blk_far ?_ NB197_204.out _; (with_reducible repeat (first | refine blk_drewN ?_ _ | refine blk_drew ?_ | refine blk_alloc ?_ _)); refine blk_far ?_ NB197_203.out _; (with_reducible repeat (first | refine blk_drewN ?_ _ | refine blk_drew ?_ | refine blk_alloc ?_ _)); refine blk_far ?_ NB197_203.out _; (with_reducible repeat (first | refine blk_drewN ?_ _ | refine blk_drew ?_ | refine blk_alloc ?_ _)); exact BK197.out) Try.underlying24 rfl (by kernel_rfl)) rfl ?_
  exact ⟨by first | rfl | (simp [errW_none, errW_some] <;> rfl) | (simp [*, errW_none, errW_some] <;> rfl), ky HB⟩

/-! ### wide_Shl: function 28 -/
mutual
def wide_Shl.j0 : Nat → Int → Int → Int → Bool → Int → Int → Option (Int × Int × Bool)
  | 0, _, _, _, _, _, _ => none
  | k + 1, x1, x6, x7, x18, x206000, x206001 => if x18 = true then (if x1 ≥ 0 then ((wide_told.f 0 0 (x206000 == 0 && (x206001 == 0))).bind fun bt209 => (some (bt209.1, bt209.2.1, bt209.2.2))) else ((wide_told.f 0 0 false).bind fun bt212 => (some (bt212.1, bt212.2.1, bt212.2.2)))) else (wide_Shl.l0 k x6 x7 x1 0 x206000 x206001)
def wide_Shl.l0 : Nat → Int → Int → Int → Int → Int → Int → Option (Int × Int × Bool)
  | 0, _, _, _, _, _, _ => none
  | k + 1, x6, x7, x30, x31, x206000, x206001 => if x31 < x30 then (if (x6 / 9223372036854775808) = 0 then (wide_Shl.l0 k (Go.bits .or .u64 (IntKind.u64.wrap (x6 * 2)) (x7 / 9223372036854775808)) (IntKind.u64.wrap (x7 * 2)) x30 (wrap64 (x31 + 1)) x206000 x206001) else (some (0, 0, false))) else ((wide_signed.f x6 x7 (decide (x206000 < 0))).bind fun bt215 => (some (bt215.1, bt215.2.1, bt215.2.2)))
end
def wide_Shl.f (k : Nat) (a0_0 : Int) (a0_1 : Int) (a1 : Int) : Option (Int × Int × Bool) := (wide_size.f a0_0 a0_1).bind fun bt207 => (if a1 < 0 then (wide_Shl.j0 k a1 bt207.1 bt207.2 true a0_0 a0_1) else (wide_Shl.j0 k a1 bt207.1 bt207.2 (decide (a1 ≥ 128)) a0_0 a0_1))
theorem wide_Shl.mono_l : ∀ k, (∀ y0 y1 y2 y3 y4 y5, LeO (wide_Shl.j0 k y0 y1 y2 y3 y4 y5) (wide_Shl.j0 (k + 1) y0 y1 y2 y3 y4 y5)) ∧ (∀ y0 y1 y2 y3 y4 y5, LeO (wide_Shl.l0 k y0 y1 y2 y3 y4 y5) (wide_Shl.l0 (k + 1) y0 y1 y2 y3 y4 y5))
  | 0 => ⟨fun _ _ _ _ _ _ r h => by simp [wide_Shl.j0] at h, fun _ _ _ _ _ _ r h => by simp [wide_Shl.l0] at h⟩
  | k + 1 => by
    obtain ⟨ih0, ih1⟩ := wide_Shl.mono_l k
    refine ⟨?_, ?_⟩
    · intro y0 y1 y2 y3 y4 y5
      unfold wide_Shl.j0
      repeat' first
      | (with_reducible exact ih0 _ _ _ _ _ _)
      | (with_reducible exact ih1 _ _ _ _ _ _)
      | (with_reducible exact LeO.refl _)
      | (with_reducible exact LeO.none _)
      | (with_reducible refine LeO.ite ?_ ?_)
      | (with_reducible refine LeO.bind ?_ (fun _ => ?_))
      | exact ih0 _ _ _ _ _ _
      | exact ih1 _ _ _ _ _ _
      | exact LeO.none _
      | refine LeO.ite ?_ ?_
      | refine LeO.bind ?_ (fun _ => ?_)
    · intro y0 y1 y2 y3 y4 y5
      unfold wide_Shl.l0
      repeat' first
      | (with_reducible exact ih0 _ _ _ _ _ _)
      | (with_reducible exact ih1 _ _ _ _ _ _)
      | (with_reducible exact LeO.refl _)
      | (with_reducible exact LeO.none _)
      | (with_reducible refine LeO.ite ?_ ?_)
      | (with_reducible refine LeO.bind ?_ (fun _ => ?_))
      | exact ih0 _ _ _ _ _ _
      | exact ih1 _ _ _ _ _ _
      | exact LeO.none _
      | refine LeO.ite ?_ ?_
      | refine LeO.bind ?_ (fun _ => ?_)
theorem wide_Shl.mono : ∀ a0 a1 a2 k, LeO (wide_Shl.f k a0 a1 a2) (wide_Shl.f (k + 1) a0 a1 a2) := by
  intro a0 a1 a2 k
  obtain ⟨ih0, ih1⟩ := wide_Shl.mono_l k
  unfold wide_Shl.f
  repeat' first
      | (with_reducible exact ih0 _ _ _ _ _ _)
      | (with_reducible exact ih1 _ _ _ _ _ _)
      | (with_reducible exact LeO.refl _)
      | (with_reducible exact LeO.none _)
      | (with_reducible refine LeO.ite ?_ ?_)
      | (with_reducible refine LeO.bind ?_ (fun _ => ?_))
      | exact ih0 _ _ _ _ _ _
      | exact ih1 _ _ _ _ _ _
      | exact LeO.none _
      | refine LeO.ite ?_ ?_
      | refine LeO.bind ?_ (fun _ => ?_)
set_option maxHeartbeats 8000000 in
set_option maxRecDepth 100000 in
theorem wide_Shl.calls (k : Nat) (a0_0 : Int) (a0_1 : Int) (a1 : Int) (r1 : Int) (r2 : Int) (r3 : Bool) (w : World) (h : wide_Shl.f k a0_0 a0_1 a1 = some (r1, r2, r3)) :
    Calls Try.prog 28 #[.agg #[.int .i64 a0_0, .int .u64 a0_1], .int .i64 a1] w fun e w' => e = .returned (.tuple #[.agg #[.int .i64 r1, .int .u64 r2], .bool r3]) ∧ Below w.heap.size w w' := by
  have hu24 := Try.underlying24
  have HB := Aside0.mk (Below.refl w.heap.size w)
  have H : ((wide_size.f a0_0 a0_1).bind fun bt207 => (if a1 < 0 then (wide_Shl.j0 k a1 bt207.1 bt207.2 true a0_0 a0_1) else (wide_Shl.j0 k a1 bt207.1 bt207.2 (decide (a1 ≥ 128)) a0_0 a0_1))) = some (r1, r2, r3) := h
  clear h
  replace H := Option.bind_eq_some_iff.mp H
  obtain ⟨⟨t207, t208⟩, A30, H⟩ := H
  replace H : (if a1 < 0 then (wide_Shl.j0 k a1 t207 t208 true a0_0 a0_1) else (wide_Shl.j0 k a1 t207 t208 (decide (a1 ≥ 128)) a0_0 a0_1)) = some (r1, r2, r3) := H
  have A3 := Aside0.mk A30
  clear A30
  have HC4 := Aside0.mk H
  clear H
  go_enter Try.func28, Try.ntmps28
  go_upto_region 2 with (first | ((with_reducible refine gate_dst (N := 2) rfl ?_); refine box_event ?hg (N := 2) ?hd (cs := #[.int .i64 a0_0, .int .u64 a0_1]) (t := 24) ?hr ?_; (case hd => rfl); (case hg => rfl); (case hr => first | (go_simp; done) | (go_simp; rfl)); intro gb205 hg w5 hbox hb; have BK205 := Aside0.mk (hbox); have GW205 := kS HB hg; have GE205 := kS HB hg; replace HB := kB HB hb; clear hb hbox hg) | ((with_reducible refine gate_dst (N := 4) rfl ?_); refine box_event ?hg (N := 4) ?hd (cs := #[.int .i64 0, .int .u64 0]) (t := 24) ?hr ?_; (case hd => rfl); (case hg => rfl); (case hr => first | (go_simp; done) | (go_simp; rfl)); intro gb206 hg w6 hbox hb; have BK206 := Aside0.mk (hbox); have GW206 := kS HB hg; have GE206 := kS HB hg; have NB205_206 := kN BK205 hg; have NB206_205 := kM BK205 hg; replace BK205 := kb BK205 hb; replace HB := kB HB hb; clear hb hbox hg; have hnb7 := NB205_206.out; have hnc7 := NB206_205.out; have hcz8_0 : w6.cell? ⟨gb205, 0, none⟩ = some (.int .i64 a0_0) := kc BK205 0; have hcz8_1 : w6.cell? ⟨gb205, 1, none⟩ = some (.int .u64 a0_1) := kc BK205 1; have hfz8_0 := blk_frozen BK205.out 0; have hfz8_1 := blk_frozen BK205.out 1) | ((with_reducible refine gate_callee (f := 60) rfl ?_); refine goesL_ (some 10) rfl rfl Try.func60 (by kernel_rfl) rfl #[.agg #[.int .i64 a0_0, .int .u64 a0_1]] rfl (by (try simp only [List.map_toArray, List.map_cons, List.map_nil]); first | done | rfl | (simp only [List.length_drop, List.length_take]; rfl)) ?_; (with_reducible refine (wide_size.calls a0_0 a0_1 t207 t208 _ A3.out).mono ?_); rintro e w9 ⟨rfl, hb⟩; refine ⟨_, rfl, ?_⟩; replace BK205 := kb BK205 hb; replace BK206 := kb BK206 hb; replace HB := kB HB hb; (try clear hb); (try clear hb2); (try clear hk); (try clear hi)))
  (try simp only [Act.put, s1, s2, s3])
  go_cut [18] (fun v18 wc => ∃ (kq : Nat) (x18_3 : Bool), v18 = .bool x18_3 ∧ Aside0 (wide_Shl.j0 kq a1 t207 t208 x18_3 a0_0 a0_1 = some (r1, r2, r3)) ∧ Aside0 (kq ≤ k) ∧ Aside0 (wc.heap[gb205]? = some (.cells #[.int .i64 a0_0, .int .u64 a0_1] 24 (0, 0))) ∧ Aside0 (wc.heap[gb206]? = some (.cells #[.int .i64 0, .int .u64 0] 24 (0, 0))) ∧ Aside0 (Below w.heap.size w wc))
  case first =>
    have H := HC4.out; clear HC4
    by_cases c10 : a1 < 0
    · rw [if_pos c10] at H
      have c10b0 : decide (a1 < 0) = true := decide_eq_true c10
      clear c10
      (first | rw [c10b0] | (simp only [i64_w, i32_w]; rw [c10b0]) | skip)
      have H' := Aside0.mk H
      clear H
      go_wp2
      go_meet
      case rel => exact ⟨_, (true), (by first | rfl | (simp; done) | (simp [*]; done)), H', ⟨by first | omega | exact Nat.le_refl _⟩, ⟨kx BK205⟩, ⟨kx BK206⟩, ⟨ky HB⟩⟩
    rw [if_neg c10] at H
    have c10b0 : decide (a1 < 0) = false := decide_eq_false c10
    clear c10
    (first | rw [c10b0] | (simp only [i64_w, i32_w]; rw [c10b0]) | skip)
    have H' := Aside0.mk H
    clear H
    go_wp2
    go_meet
    case rel => exact ⟨_, (decide (a1 ≥ 128)), (by first | rfl | (simp; done) | (simp [*]; done)), H', ⟨by first | omega | exact Nat.le_refl _⟩, ⟨kx BK205⟩, ⟨kx BK206⟩, ⟨ky HB⟩⟩
  case rest =>
    clear HC4; try clear c1; try clear c2; try clear p2; try clear c6; try clear c7; try clear c10; try clear c10b0; try clear hcz8_0; try clear hcz8_1; try clear hfz8_0; try clear hfz8_1
    obtain ⟨kq, x18_3, rfl, HA, HJ3, BK205, BK206, HB⟩ := hcut
    cases kq with
    | zero => exact absurd HA.out (by simp [wide_Shl.j0])
    | succ kj3 =>
      have H := HA.out; clear HA
      simp only [wide_Shl.j0] at H
      by_cases c11 : x18_3 = true
      · subst c11
        have H1 : (if a1 ≥ 0 then ((wide_told.f 0 0 (a0_0 == 0 && (a0_1 == 0))).bind fun bt209 => (some (bt209.1, bt209.2.1, bt209.2.2))) else ((wide_told.f 0 0 false).bind fun bt212 => (some (bt212.1, bt212.2.1, bt212.2.2)))) = some (r1, r2, r3) := by rw [if_pos rfl] at H; exact H
        clear H; have H := H1; clear H1
        by_cases c12 : a1 ≥ 0
        rotate_left
        · rw [if_neg c12] at H
          have c12b0 : decide (0 ≤ a1) = false := decide_eq_false c12
          clear c12
          replace H := Option.bind_eq_some_iff.mp H
          obtain ⟨⟨t212, t213, t214⟩, A180, H⟩ := H
          replace H : (some (t212, t213, t214)) = some (r1, r2, r3) := H
          have A18 := Aside0.mk A180
          clear A180
          simp only [Option.some.injEq, Prod.mk.injEq] at H
          obtain ⟨rfl, rfl, rfl⟩ := H
          go_wp2_with (first | ((with_reducible refine gate_callee (f := 56) rfl ?_); refine goesL_ (some 27) rfl rfl Try.func56 (by kernel_rfl) rfl #[.agg #[.int .i64 0, .int .u64 0], .bool false] rfl (by (try simp only [List.map_toArray, List.map_cons, List.map_nil]); first | done | rfl | (simp only [List.length_drop, List.length_take]; rfl)) ?_; (with_reducible refine (wide_told.calls 0 0 false t212 t213 t214 _ A18.out).mono ?_); rintro e w19 ⟨rfl, hb⟩; refine ⟨_, rfl, ?_⟩; replace BK205 := kb BK205 hb; replace BK206 := kb BK206 hb; replace HB := kB HB hb; (try clear hb); (try clear hb2); (try clear hk); (try clear hi); have hnb20 := NB206_205.out; have hnc20 := NB205_206.out; have hcz21_0 : w19.cell? ⟨gb206, 0, none⟩ = some (.int .i64 0) := kc BK206 0; have hcz21_1 : w19.cell? ⟨gb206, 1, none⟩ = some (.int .u64 0) := kc BK206 1; have hfz21_0 := blk_frozen BK206.out 0; have hfz21_1 := blk_frozen BK206.out 1))
          refine bodyPost_ret (results_ct rfl _ _ gb206 24 #[.int .i64 t212, .int .u64 t213] (0, 0) _ rfl (by (with_reducible repeat (first | refine blk_drewN ?_ _ | refine blk_drew ?_ | refine blk_alloc ?_ _)); refine blk_put (cs := #[.int .i64 t212, .int .u64 0]) ?_ 1 _ rfl; (with_reducible repeat (first | refine blk_drewN ?_ _ | refine blk_drew ?_ | refine blk_alloc ?_ _)); refine blk_put (cs := #[.int .i64 0, .int .u64 0]) ?_ 0 _ rfl; (with_reducible repeat (first | refine blk_drewN ?_ _ | refine blk_drew ?_ | refine blk_alloc ?_ _)); exact BK206.out) Try.underlying24 rfl (by kernel_rfl)) rfl ?_
          exact ⟨by first | rfl | (simp [errW_none, errW_some] <;> rfl) | (simp [*, errW_none, errW_some] <;> rfl), ky HB⟩
        rw [if_pos c12] at H
        have c12b0 : decide (0 ≤ a1) = true := decide_eq_true c12
        clear c12
        replace H := Option.bind_eq_some_iff.mp H
        obtain ⟨⟨t209, t210, t211⟩, A130, H⟩ := H
        replace H : (some (t209, t210, t211)) = some (r1, r2, r3) := H
        have A13 := Aside0.mk A130
        clear A130
        simp only [Option.some.injEq, Prod.mk.injEq] at H
        obtain ⟨rfl, rfl, rfl⟩ := H
        have hnb14 := NB205_206.out; have hnc14 := NB206_205.out
        have hcz15_0 : wc.cell? ⟨gb205, 0, none⟩ = some (.int .i64 a0_0) := kc BK205 0
        have hcz15_1 : wc.cell? ⟨gb205, 1, none⟩ = some (.int .u64 a0_1) := kc BK205 1
        have hfz15_0 := blk_frozen BK205.out 0
        have hfz15_1 := blk_frozen BK205.out 1
        go_wp2_with (first | ((with_reducible refine gate_callee (f := 56) rfl ?_); refine goesL_ (some 27) rfl rfl Try.func56 (by kernel_rfl) rfl #[.agg #[.int .i64 0, .int .u64 0], .bool (a0_0 == 0 && (a0_1 == 0))] rfl (by (try simp only [List.map_toArray, List.map_cons, List.map_nil]); first | done | rfl | (simp only [List.length_drop, List.length_take]; rfl)) ?_; (with_reducible refine (wide_told.calls 0 0 (a0_0 == 0 && (a0_1 == 0)) t209 t210 t211 _ A13.out).mono ?_); rintro e w16 ⟨rfl, hb⟩; refine ⟨_, rfl, ?_⟩; replace BK205 := kb BK205 hb; replace BK206 := kb BK206 hb; replace HB := kB HB hb; (try clear hb); (try clear hb2); (try clear hk); (try clear hi); have hcz17_0 : w16.cell? ⟨gb206, 0, none⟩ = some (.int .i64 0) := kc BK206 0; have hcz17_1 : w16.cell? ⟨gb206, 1, none⟩ = some (.int .u64 0) := kc BK206 1; have hfz17_0 := blk_frozen BK206.out 0; have hfz17_1 := blk_frozen BK206.out 1))
        refine bodyPost_ret (results_ct rfl _ _ gb206 24 #[.int .i64 t209, .int .u64 t210] (0, 0) _ rfl (by (with_reducible repeat (first | refine blk_drewN ?_ _ | refine blk_drew ?_ | refine blk_alloc ?_ _)); refine blk_put (cs := #[.int .i64 t209, .int .u64 0]) ?_ 1 _ rfl; (with_reducible repeat (first | refine blk_drewN ?_ _ | refine blk_drew ?_ | refine blk_alloc ?_ _)); refine blk_put (cs := #[.int .i64 0, .int .u64 0]) ?_ 0 _ rfl; (with_reducible repeat (first | refine blk_drewN ?_ _ | refine blk_drew ?_ | refine blk_alloc ?_ _)); exact BK206.out) Try.underlying24 rfl (by kernel_rfl)) rfl ?_
        exact ⟨by first | rfl | (simp [errW_none, errW_some] <;> rfl) | (simp [*, errW_none, errW_some] <;> rfl), ky HB⟩
      replace c11 := Bool.eq_false_iff.mpr c11
      subst c11
      have H1 : (wide_Shl.l0 kj3 t207 t208 a1 0 a0_0 a0_1) = some (r1, r2, r3) := by rw [if_neg (show ¬ (false = true) by decide)] at H; exact H
      clear H; have H := H1; clear H1
      have H' := Aside0.mk H
      clear H
      go_wp2
      go_loopg [6, 7, 31] kj3 (fun kq v6 v7 v31 w' => ∃ (x6_2 : Int) (x7_2 : Int) (x31_2 : Int) (x207000_2 : Int) (x207001_2 : Int), v6 = .int .u64 x6_2 ∧ v7 = .int .u64 x7_2 ∧ v31 = .int .i64 x31_2 ∧ Aside0 (wide_Shl.l0 kq x6_2 x7_2 a1 x31_2 a0_0 a0_1 = some (r1, r2, r3)) ∧ Aside0 (kq ≤ kj3) ∧ Aside0 (w'.heap[gb205]? = some (.cells #[.int .i64 a0_0, .int .u64 a0_1] 24 (0, 0))) ∧ Aside0 (w'.heap[gb206]? = some (.cells #[.int .i64 x207000_2, .int .u64 x207001_2] 24 (0, 0))) ∧ Aside0 (Below w.heap.size w w'))
      case atStart => exact ⟨(t207), (t208), (0), (0), (0), (by first | rfl | (simp; done) | (simp [*]; done)), (by first | rfl | (simp; done) | (simp [*]; done)), (by first | rfl | (simp; done) | (simp [*]; done)), H', ⟨Nat.le_refl _⟩, ⟨kx BK205⟩, ⟨kx BK206⟩, ⟨ky HB⟩⟩
      case round =>
        clear H'
        try clear c1; try clear c2; try clear p2; try clear c5; try clear c6; try clear c7; try clear c10; try clear c10b0; try clear c11; try clear c12; try clear c12b0; try clear c14; try clear c20; try clear hcz15_0; try clear hcz15_1; try clear hcz17_0; try clear hcz17_1; try clear hcz21_0; try clear hcz21_1; try clear hcz8_0; try clear hcz8_1; try clear hfz15_0; try clear hfz15_1; try clear hfz17_0; try clear hfz17_1; try clear hfz21_0; try clear hfz21_1; try clear hfz8_0; try clear hfz8_1; try clear p2
        obtain ⟨x6_2, x7_2, x31_2, x207000_2, x207001_2, rfl, rfl, rfl, HA, HK2, BK205, BK206, HB⟩ := hrel
        cases gk with
        | zero => exact absurd HA.out (by simp [wide_Shl.l0])
        | succ k2 =>
          have H := HA.out; clear HA
          simp only [wide_Shl.l0] at H
          by_cases c22 : x31_2 < a1
          · rw [if_pos c22] at H
            have c22b0 : decide (x31_2 < a1) = true := decide_eq_true c22
            clear c22
            by_cases c23 : (x6_2 / 9223372036854775808) = 0
            · rw [if_pos c23] at H
              have c23b0 : ((x6_2 / 9223372036854775808) == 0) = true := beq_iff_eq.mpr c23
              have c23b1 : ((x6_2 / 9223372036854775808) != 0) = false := bne_eq_false_iff_eq.mpr c23
              clear c23
              have H' := Aside0.mk H
              clear H
              go_wp2
              go_roundg k2
              case measure => have := HJ3.out; have := HK2.out; omega
              case rel => exact ⟨(Go.bits .or .u64 (IntKind.u64.wrap (x6_2 * 2)) (x7_2 / 9223372036854775808)), (IntKind.u64.wrap (x7_2 * 2)), (wrap64 (x31_2 + 1)), (x207000_2), (x207001_2), (by first | rfl | (simp; done) | (simp [*]; done)), (by first | rfl | (simp; done) | (simp [*]; done)), (by first | rfl | (simp; done) | (simp [*]; done)), H', ⟨by have := HJ3.out; have := HK2.out; omega⟩, ⟨kx BK205⟩, ⟨kx BK206⟩, ⟨ky HB⟩⟩
            rw [if_neg c23] at H
            have c23b0 : ((x6_2 / 9223372036854775808) == 0) = false := beq_eq_false_iff_ne.mpr c23
            have c23b1 : ((x6_2 / 9223372036854775808) != 0) = true := bne_iff_ne.mpr c23
            simp only [Option.some.injEq, Prod.mk.injEq] at H
            obtain ⟨rfl, rfl, rfl⟩ := H
            have hnb24 := NB206_205.out; have hnc24 := NB205_206.out
            have hcz25_0 : wr.cell? ⟨gb206, 0, none⟩ = some (.int .i64 x207000_2) := kc BK206 0
            have hcz25_1 : wr.cell? ⟨gb206, 1, none⟩ = some (.int .u64 x207001_2) := kc BK206 1
            have hfz25_0 := blk_frozen BK206.out 0
            have hfz25_1 := blk_frozen BK206.out 1
            go_wp2
            refine bodyPost_ret (results_ct rfl _ _ gb206 24 #[.int .i64 0, .int .u64 0] (0, 0) _ rfl (by (with_reducible repeat (first | refine blk_drewN ?_ _ | refine blk_drew ?_ | refine blk_alloc ?_ _)); refine blk_put (cs := #[.int .i64 0, .int .u64 x207001_2]) ?_ 1 _ rfl; (with_reducible repeat (first | refine blk_drewN ?_ _ | refine blk_drew ?_ | refine blk_alloc ?_ _)); refine blk_put (cs := #[.int .i64 x207000_2, .int .u64 x207001_2]) ?_ 0 _ rfl; (with_reducible repeat (first | refine blk_drewN ?_ _ | refine blk_drew ?_ | refine blk_alloc ?_ _)); exact BK206.out) Try.underlying24 rfl (by kernel_rfl)) rfl ?_
            exact ⟨by first | rfl | (simp [errW_none, errW_some] <;> rfl) | (simp [*, errW_none, errW_some] <;> rfl), ky HB⟩
          rw [if_neg c22] at H
          have c22b0 : decide (x31_2 < a1) = false := decide_eq_false c22
          clear c22
          replace H := Option.bind_eq_some_iff.mp H
          obtain ⟨⟨t215, t216, t217⟩, A260, H⟩ := H
          replace H : (some (t215, t216, t217)) = some (r1, r2, r3) := H
          have A26 := Aside0.mk A260
          clear A260
          simp only [Option.some.injEq, Prod.mk.injEq] at H
          obtain ⟨rfl, rfl, rfl⟩ := H
          have hnb27 := NB205_206.out; have hnc27 := NB206_205.out
          have hcz28_0 : wr.cell? ⟨gb205, 0, none⟩ = some (.int .i64 a0_0) := kc BK205 0
          have hcz28_1 : wr.cell? ⟨gb205, 1, none⟩ = some (.int .u64 a0_1) := kc BK205 1
          have hfz28_0 := blk_frozen BK205.out 0
          have hfz28_1 := blk_frozen BK205.out 1
          go_wp2_with (first | ((with_reducible refine gate_callee (f := 61) rfl ?_); refine goesL_ (some 50) rfl rfl Try.func61 (by kernel_rfl) rfl #[.int .u64 x6_2, .int .u64 x7_2, .bool (decide (a0_0 < 0))] rfl (by (try simp only [List.map_toArray, List.map_cons, List.map_nil]); first | done | rfl | (simp only [List.length_drop, List.length_take]; rfl)) ?_; (with_reducible refine (wide_signed.calls x6_2 x7_2 (decide (a0_0 < 0)) t215 t216 t217 _ A26.out).mono ?_); rintro e w29 ⟨rfl, hb⟩; refine ⟨_, rfl, ?_⟩; replace BK205 := kb BK205 hb; replace BK206 := kb BK206 hb; replace HB := kB HB hb; (try clear hb); (try clear hb2); (try clear hk); (try clear hi); have hcz30_0 : w29.cell? ⟨gb206, 0, none⟩ = some (.int .i64 x207000_2) := kc BK206 0; have hcz30_1 : w29.cell? ⟨gb206, 1, none⟩ = some (.int .u64 x207001_2) := kc BK206 1; have hfz30_0 := blk_frozen BK206.out 0; have hfz30_1 := blk_frozen BK206.out 1))
          refine bodyPost_ret (results_ct rfl _ _ gb206 24 #[.int .i64 t215, .int .u64 t216] (0, 0) _ rfl (by (with_reducible repeat (first | refine blk_drewN ?_ _ | refine blk_drew ?_ | refine blk_alloc ?_ _)); refine blk_put (cs := #[.int .i64 t215, .int .u64 x207001_2]) ?_ 1 _ rfl; (with_reducible repeat (first | refine blk_drewN ?_ _ | refine blk_drew ?_ | refine blk_alloc ?_ _)); refine blk_put (cs := #[.int .i64 x207000_2, .int .u64 x207001_2]) ?_ 0 _ rfl; (with_reducible repeat (first | refine blk_drewN ?_ _ | refine blk_drew ?_ | refine blk_alloc ?_ _)); exact BK206.out) Try.underlying24 rfl (by kernel_rfl)) rfl ?_
          exact ⟨by first | rfl | (simp [errW_none, errW_some] <;> rfl) | (simp [*, errW_none, errW_some] <;> rfl), ky HB⟩

/-! ### wide_Add: function 25 -/
def wide_Add.f (a0_0 : Int) (a0_1 : Int) (a1_0 : Int) (a1_1 : Int) : Option (Int × Int × Bool) := (wide_wrap.f a0_0 a0_1 a1_0 a1_1).bind fun bt221 => (if ((decide (a0_0 < 0)) != (decide (a1_0 < 0))) = true then ((wide_told.f bt221.1 bt221.2 true).bind fun bt224 => (some (bt224.1, bt224.2.1, bt224.2.2))) else ((wide_told.f bt221.1 bt221.2 ((decide (a0_0 < 0)) == (decide (bt221.1 < 0)))).bind fun bt227 => (some (bt227.1, bt227.2.1, bt227.2.2))))
set_option maxHeartbeats 8000000 in
set_option maxRecDepth 100000 in
theorem wide_Add.calls (a0_0 : Int) (a0_1 : Int) (a1_0 : Int) (a1_1 : Int) (r1 : Int) (r2 : Int) (r3 : Bool) (w : World) (h : wide_Add.f a0_0 a0_1 a1_0 a1_1 = some (r1, r2, r3)) :
    Calls Try.prog 25 #[.agg #[.int .i64 a0_0, .int .u64 a0_1], .agg #[.int .i64 a1_0, .int .u64 a1_1]] w fun e w' => e = .returned (.tuple #[.agg #[.int .i64 r1, .int .u64 r2], .bool r3]) ∧ Below w.heap.size w w' := by
  have hu24 := Try.underlying24
  have HB := Aside0.mk (Below.refl w.heap.size w)
  have H : ((wide_wrap.f a0_0 a0_1 a1_0 a1_1).bind fun bt221 => (if ((decide (a0_0 < 0)) != (decide (a1_0 < 0))) = true then ((wide_told.f bt221.1 bt221.2 true).bind fun bt224 => (some (bt224.1, bt224.2.1, bt224.2.2))) else ((wide_told.f bt221.1 bt221.2 ((decide (a0_0 < 0)) == (decide (bt221.1 < 0)))).bind fun bt227 => (some (bt227.1, bt227.2.1, bt227.2.2))))) = some (r1, r2, r3) := h
  clear h
  replace H := Option.bind_eq_some_iff.mp H
  obtain ⟨⟨t221, t222⟩, A30, H⟩ := H
  replace H : (if ((decide (a0_0 < 0)) != (decide (a1_0 < 0))) = true then ((wide_told.f t221 t222 true).bind fun bt224 => (some (bt224.1, bt224.2.1, bt224.2.2))) else ((wide_told.f t221 t222 ((decide (a0_0 < 0)) == (decide (t221 < 0)))).bind fun bt227 => (some (bt227.1, bt227.2.1, bt227.2.2)))) = some (r1, r2, r3) := H
  have A3 := Aside0.mk A30
  clear A30
  by_cases c4 : ((decide (a0_0 < 0)) != (decide (a1_0 < 0))) = true
  · rw [if_pos c4] at H
    have c4b0 : ((decide (a0_0 < 0)) != (decide (a1_0 < 0))) = true := c4
    (try (have c4b1 : decide ((decide (a0_0 < 0)) = (decide (a1_0 < 0))) = false := by simpa using c4))
    (try (have c4b2 : ((decide (a0_0 < 0)) == (decide (a1_0 < 0))) = false := by simpa using c4))
    (try (have c4b3 : ¬ ((decide (a0_0 < 0)) = (decide (a1_0 < 0))) := by simpa using c4))
    clear c4
    replace H := Option.bind_eq_some_iff.mp H
    obtain ⟨⟨t224, t225, t226⟩, A50, H⟩ := H
    replace H : (some (t224, t225, t226)) = some (r1, r2, r3) := H
    have A5 := Aside0.mk A50
    clear A50
    simp only [Option.some.injEq, Prod.mk.injEq] at H
    obtain ⟨rfl, rfl, rfl⟩ := H
    go_enter Try.func25, Try.ntmps25
    go_wp2_with (first | ((with_reducible refine gate_dst (N := 2) rfl ?_); refine box_event ?hg (N := 2) ?hd (cs := #[.int .i64 a0_0, .int .u64 a0_1]) (t := 24) ?hr ?_; (case hd => rfl); (case hg => rfl); (case hr => first | (go_simp; done) | (go_simp; rfl)); intro gb218 hg w6 hbox hb; have BK218 := Aside0.mk (hbox); have GW218 := kS HB hg; have GE218 := kS HB hg; replace HB := kB HB hb; clear hb hbox hg) | ((with_reducible refine gate_dst (N := 3) rfl ?_); refine box_event ?hg (N := 3) ?hd (cs := #[.int .i64 a1_0, .int .u64 a1_1]) (t := 24) ?hr ?_; (case hd => rfl); (case hg => rfl); (case hr => first | (go_simp; done) | (go_simp; rfl)); intro gb219 hg w7 hbox hb; have BK219 := Aside0.mk (hbox); have GW219 := kS HB hg; have GE219 := kS HB hg; have NB218_219 := kN BK218 hg; have NB219_218 := kM BK218 hg; replace BK218 := kb BK218 hb; replace HB := kB HB hb; clear hb hbox hg) | ((with_reducible refine gate_dst (N := 4) rfl ?_); refine box_event ?hg (N := 4) ?hd (cs := #[.int .i64 0, .int .u64 0]) (t := 24) ?hr ?_; (case hd => rfl); (case hg => rfl); (case hr => first | (go_simp; done) | (go_simp; rfl)); intro gb220 hg w8 hbox hb; have BK220 := Aside0.mk (hbox); have GW220 := kS HB hg; have GE220 := kS HB hg; have NB218_220 := kN BK218 hg; have NB220_218 := kM BK218 hg; have NB219_220 := kN BK219 hg; have NB220_219 := kM BK219 hg; replace BK218 := kb BK218 hb; replace BK219 := kb BK219 hb; replace HB := kB HB hb; clear hb hbox hg; have hnb9 := NB218_219.out; have hnc9 := NB219_218.out; have hnb10 := NB218_220.out; have hnc10 := NB220_218.out; have hcz11_0 : w8.cell? ⟨gb218, 0, none⟩ = some (.int .i64 a0_0) := kc BK218 0; have hcz11_1 : w8.cell? ⟨gb218, 1, none⟩ = some (.int .u64 a0_1) := kc BK218 1; have hfz11_0 := blk_frozen BK218.out 0; have hfz11_1 := blk_frozen BK218.out 1; have hnb12 := NB219_220.out; have hnc12 := NB220_219.out; have hcz13_0 : w8.cell? ⟨gb219, 0, none⟩ = some (.int .i64 a1_0) := kc BK219 0; have hcz13_1 : w8.cell? ⟨gb219, 1, none⟩ = some (.int .u64 a1_1) := kc BK219 1; have hfz13_0 := blk_frozen BK219.out 0; have hfz13_1 := blk_frozen BK219.out 1) | ((with_reducible refine gate_callee (f := 55) rfl ?_); refine goesL_ (some 9) rfl rfl Try.func55 (by kernel_rfl) rfl #[.agg #[.int .i64 a0_0, .int .u64 a0_1], .agg #[.int .i64 a1_0, .int .u64 a1_1]] rfl (by (try simp only [List.map_toArray, List.map_cons, List.map_nil]); first | done | rfl | (simp only [List.length_drop, List.length_take]; rfl)) ?_; (with_reducible refine (wide_wrap.calls a0_0 a0_1 a1_0 a1_1 t221 t222 _ A3.out).mono ?_); rintro e w14 ⟨rfl, hb⟩; refine ⟨_, rfl, ?_⟩; replace BK218 := kb BK218 hb; replace BK219 := kb BK219 hb; replace BK220 := kb BK220 hb; replace HB := kB HB hb; (try clear hb); (try clear hb2); (try clear hk); (try clear hi)) | ((with_reducible refine gate_dst (N := 6) rfl ?_); refine box_event ?hg (N := 6) ?hd (cs := #[.int .i64 0, .int .u64 0]) (t := 24) ?hr ?_; (case hd => rfl); (case hg => rfl); (case hr => first | (go_simp; done) | (go_simp; rfl)); intro gb223 hg w15 hbox hb; have BK223 := Aside0.mk (hbox); have GW223 := kS HB hg; have GE223 := kS HB hg; have NB218_223 := kN BK218 hg; have NB223_218 := kM BK218 hg; have NB219_223 := kN BK219 hg; have NB223_219 := kM BK219 hg; have NB220_223 := kN BK220 hg; have NB223_220 := kM BK220 hg; replace BK218 := kb BK218 hb; replace BK219 := kb BK219 hb; replace BK220 := kb BK220 hb; replace HB := kB HB hb; clear hb hbox hg; have hnb16 := NB223_218.out; have hnc16 := NB218_223.out; have hnb17 := NB223_219.out; have hnc17 := NB219_223.out; have hnb18 := NB223_220.out; have hnc18 := NB220_223.out; have hcz19_0 : w15.cell? ⟨gb223, 0, none⟩ = some (.int .i64 0) := kc BK223 0; have hcz19_1 : w15.cell? ⟨gb223, 1, none⟩ = some (.int .u64 0) := kc BK223 1; have hfz19_0 := blk_frozen BK223.out 0; have hfz19_1 := blk_frozen BK223.out 1; have hcz20_0 : w15.cell? ⟨gb218, 0, none⟩ = some (.int .i64 a0_0) := kc BK218 0; have hcz20_1 : w15.cell? ⟨gb218, 1, none⟩ = some (.int .u64 a0_1) := kc BK218 1; have hfz20_0 := blk_frozen BK218.out 0; have hfz20_1 := blk_frozen BK218.out 1; have hcz21_0 : w15.cell? ⟨gb219, 0, none⟩ = some (.int .i64 a1_0) := kc BK219 0; have hcz21_1 : w15.cell? ⟨gb219, 1, none⟩ = some (.int .u64 a1_1) := kc BK219 1; have hfz21_0 := blk_frozen BK219.out 0; have hfz21_1 := blk_frozen BK219.out 1) | ((with_reducible refine gate_callee (f := 56) rfl ?_); refine goesL_ (some 27) rfl rfl Try.func56 (by kernel_rfl) rfl #[.agg #[.int .i64 t221, .int .u64 t222], .bool true] rfl (by (try simp only [List.map_toArray, List.map_cons, List.map_nil]); first | done | rfl | (simp only [List.length_drop, List.length_take]; rfl)) ?_; (with_reducible refine (wide_told.calls t221 t222 true t224 t225 t226 _ A5.out).mono ?_); rintro e w22 ⟨rfl, hb⟩; refine ⟨_, rfl, ?_⟩; have n0_ := kb BK218 hb; have n1_ := kb BK219 hb; have n2_ := kb BK220 hb; have n3_ := Aside0.mk (blk_below (g := gb223) (o := .cells #[.int .i64 t221, .int .u64 t222] 24 (0, 0)) (by (with_reducible repeat (first | refine blk_drewN ?_ _ | refine blk_drew ?_ | refine blk_alloc ?_ _)); refine blk_put (cs := #[.int .i64 t221, .int .u64 0]) ?_ 1 _ rfl; (with_reducible repeat (first | refine blk_drewN ?_ _ | refine blk_drew ?_ | refine blk_alloc ?_ _)); refine blk_put (cs := #[.int .i64 0, .int .u64 0]) ?_ 0 _ rfl; (with_reducible repeat (first | refine blk_drewN ?_ _ | refine blk_drew ?_ | refine blk_alloc ?_ _)); exact BK223.out) hb); have n4_ := kB HB hb; clear BK218; clear BK219; clear BK220; clear BK223; clear HB; have BK218 := n0_; have BK219 := n1_; have BK220 := n2_; have BK223 := n3_; have HB := n4_; clear n0_ n1_ n2_ n3_ n4_; (try clear hb); (try clear hb2); (try clear hk); (try clear hi); have hcz23_0 : w22.cell? ⟨gb220, 0, none⟩ = some (.int .i64 0) := kc BK220 0; have hcz23_1 : w22.cell? ⟨gb220, 1, none⟩ = some (.int .u64 0) := kc BK220 1; have hfz23_0 := blk_frozen BK220.out 0; have hfz23_1 := blk_frozen BK220.out 1))
    refine bodyPost_ret (results_ct rfl _ _ gb220 24 #[.int .i64 t224, .int .u64 t225] (0, 0) _ rfl (by (with_reducible repeat (first | refine blk_drewN ?_ _ | refine blk_drew ?_ | refine blk_alloc ?_ _)); refine blk_put (cs := #[.int .i64 t224, .int .u64 0]) ?_ 1 _ rfl; (with_reducible repeat (first | refine blk_drewN ?_ _ | refine blk_drew ?_ | refine blk_alloc ?_ _)); refine blk_put (cs := #[.int .i64 0, .int .u64 0]) ?_ 0 _ rfl; (with_reducible repeat (first | refine blk_drewN ?_ _ | refine blk_drew ?_ | refine blk_alloc ?_ _)); exact BK220.out) Try.underlying24 rfl (by kernel_rfl)) rfl ?_
    exact ⟨by first | rfl | (simp [errW_none, errW_some] <;> rfl) | (simp [*, errW_none, errW_some] <;> rfl), ky HB⟩
  rw [if_neg c4] at H
  have c4b0 : ((decide (a0_0 < 0)) != (decide (a1_0 < 0))) = false := by simpa using c4
  (try (have c4b1 : decide ((decide (a0_0 < 0)) = (decide (a1_0 < 0))) = true := by simpa using c4))
  (try (have c4b2 : ((decide (a0_0 < 0)) == (decide (a1_0 < 0))) = true := by simpa using c4))
  clear c4
  replace H := Option.bind_eq_some_iff.mp H
  obtain ⟨⟨t227, t228, t229⟩, A240, H⟩ := H
  replace H : (some (t227, t228, t229)) = some (r1, r2, r3) := H
  have A24 := Aside0.mk A240
  clear A240
  simp only [Option.some.injEq, Prod.mk.injEq] at H
  obtain ⟨rfl, rfl, rfl⟩ := H
  go_enter Try.func25, Try.ntmps25
  go_wp2_with (first | ((with_reducible refine gate_dst (N := 2) rfl ?_); refine box_event ?hg (N := 2) ?hd (cs := #[.int .i64 a0_0, .int .u64 a0_1]) (t := 24) ?hr ?_; (case hd => rfl); (case hg => rfl); (case hr => first | (go_simp; done) | (go_simp; rfl)); intro gb218 hg w25 hbox hb; have BK218 := Aside0.mk (hbox); have GW218 := kS HB hg; have GE218 := kS HB hg; replace HB := kB HB hb; clear hb hbox hg) | ((with_reducible refine gate_dst (N := 3) rfl ?_); refine box_event ?hg (N := 3) ?hd (cs := #[.int .i64 a1_0, .int .u64 a1_1]) (t := 24) ?hr ?_; (case hd => rfl); (case hg => rfl); (case hr => first | (go_simp; done) | (go_simp; rfl)); intro gb219 hg w26 hbox hb; have BK219 := Aside0.mk (hbox); have GW219 := kS HB hg; have GE219 := kS HB hg; have NB218_219 := kN BK218 hg; have NB219_218 := kM BK218 hg; replace BK218 := kb BK218 hb; replace HB := kB HB hb; clear hb hbox hg) | ((with_reducible refine gate_dst (N := 4) rfl ?_); refine box_event ?hg (N := 4) ?hd (cs := #[.int .i64 0, .int .u64 0]) (t := 24) ?hr ?_; (case hd => rfl); (case hg => rfl); (case hr => first | (go_simp; done) | (go_simp; rfl)); intro gb220 hg w27 hbox hb; have BK220 := Aside0.mk (hbox); have GW220 := kS HB hg; have GE220 := kS HB hg; have NB218_220 := kN BK218 hg; have NB220_218 := kM BK218 hg; have NB219_220 := kN BK219 hg; have NB220_219 := kM BK219 hg; replace BK218 := kb BK218 hb; replace BK219 := kb BK219 hb; replace HB := kB HB hb; clear hb hbox hg; have hnb28 := NB218_219.out; have hnc28 := NB219_218.out; have hnb29 := NB218_220.out; have hnc29 := NB220_218.out; have hcz30_0 : w27.cell? ⟨gb218, 0, none⟩ = some (.int .i64 a0_0) := kc BK218 0; have hcz30_1 : w27.cell? ⟨gb218, 1, none⟩ = some (.int .u64 a0_1) := kc BK218 1; have hfz30_0 := blk_frozen BK218.out 0; have hfz30_1 := blk_frozen BK218.out 1; have hnb31 := NB219_220.out; have hnc31 := NB220_219.out; have hcz32_0 : w27.cell? ⟨gb219, 0, none⟩ = some (.int .i64 a1_0) := kc BK219 0; have hcz32_1 : w27.cell? ⟨gb219, 1, none⟩ = some (.int .u64 a1_1) := kc BK219 1; have hfz32_0 := blk_frozen BK219.out 0; have hfz32_1 := blk_frozen BK219.out 1) | ((with_reducible refine gate_callee (f := 55) rfl ?_); refine goesL_ (some 9) rfl rfl Try.func55 (by kernel_rfl) rfl #[.agg #[.int .i64 a0_0, .int .u64 a0_1], .agg #[.int .i64 a1_0, .int .u64 a1_1]] rfl (by (try simp only [List.map_toArray, List.map_cons, List.map_nil]); first | done | rfl | (simp only [List.length_drop, List.length_take]; rfl)) ?_; (with_reducible refine (wide_wrap.calls a0_0 a0_1 a1_0 a1_1 t221 t222 _ A3.out).mono ?_); rintro e w33 ⟨rfl, hb⟩; refine ⟨_, rfl, ?_⟩; replace BK218 := kb BK218 hb; replace BK219 := kb BK219 hb; replace BK220 := kb BK220 hb; replace HB := kB HB hb; (try clear hb); (try clear hb2); (try clear hk); (try clear hi)) | ((with_reducible refine gate_dst (N := 6) rfl ?_); refine box_event ?hg (N := 6) ?hd (cs := #[.int .i64 0, .int .u64 0]) (t := 24) ?hr ?_; (case hd => rfl); (case hg => rfl); (case hr => first | (go_simp; done) | (go_simp; rfl)); intro gb223 hg w34 hbox hb; have BK223 := Aside0.mk (hbox); have GW223 := kS HB hg; have GE223 := kS HB hg; have NB218_223 := kN BK218 hg; have NB223_218 := kM BK218 hg; have NB219_223 := kN BK219 hg; have NB223_219 := kM BK219 hg; have NB220_223 := kN BK220 hg; have NB223_220 := kM BK220 hg; replace BK218 := kb BK218 hb; replace BK219 := kb BK219 hb; replace BK220 := kb BK220 hb; replace HB := kB HB hb; clear hb hbox hg; have hnb35 := NB223_218.out; have hnc35 := NB218_223.out; have hnb36 := NB223_219.out; have hnc36 := NB219_223.out; have hnb37 := NB223_220.out; have hnc37 := NB220_223.out; have hcz38_0 : w34.cell? ⟨gb223, 0, none⟩ = some (.int .i64 0) := kc BK223 0; have hcz38_1 : w34.cell? ⟨gb223, 1, none⟩ = some (.int .u64 0) := kc BK223 1; have hfz38_0 := blk_frozen BK223.out 0; have hfz38_1 := blk_frozen BK223.out 1; have hcz39_0 : w34.cell? ⟨gb218, 0, none⟩ = some (.int .i64 a0_0) := kc BK218 0; have hcz39_1 : w34.cell? ⟨gb218, 1, none⟩ = some (.int .u64 a0_1) := kc BK218 1; have hfz39_0 := blk_frozen BK218.out 0; have hfz39_1 := blk_frozen BK218.out 1; have hcz40_0 : w34.cell? ⟨gb219, 0, none⟩ = some (.int .i64 a1_0) := kc BK219 0; have hcz40_1 : w34.cell? ⟨gb219, 1, none⟩ = some (.int .u64 a1_1) := kc BK219 1; have hfz40_0 := blk_frozen BK219.out 0; have hfz40_1 := blk_frozen BK219.out 1) | ((with_reducible refine gate_callee (f := 56) rfl ?_); refine goesL_ (some 27) rfl rfl Try.func56 (by kernel_rfl) rfl #[.agg #[.int .i64 t221, .int .u64 t222], .bool ((decide (a0_0 < 0)) == (decide (t221 < 0)))] rfl (by (try simp only [List.map_toArray, List.map_cons, List.map_nil]); first | done | rfl | (simp only [List.length_drop, List.length_take]; rfl)) ?_; (with_reducible refine (wide_told.calls t221 t222 ((decide (a0_0 < 0)) == (decide (t221 < 0))) t227 t228 t229 _ A24.out).mono ?_); rintro e w41 ⟨rfl, hb⟩; refine ⟨_, rfl, ?_⟩; have n0_ := kb BK218 hb; have n1_ := kb BK219 hb; have n2_ := kb BK220 hb; have n3_ := Aside0.mk (blk_below (g := gb223) (o := .cells #[.int .i64 t221, .int .u64 t222] 24 (0, 0)) (by (with_reducible repeat (first | refine blk_drewN ?_ _ | refine blk_drew ?_ | refine blk_alloc ?_ _)); refine blk_put (cs := #[.int .i64 t221, .int .u64 0]) ?_ 1 _ rfl; (with_reducible repeat (first | refine blk_drewN ?_ _ | refine blk_drew ?_ | refine blk_alloc ?_ _)); refine blk_put (cs := #[.int .i64 0, .int .u64 0]) ?_ 0 _ rfl; (with_reducible repeat (first | refine blk_drewN ?_ _ | refine blk_drew ?_ | refine blk_alloc ?_ _)); exact BK223.out) hb); have n4_ := kB HB hb; clear BK218; clear BK219; clear BK220; clear BK223; clear HB; have BK218 := n0_; have BK219 := n1_; have BK220 := n2_; have BK223 := n3_; have HB := n4_; clear n0_ n1_ n2_ n3_ n4_; (try clear hb); (try clear hb2); (try clear hk); (try clear hi); have hcz42_0 : w41.cell? ⟨gb220, 0, none⟩ = some (.int .i64 0) := kc BK220 0; have hcz42_1 : w41.cell? ⟨gb220, 1, none⟩ = some (.int .u64 0) := kc BK220 1; have hfz42_0 := blk_frozen BK220.out 0; have hfz42_1 := blk_frozen BK220.out 1))
  refine bodyPost_ret (results_ct rfl _ _ gb220 24 #[.int .i64 t227, .int .u64 t228] (0, 0) _ rfl (by (with_reducible repeat (first | refine blk_drewN ?_ _ | refine blk_drew ?_ | refine blk_alloc ?_ _)); refine blk_put (cs := #[.int .i64 t227, .int .u64 0]) ?_ 1 _ rfl; (with_reducible repeat (first | refine blk_drewN ?_ _ | refine blk_drew ?_ | refine blk_alloc ?_ _)); refine blk_put (cs := #[.int .i64 0, .int .u64 0]) ?_ 0 _ rfl; (with_reducible repeat (first | refine blk_drewN ?_ _ | refine blk_drew ?_ | refine blk_alloc ?_ _)); exact BK220.out) Try.underlying24 rfl (by kernel_rfl)) rfl ?_
  exact ⟨by first | rfl | (simp [errW_none, errW_some] <;> rfl) | (simp [*, errW_none, errW_some] <;> rfl), ky HB⟩

/-! ### wide_Sub: function 31 -/
def wide_Sub.f (a0_0 : Int) (a0_1 : Int) (a1_0 : Int) (a1_1 : Int) : Option (Int × Int × Bool) := (wide_turn.f a1_0 a1_1).bind fun bt233 => ((wide_wrap.f a0_0 a0_1 bt233.1 bt233.2).bind fun bt235 => (if ((decide (a0_0 < 0)) == (decide (a1_0 < 0))) = true then ((wide_told.f bt235.1 bt235.2 true).bind fun bt238 => (some (bt238.1, bt238.2.1, bt238.2.2))) else ((wide_told.f bt235.1 bt235.2 ((decide (a0_0 < 0)) == (decide (bt235.1 < 0)))).bind fun bt241 => (some (bt241.1, bt241.2.1, bt241.2.2)))))
set_option maxHeartbeats 8000000 in
set_option maxRecDepth 100000 in
theorem wide_Sub.calls (a0_0 : Int) (a0_1 : Int) (a1_0 : Int) (a1_1 : Int) (r1 : Int) (r2 : Int) (r3 : Bool) (w : World) (h : wide_Sub.f a0_0 a0_1 a1_0 a1_1 = some (r1, r2, r3)) :
    Calls Try.prog 31 #[.agg #[.int .i64 a0_0, .int .u64 a0_1], .agg #[.int .i64 a1_0, .int .u64 a1_1]] w fun e w' => e = .returned (.tuple #[.agg #[.int .i64 r1, .int .u64 r2], .bool r3]) ∧ Below w.heap.size w w' := by
  have hu24 := Try.underlying24
  have HB := Aside0.mk (Below.refl w.heap.size w)
  have H : ((wide_turn.f a1_0 a1_1).bind fun bt233 => ((wide_wrap.f a0_0 a0_1 bt233.1 bt233.2).bind fun bt235 => (if ((decide (a0_0 < 0)) == (decide (a1_0 < 0))) = true then ((wide_told.f bt235.1 bt235.2 true).bind fun bt238 => (some (bt238.1, bt238.2.1, bt238.2.2))) else ((wide_told.f bt235.1 bt235.2 ((decide (a0_0 < 0)) == (decide (bt235.1 < 0)))).bind fun bt241 => (some (bt241.1, bt241.2.1, bt241.2.2)))))) = some (r1, r2, r3) := h
  clear h
  replace H := Option.bind_eq_some_iff.mp H
  obtain ⟨⟨t233, t234⟩, A30, H⟩ := H
  replace H : ((wide_wrap.f a0_0 a0_1 t233 t234).bind fun bt235 => (if ((decide (a0_0 < 0)) == (decide (a1_0 < 0))) = true then ((wide_told.f bt235.1 bt235.2 true).bind fun bt238 => (some (bt238.1, bt238.2.1, bt238.2.2))) else ((wide_told.f bt235.1 bt235.2 ((decide (a0_0 < 0)) == (decide (bt235.1 < 0)))).bind fun bt241 => (some (bt241.1, bt241.2.1, bt241.2.2))))) = some (r1, r2, r3) := H
  have A3 := Aside0.mk A30
  clear A30
  replace H := Option.bind_eq_some_iff.mp H
  obtain ⟨⟨t235, t236⟩, A40, H⟩ := H
  replace H : (if ((decide (a0_0 < 0)) == (decide (a1_0 < 0))) = true then ((wide_told.f t235 t236 true).bind fun bt238 => (some (bt238.1, bt238.2.1, bt238.2.2))) else ((wide_told.f t235 t236 ((decide (a0_0 < 0)) == (decide (t235 < 0)))).bind fun bt241 => (some (bt241.1, bt241.2.1, bt241.2.2)))) = some (r1, r2, r3) := H
  have A4 := Aside0.mk A40
  clear A40
  by_cases c5 : ((decide (a0_0 < 0)) == (decide (a1_0 < 0))) = true
  · rw [if_pos c5] at H
    have c5b0 : ((decide (a0_0 < 0)) == (decide (a1_0 < 0))) = true := c5
    (try (have c5b1 : decide ((decide (a0_0 < 0)) = (decide (a1_0 < 0))) = true := by simpa using c5))
    (try (have c5b2 : ((decide (a0_0 < 0)) == (decide (a1_0 < 0))) = true := by simpa using c5))
    clear c5
    replace H := Option.bind_eq_some_iff.mp H
    obtain ⟨⟨t238, t239, t240⟩, A60, H⟩ := H
    replace H : (some (t238, t239, t240)) = some (r1, r2, r3) := H
    have A6 := Aside0.mk A60
    clear A60
    simp only [Option.some.injEq, Prod.mk.injEq] at H
    obtain ⟨rfl, rfl, rfl⟩ := H
    go_enter Try.func31, Try.ntmps31
    try go_wp2_with (first | ((with_reducible refine gate_dst (N := 2) rfl ?_); refine box_event ?hg (N := 2) ?hd (cs := #[.int .i64 a0_0, .int .u64 a0_1]) (t := 24) ?hr ?_; (case hd => rfl); (case hg => rfl); (case hr => first | (go_simp; done) | (go_simp; rfl)); intro gb230 hg w7 hbox hb; have BK230 := Aside0.mk (hbox); have GW230 := kS HB hg; have GE230 := kS HB hg; replace HB := kB HB hb; clear hb hbox hg) | ((with_reducible refine gate_dst (N := 3) rfl ?_); refine box_event ?hg (N := 3) ?hd (cs := #[.int .i64 a1_0, .int .u64 a1_1]) (t := 24) ?hr ?_; (case hd => rfl); (case hg => rfl); (case hr => first | (go_simp; done) | (go_simp; rfl)); intro gb231 hg w8 hbox hb; have BK231 := Aside0.mk (hbox); have GW231 := kS HB hg; have GE231 := kS HB hg; have NB230_231 := kN BK230 hg; have NB231_230 := kM BK230 hg; replace BK230 := kb BK230 hb; replace HB := kB HB hb; clear hb hbox hg) | ((with_reducible refine gate_dst (N := 4) rfl ?_); refine box_event ?hg (N := 4) ?hd (cs := #[.int .i64 0, .int .u64 0]) (t := 24) ?hr ?_; (case hd => rfl); (case hg => rfl); (case hr => first | (go_simp; done) | (go_simp; rfl)); intro gb232 hg w9 hbox hb; have BK232 := Aside0.mk (hbox); have GW232 := kS HB hg; have GE232 := kS HB hg; have NB230_232 := kN BK230 hg; have NB232_230 := kM BK230 hg; have NB231_232 := kN BK231 hg; have NB232_231 := kM BK231 hg; replace BK230 := kb BK230 hb; replace BK231 := kb BK231 hb; replace HB := kB HB hb; clear hb hbox hg))
    replace BK230 := Aside0.mk (blk_drew BK230.out)
    replace BK231 := Aside0.mk (blk_drew BK231.out)
    replace BK232 := Aside0.mk (blk_drew BK232.out)
    replace HB := Aside0.mk (below_drew1 HB.out)
    refine start_ (n := 6) (S := fun w' => w'.cell? ⟨gb230, 0, none⟩ = some (.int .i64 a0_0) ∧ w'.cell? ⟨gb230, 1, none⟩ = some (.int .u64 a0_1) ∧ w'.cell? ⟨gb231, 0, none⟩ = some (.int .i64 a1_0) ∧ w'.cell? ⟨gb231, 1, none⟩ = some (.int .u64 a1_1)) (ds := []) #[O, O, O, O, O, O] (by kernel_rfl) rfl rfl ⟨kc BK230 0, kc BK230 1, kc BK231 0, kc BK231 1⟩ (fun hHeld => ?_)
    generalize w9.drew = w10 at BK230 BK231 BK232 HB hHeld ⊢
    refine take_ (i := 0) (N := some 7) (v := ?_) (a' := ?_) #[T, O, O, O, O, O] rfl rfl (by kernel_rfl) (fun _ _ _ h => h) (Or.inl ⟨by rfl, ?_⟩) hHeld ?_ ?_; rotate_left; focus (rintro w' ⟨s0, s1, s2, s3⟩; go_simp; with_reducible rfl)
    rotate_left; focus (simp only [Act.put, s1, s2, s3, i64_w, i32_w]; rfl)
    refine take_ (i := 1) (N := some 8) (v := ?_) (a' := ?_) #[T, T, O, O, O, O] rfl rfl (by kernel_rfl) (fun _ _ _ h => h) (Or.inl ⟨by rfl, ?_⟩) hHeld ?_ ?_; rotate_left; focus (rintro w' ⟨s0, s1, s2, s3⟩; go_simp; with_reducible rfl)
    rotate_left; focus (simp only [Act.put, s1, s2, s3, i64_w, i32_w]; rfl)
    refine join_ (σ := Nat) 1 #[T, T, T, T, T, O] (fun s_ => [(9, .agg #[.int .i64 t233, .int .u64 t234]), (10, .agg #[.int .i64 t235, .int .u64 t236]), (6, .pointer (some ⟨s_, 0, none⟩))]) (fun s_ w' => (w'.cell? ⟨gb230, 0, none⟩ = some (.int .i64 a0_0) ∧ w'.cell? ⟨gb230, 1, none⟩ = some (.int .u64 a0_1) ∧ w'.cell? ⟨gb231, 0, none⟩ = some (.int .i64 a1_0) ∧ w'.cell? ⟨gb231, 1, none⟩ = some (.int .u64 a1_1)) ∧ (w'.heap[gb230]? = some (.cells #[.int .i64 a0_0, .int .u64 a0_1] 24 (0, 0))) ∧ (w'.heap[gb231]? = some (.cells #[.int .i64 a1_0, .int .u64 a1_1] 24 (0, 0))) ∧ (w'.heap[gb232]? = some (.cells #[.int .i64 0, .int .u64 0] 24 (0, 0))) ∧ (w'.heap[s_]? = some (.cells #[.int .i64 0, .int .u64 0] 24 (0, 0))) ∧ (w.heap.size ≤ s_) ∧ (w.heap.size ≤ s_) ∧ (gb230 ≠ s_) ∧ (s_ ≠ gb230) ∧ (gb231 ≠ s_) ∧ (s_ ≠ gb231) ∧ (gb232 ≠ s_) ∧ (s_ ≠ gb232) ∧ (Below w.heap.size w w')) ?_ ?_
    rotate_left
    · intro hCont
      refine two_ (i := 2) (j := 4) (Ni := some 9) (Nj := some 6) #[T, T, T, O, O, O] #[T, T, O, O, T, O] rfl rfl rfl rfl (by kernel_rfl) (by decide) (by decide) (fun K hK => ?_) (fun K hK => ?_)
      · skip
        refine goes_ Try.func65 (by kernel_rfl) rfl #[.agg #[.int .i64 a1_0, .int .u64 a1_1]] (by rfl) rfl rfl (by (try simp only [List.map_toArray, List.map_cons, List.map_nil]); first | done | rfl | (simp only [List.length_drop, List.length_take]; rfl)) ?_
        with_reducible refine (wide_turn.calls a1_0 a1_1 t233 t234 _ A3.out).mono ?_
        rintro e w11 ⟨rfl, hb⟩
        refine ⟨_, rfl, ?_⟩
        replace BK230 := kb BK230 hb
        replace BK231 := kb BK231 hb
        replace BK232 := kb BK232 hb
        replace HB := kB HB hb
        (try clear hb); (try clear hb2); (try clear hk); (try clear hi)
        refine hK.out _ _ ⟨kc BK230 0, kc BK230 1, kc BK231 0, kc BK231 1⟩ (fun hHeld => ?_)
        clear hK K
        refine norm_ (a' := ?_) ?_ ?_; rotate_left; focus (show Act.put _ (some 9) _ = _; simp only [Act.put, s1, s2, s3, i64_w, i32_w]; rfl)
        refine two_ (i := 3) (j := 4) (Ni := some 10) (Nj := some 6) #[T, T, T, T, O, O] #[T, T, T, O, T, O] rfl rfl rfl rfl (by kernel_rfl) (by decide) (by decide) (fun K hK => ?_) (fun K hK => ?_)
        · skip
          refine goes_ Try.func55 (by kernel_rfl) rfl #[.agg #[.int .i64 a0_0, .int .u64 a0_1], .agg #[.int .i64 t233, .int .u64 t234]] (by rfl) rfl rfl (by (try simp only [List.map_toArray, List.map_cons, List.map_nil]); first | done | rfl | (simp only [List.length_drop, List.length_take]; rfl)) ?_
          with_reducible refine (wide_wrap.calls a0_0 a0_1 t233 t234 t235 t236 _ A4.out).mono ?_
          rintro e w12 ⟨rfl, hb⟩
          refine ⟨_, rfl, ?_⟩
          replace BK230 := kb BK230 hb
          replace BK231 := kb BK231 hb
          replace BK232 := kb BK232 hb
          replace HB := kB HB hb
          (try clear hb); (try clear hb2); (try clear hk); (try clear hi)
          refine hK.out _ _ ⟨kc BK230 0, kc BK230 1, kc BK231 0, kc BK231 1⟩ (fun hHeld => ?_)
          clear hK K
          refine norm_ (a' := ?_) ?_ ?_; rotate_left; focus (show Act.put _ (some 10) _ = _; simp only [Act.put, s1, s2, s3, i64_w, i32_w]; rfl)
          refine one_ (i := 4) (N := some 6) #[T, T, T, T, T, O] rfl rfl (by kernel_rfl) (by decide) (fun K hK => ?_)
          refine box_step ?hg (N := 6) ?hd (cs := #[.int .i64 0, .int .u64 0]) (t := 24) ?hr ?_; (case hd => rfl); (case hg => rfl); (case hr => first | (go_simp; done) | (go_simp; rfl))
          intro gb237 hg w13 hbox hb
          have BK237 := Aside0.mk (hbox)
          have GW237 := kS HB hg
          have GE237 := kS HB hg
          have NB230_237 := kN BK230 hg
          have NB237_230 := kM BK230 hg
          have NB231_237 := kN BK231 hg
          have NB237_231 := kM BK231 hg
          have NB232_237 := kN BK232 hg
          have NB237_232 := kM BK232 hg
          replace BK230 := kb BK230 hb
          replace BK231 := kb BK231 hb
          replace BK232 := kb BK232 hb
          replace HB := kB HB hb
          clear hb hbox hg
          refine hK.out _ _ ⟨kc BK230 0, kc BK230 1, kc BK231 0, kc BK231 1⟩ (fun hHeld => ?_)
          clear hK K
          refine norm_ (a' := ?_) ?_ ?_; rotate_left; focus (show Act.put _ (some 6) _ = _; simp only [Act.put, s1, s2, s3, i64_w, i32_w]; rfl)
          exact norm_ (by simp only [putAll, Act.put, s1, s2, s3]) (hCont (gb237) _ ⟨hHeld, (kx BK230), (kx BK231), (kx BK232), (kx BK237), GW237.out, GE237.out, NB230_237.out, NB237_230.out, NB231_237.out, NB237_231.out, NB232_237.out, NB237_232.out, (ky HB)⟩)
        · skip
          refine box_step ?hg (N := 6) ?hd (cs := #[.int .i64 0, .int .u64 0]) (t := 24) ?hr ?_; (case hd => rfl); (case hg => rfl); (case hr => first | (go_simp; done) | (go_simp; rfl))
          intro gb237 hg w12 hbox hb
          have BK237 := Aside0.mk (hbox)
          have GW237 := kS HB hg
          have GE237 := kS HB hg
          have NB230_237 := kN BK230 hg
          have NB237_230 := kM BK230 hg
          have NB231_237 := kN BK231 hg
          have NB237_231 := kM BK231 hg
          have NB232_237 := kN BK232 hg
          have NB237_232 := kM BK232 hg
          replace BK230 := kb BK230 hb
          replace BK231 := kb BK231 hb
          replace BK232 := kb BK232 hb
          replace HB := kB HB hb
          clear hb hbox hg
          refine hK.out _ _ ⟨kc BK230 0, kc BK230 1, kc BK231 0, kc BK231 1⟩ (fun hHeld => ?_)
          clear hK K
          refine norm_ (a' := ?_) ?_ ?_; rotate_left; focus (show Act.put _ (some 6) _ = _; simp only [Act.put, s1, s2, s3, i64_w, i32_w]; rfl)
          refine one_ (i := 3) (N := some 10) #[T, T, T, T, T, O] rfl rfl (by kernel_rfl) (by decide) (fun K hK => ?_)
          refine goes_ Try.func55 (by kernel_rfl) rfl #[.agg #[.int .i64 a0_0, .int .u64 a0_1], .agg #[.int .i64 t233, .int .u64 t234]] (by rfl) rfl rfl (by (try simp only [List.map_toArray, List.map_cons, List.map_nil]); first | done | rfl | (simp only [List.length_drop, List.length_take]; rfl)) ?_
          with_reducible refine (wide_wrap.calls a0_0 a0_1 t233 t234 t235 t236 _ A4.out).mono ?_
          rintro e w13 ⟨rfl, hb⟩
          refine ⟨_, rfl, ?_⟩
          replace BK230 := kb BK230 hb
          replace BK231 := kb BK231 hb
          replace BK232 := kb BK232 hb
          replace BK237 := kb BK237 hb
          replace HB := kB HB hb
          (try clear hb); (try clear hb2); (try clear hk); (try clear hi)
          refine hK.out _ _ ⟨kc BK230 0, kc BK230 1, kc BK231 0, kc BK231 1⟩ (fun hHeld => ?_)
          clear hK K
          refine norm_ (a' := ?_) ?_ ?_; rotate_left; focus (show Act.put _ (some 10) _ = _; simp only [Act.put, s1, s2, s3, i64_w, i32_w]; rfl)
          exact norm_ (by simp only [putAll, Act.put, s1, s2, s3]) (hCont (gb237) _ ⟨hHeld, (kx BK230), (kx BK231), (kx BK232), (kx BK237), GW237.out, GE237.out, NB230_237.out, NB237_230.out, NB231_237.out, NB237_231.out, NB232_237.out, NB237_232.out, (ky HB)⟩)
      · skip
        refine box_step ?hg (N := 6) ?hd (cs := #[.int .i64 0, .int .u64 0]) (t := 24) ?hr ?_; (case hd => rfl); (case hg => rfl); (case hr => first | (go_simp; done) | (go_simp; rfl))
        intro gb237 hg w11 hbox hb
        have BK237 := Aside0.mk (hbox)
        have GW237 := kS HB hg
        have GE237 := kS HB hg
        have NB230_237 := kN BK230 hg
        have NB237_230 := kM BK230 hg
        have NB231_237 := kN BK231 hg
        have NB237_231 := kM BK231 hg
        have NB232_237 := kN BK232 hg
        have NB237_232 := kM BK232 hg
        replace BK230 := kb BK230 hb
        replace BK231 := kb BK231 hb
        replace BK232 := kb BK232 hb
        replace HB := kB HB hb
        clear hb hbox hg
        refine hK.out _ _ ⟨kc BK230 0, kc BK230 1, kc BK231 0, kc BK231 1⟩ (fun hHeld => ?_)
        clear hK K
        refine norm_ (a' := ?_) ?_ ?_; rotate_left; focus (show Act.put _ (some 6) _ = _; simp only [Act.put, s1, s2, s3, i64_w, i32_w]; rfl)
        refine one_ (i := 2) (N := some 9) #[T, T, T, O, T, O] rfl rfl (by kernel_rfl) (by decide) (fun K hK => ?_)
        refine goes_ Try.func65 (by kernel_rfl) rfl #[.agg #[.int .i64 a1_0, .int .u64 a1_1]] (by rfl) rfl rfl (by (try simp only [List.map_toArray, List.map_cons, List.map_nil]); first | done | rfl | (simp only [List.length_drop, List.length_take]; rfl)) ?_
        with_reducible refine (wide_turn.calls a1_0 a1_1 t233 t234 _ A3.out).mono ?_
        rintro e w12 ⟨rfl, hb⟩
        refine ⟨_, rfl, ?_⟩
        replace BK230 := kb BK230 hb
        replace BK231 := kb BK231 hb
        replace BK232 := kb BK232 hb
        replace BK237 := kb BK237 hb
        replace HB := kB HB hb
        (try clear hb); (try clear hb2); (try clear hk); (try clear hi)
        refine hK.out _ _ ⟨kc BK230 0, kc BK230 1, kc BK231 0, kc BK231 1⟩ (fun hHeld => ?_)
        clear hK K
        refine norm_ (a' := ?_) ?_ ?_; rotate_left; focus (show Act.put _ (some 9) _ = _; simp only [Act.put, s1, s2, s3, i64_w, i32_w]; rfl)
        refine one_ (i := 3) (N := some 10) #[T, T, T, T, T, O] rfl rfl (by kernel_rfl) (by decide) (fun K hK => ?_)
        refine goes_ Try.func55 (by kernel_rfl) rfl #[.agg #[.int .i64 a0_0, .int .u64 a0_1], .agg #[.int .i64 t233, .int .u64 t234]] (by rfl) rfl rfl (by (try simp only [List.map_toArray, List.map_cons, List.map_nil]); first | done | rfl | (simp only [List.length_drop, List.length_take]; rfl)) ?_
        with_reducible refine (wide_wrap.calls a0_0 a0_1 t233 t234 t235 t236 _ A4.out).mono ?_
        rintro e w13 ⟨rfl, hb⟩
        refine ⟨_, rfl, ?_⟩
        replace BK230 := kb BK230 hb
        replace BK231 := kb BK231 hb
        replace BK232 := kb BK232 hb
        replace BK237 := kb BK237 hb
        replace HB := kB HB hb
        (try clear hb); (try clear hb2); (try clear hk); (try clear hi)
        refine hK.out _ _ ⟨kc BK230 0, kc BK230 1, kc BK231 0, kc BK231 1⟩ (fun hHeld => ?_)
        clear hK K
        refine norm_ (a' := ?_) ?_ ?_; rotate_left; focus (show Act.put _ (some 10) _ = _; simp only [Act.put, s1, s2, s3, i64_w, i32_w]; rfl)
        exact norm_ (by simp only [putAll, Act.put, s1, s2, s3]) (hCont (gb237) _ ⟨hHeld, (kx BK230), (kx BK231), (kx BK232), (kx BK237), GW237.out, GE237.out, NB230_237.out, NB237_230.out, NB231_237.out, NB237_231.out, NB232_237.out, NB237_232.out, (ky HB)⟩)
    rintro gb237 w14 ⟨hS_, h0_, h1_, h2_, h3_, h4_, h5_, h6_, h7_, h8_, h9_, h10_, h11_, h12_⟩
    clear BK230 BK231 BK232 HB
    have BK230 := A0 h0_; have BK231 := A0 h1_; have BK232 := A0 h2_; have BK237 := A0 h3_; have GW237 := A0 h4_; have GE237 := A0 h5_; have NB230_237 := A0 h6_; have NB237_230 := A0 h7_; have NB231_237 := A0 h8_; have NB237_231 := A0 h9_; have NB232_237 := A0 h10_; have NB237_232 := A0 h11_; have HB := A0 h12_
    clear h0_ h1_ h2_ h3_ h4_ h5_ h6_ h7_ h8_ h9_ h10_ h11_ h12_
    have hHeld := hS_
    refine norm_ (a' := ?_) ?_ ?_; rotate_left; focus (simp only [putAll, Act.put, s1, s2, s3]; rfl)
    refine one_ (i := 5) (N := none) #[T, T, T, T, T, T] rfl rfl (by kernel_rfl) (by decide) (fun K hK => ?_)
    have hs15 : w14.cell? ⟨gb237, 0, none⟩ = some (.int .i64 0) := kc BK237 0
    have hfs15 := blk_frozen BK237.out 0
    have hns15_0 := NB230_237.out; have hns15_1 := NB231_237.out; have hns15_2 := NB232_237.out; have hms15_0 := NB237_230.out; have hms15_1 := NB237_231.out; have hms15_2 := NB237_232.out
    have hs16 : w14.cell? ⟨gb237, 1, none⟩ = some (.int .u64 0) := kc BK237 1
    have hfs16 := blk_frozen BK237.out 1
    have hns16_0 := NB230_237.out; have hns16_1 := NB231_237.out; have hns16_2 := NB232_237.out; have hms16_0 := NB237_230.out; have hms16_1 := NB237_231.out; have hms16_2 := NB237_232.out
    refine skip_ (w1 := ?_) (by rfl) rfl ?_ ?_
    rotate_left
    · go_simp
      rfl
    refine hK.out _ _ ⟨((cell_far (p := ⟨gb237, _, none⟩) NB230_237.out _).trans (((cell_far (p := ⟨gb237, _, none⟩) NB230_237.out _).trans (hHeld.1)))), ((cell_far (p := ⟨gb237, _, none⟩) NB230_237.out _).trans (((cell_far (p := ⟨gb237, _, none⟩) NB230_237.out _).trans (hHeld.2.1)))), ((cell_far (p := ⟨gb237, _, none⟩) NB231_237.out _).trans (((cell_far (p := ⟨gb237, _, none⟩) NB231_237.out _).trans (hHeld.2.2.1)))), ((cell_far (p := ⟨gb237, _, none⟩) NB231_237.out _).trans (((cell_far (p := ⟨gb237, _, none⟩) NB231_237.out _).trans (hHeld.2.2.2))))⟩ (fun hHeld => ?_)
    clear hK K
    refine done_ (by kernel_rfl) ?_
    have hnb17 := NB237_230.out; have hnc17 := NB230_237.out; have hnb18 := NB237_231.out; have hnc18 := NB231_237.out; have hnb19 := NB237_232.out; have hnc19 := NB232_237.out
    have hcz20_0 : w14.cell? ⟨gb237, 0, none⟩ = some (.int .i64 0) := kc BK237 0
    have hcz20_1 : w14.cell? ⟨gb237, 1, none⟩ = some (.int .u64 0) := kc BK237 1
    have hfz20_0 := blk_frozen BK237.out 0
    have hfz20_1 := blk_frozen BK237.out 1
    have hnb21 := NB230_231.out; have hnc21 := NB231_230.out; have hnb22 := NB230_232.out; have hnc22 := NB232_230.out
    have hcz23_0 : w14.cell? ⟨gb230, 0, none⟩ = some (.int .i64 a0_0) := kc BK230 0
    have hcz23_1 : w14.cell? ⟨gb230, 1, none⟩ = some (.int .u64 a0_1) := kc BK230 1
    have hfz23_0 := blk_frozen BK230.out 0
    have hfz23_1 := blk_frozen BK230.out 1
    have hnb24 := NB231_232.out; have hnc24 := NB232_231.out
    have hcz25_0 : w14.cell? ⟨gb231, 0, none⟩ = some (.int .i64 a1_0) := kc BK231 0
    have hcz25_1 : w14.cell? ⟨gb231, 1, none⟩ = some (.int .u64 a1_1) := kc BK231 1
    have hfz25_0 := blk_frozen BK231.out 0
    have hfz25_1 := blk_frozen BK231.out 1
    try go_wp2_with (first | ((with_reducible refine gate_callee (f := 56) rfl ?_); refine goesL_ (some 28) rfl rfl Try.func56 (by kernel_rfl) rfl #[.agg #[.int .i64 t235, .int .u64 t236], .bool true] rfl (by (try simp only [List.map_toArray, List.map_cons, List.map_nil]); first | done | rfl | (simp only [List.length_drop, List.length_take]; rfl)) ?_; (with_reducible refine (wide_told.calls t235 t236 true t238 t239 t240 _ A6.out).mono ?_); rintro e w26 ⟨rfl, hb⟩; refine ⟨_, rfl, ?_⟩; have n0_ := kb BK230 hb; have n1_ := kb BK231 hb; have n2_ := kb BK232 hb; have n3_ := Aside0.mk (blk_below (g := gb237) (o := .cells #[.int .i64 t235, .int .u64 t236] 24 (0, 0)) (by (with_reducible repeat (first | refine blk_drewN ?_ _ | refine blk_drew ?_ | refine blk_alloc ?_ _)); refine blk_put (cs := #[.int .i64 t235, .int .u64 0]) ?_ 1 _ rfl; (with_reducible repeat (first | refine blk_drewN ?_ _ | refine blk_drew ?_ | refine blk_alloc ?_ _)); refine blk_put (cs := #[.int .i64 0, .int .u64 0]) ?_ 0 _ rfl; (with_reducible repeat (first | refine blk_drewN ?_ _ | refine blk_drew ?_ | refine blk_alloc ?_ _)); exact BK237.out) hb); have n4_ := kB HB hb; clear BK230; clear BK231; clear BK232; clear BK237; clear HB; have BK230 := n0_; have BK231 := n1_; have BK232 := n2_; have BK237 := n3_; have HB := n4_; clear n0_ n1_ n2_ n3_ n4_; (try clear hb); (try clear hb2); (try clear hk); (try clear hi); have hcz27_0 : w26.cell? ⟨gb232, 0, none⟩ = some (.int .i64 0) := kc BK232 0; have hcz27_1 : w26.cell? ⟨gb232, 1, none⟩ = some (.int .u64 0) := kc BK232 1; have hfz27_0 := blk_frozen BK232.out 0; have hfz27_1 := blk_frozen BK232.out 1))
    refine bodyPost_ret (results_ct rfl _ _ gb232 24 #[.int .i64 t238, .int .u64 t239] (0, 0) _ rfl (by (with_reducible repeat (first | refine blk_drewN ?_ _ | refine blk_drew ?_ | refine blk_alloc ?_ _)); refine blk_put (cs := #[.int .i64 t238, .int .u64 0]) ?_ 1 _ rfl; (with_reducible repeat (first | refine blk_drewN ?_ _ | refine blk_drew ?_ | refine blk_alloc ?_ _)); refine blk_put (cs := #[.int .i64 0, .int .u64 0]) ?_ 0 _ rfl; (with_reducible repeat (first | refine blk_drewN ?_ _ | refine blk_drew ?_ | refine blk_alloc ?_ _)); exact BK232.out) Try.underlying24 rfl (by kernel_rfl)) rfl ?_
    exact ⟨by first | rfl | (simp [errW_none, errW_some] <;> rfl) | (simp [*, errW_none, errW_some] <;> rfl), ky HB⟩
  rw [if_neg c5] at H
  have c5b0 : ((decide (a0_0 < 0)) == (decide (a1_0 < 0))) = false := by simpa using c5
  (try (have c5b1 : decide ((decide (a0_0 < 0)) = (decide (a1_0 < 0))) = false := by simpa using c5))
  (try (have c5b2 : ((decide (a0_0 < 0)) == (decide (a1_0 < 0))) = false := by simpa using c5))
  (try (have c5b3 : ¬ ((decide (a0_0 < 0)) = (decide (a1_0 < 0))) := by simpa using c5))
  clear c5
  replace H := Option.bind_eq_some_iff.mp H
  obtain ⟨⟨t241, t242, t243⟩, A280, H⟩ := H
  replace H : (some (t241, t242, t243)) = some (r1, r2, r3) := H
  have A28 := Aside0.mk A280
  clear A280
  simp only [Option.some.injEq, Prod.mk.injEq] at H
  obtain ⟨rfl, rfl, rfl⟩ := H
  go_enter Try.func31, Try.ntmps31
  try go_wp2_with (first | ((with_reducible refine gate_dst (N := 2) rfl ?_); refine box_event ?hg (N := 2) ?hd (cs := #[.int .i64 a0_0, .int .u64 a0_1]) (t := 24) ?hr ?_; (case hd => rfl); (case hg => rfl); (case hr => first | (go_simp; done) | (go_simp; rfl)); intro gb230 hg w29 hbox hb; have BK230 := Aside0.mk (hbox); have GW230 := kS HB hg; have GE230 := kS HB hg; replace HB := kB HB hb; clear hb hbox hg) | ((with_reducible refine gate_dst (N := 3) rfl ?_); refine box_event ?hg (N := 3) ?hd (cs := #[.int .i64 a1_0, .int .u64 a1_1]) (t := 24) ?hr ?_; (case hd => rfl); (case hg => rfl); (case hr => first | (go_simp; done) | (go_simp; rfl)); intro gb231 hg w30 hbox hb; have BK231 := Aside0.mk (hbox); have GW231 := kS HB hg; have GE231 := kS HB hg; have NB230_231 := kN BK230 hg; have NB231_230 := kM BK230 hg; replace BK230 := kb BK230 hb; replace HB := kB HB hb; clear hb hbox hg) | ((with_reducible refine gate_dst (N := 4) rfl ?_); refine box_event ?hg (N := 4) ?hd (cs := #[.int .i64 0, .int .u64 0]) (t := 24) ?hr ?_; (case hd => rfl); (case hg => rfl); (case hr => first | (go_simp; done) | (go_simp; rfl)); intro gb232 hg w31 hbox hb; have BK232 := Aside0.mk (hbox); have GW232 := kS HB hg; have GE232 := kS HB hg; have NB230_232 := kN BK230 hg; have NB232_230 := kM BK230 hg; have NB231_232 := kN BK231 hg; have NB232_231 := kM BK231 hg; replace BK230 := kb BK230 hb; replace BK231 := kb BK231 hb; replace HB := kB HB hb; clear hb hbox hg))
  replace BK230 := Aside0.mk (blk_drew BK230.out)
  replace BK231 := Aside0.mk (blk_drew BK231.out)
  replace BK232 := Aside0.mk (blk_drew BK232.out)
  replace HB := Aside0.mk (below_drew1 HB.out)
  refine start_ (n := 6) (S := fun w' => w'.cell? ⟨gb230, 0, none⟩ = some (.int .i64 a0_0) ∧ w'.cell? ⟨gb230, 1, none⟩ = some (.int .u64 a0_1) ∧ w'.cell? ⟨gb231, 0, none⟩ = some (.int .i64 a1_0) ∧ w'.cell? ⟨gb231, 1, none⟩ = some (.int .u64 a1_1)) (ds := []) #[O, O, O, O, O, O] (by kernel_rfl) rfl rfl ⟨kc BK230 0, kc BK230 1, kc BK231 0, kc BK231 1⟩ (fun hHeld => ?_)
  generalize w31.drew = w32 at BK230 BK231 BK232 HB hHeld ⊢
  refine take_ (i := 0) (N := some 7) (v := ?_) (a' := ?_) #[T, O, O, O, O, O] rfl rfl (by kernel_rfl) (fun _ _ _ h => h) (Or.inl ⟨by rfl, ?_⟩) hHeld ?_ ?_; rotate_left; focus (rintro w' ⟨s0, s1, s2, s3⟩; go_simp; with_reducible rfl)
  rotate_left; focus (simp only [Act.put, s1, s2, s3, i64_w, i32_w]; rfl)
  refine take_ (i := 1) (N := some 8) (v := ?_) (a' := ?_) #[T, T, O, O, O, O] rfl rfl (by kernel_rfl) (fun _ _ _ h => h) (Or.inl ⟨by rfl, ?_⟩) hHeld ?_ ?_; rotate_left; focus (rintro w' ⟨s0, s1, s2, s3⟩; go_simp; with_reducible rfl)
  rotate_left; focus (simp only [Act.put, s1, s2, s3, i64_w, i32_w]; rfl)
  refine join_ (σ := Nat) 1 #[T, T, T, T, T, O] (fun s_ => [(9, .agg #[.int .i64 t233, .int .u64 t234]), (10, .agg #[.int .i64 t235, .int .u64 t236]), (6, .pointer (some ⟨s_, 0, none⟩))]) (fun s_ w' => (w'.cell? ⟨gb230, 0, none⟩ = some (.int .i64 a0_0) ∧ w'.cell? ⟨gb230, 1, none⟩ = some (.int .u64 a0_1) ∧ w'.cell? ⟨gb231, 0, none⟩ = some (.int .i64 a1_0) ∧ w'.cell? ⟨gb231, 1, none⟩ = some (.int .u64 a1_1)) ∧ (w'.heap[gb230]? = some (.cells #[.int .i64 a0_0, .int .u64 a0_1] 24 (0, 0))) ∧ (w'.heap[gb231]? = some (.cells #[.int .i64 a1_0, .int .u64 a1_1] 24 (0, 0))) ∧ (w'.heap[gb232]? = some (.cells #[.int .i64 0, .int .u64 0] 24 (0, 0))) ∧ (w'.heap[s_]? = some (.cells #[.int .i64 0, .int .u64 0] 24 (0, 0))) ∧ (w.heap.size ≤ s_) ∧ (w.heap.size ≤ s_) ∧ (gb230 ≠ s_) ∧ (s_ ≠ gb230) ∧ (gb231 ≠ s_) ∧ (s_ ≠ gb231) ∧ (gb232 ≠ s_) ∧ (s_ ≠ gb232) ∧ (Below w.heap.size w w')) ?_ ?_
  rotate_left
  · intro hCont
    refine two_ (i := 2) (j := 4) (Ni := some 9) (Nj := some 6) #[T, T, T, O, O, O] #[T, T, O, O, T, O] rfl rfl rfl rfl (by kernel_rfl) (by decide) (by decide) (fun K hK => ?_) (fun K hK => ?_)
    · skip
      refine goes_ Try.func65 (by kernel_rfl) rfl #[.agg #[.int .i64 a1_0, .int .u64 a1_1]] (by rfl) rfl rfl (by (try simp only [List.map_toArray, List.map_cons, List.map_nil]); first | done | rfl | (simp only [List.length_drop, List.length_take]; rfl)) ?_
      with_reducible refine (wide_turn.calls a1_0 a1_1 t233 t234 _ A3.out).mono ?_
      rintro e w33 ⟨rfl, hb⟩
      refine ⟨_, rfl, ?_⟩
      replace BK230 := kb BK230 hb
      replace BK231 := kb BK231 hb
      replace BK232 := kb BK232 hb
      replace HB := kB HB hb
      (try clear hb); (try clear hb2); (try clear hk); (try clear hi)
      refine hK.out _ _ ⟨kc BK230 0, kc BK230 1, kc BK231 0, kc BK231 1⟩ (fun hHeld => ?_)
      clear hK K
      refine norm_ (a' := ?_) ?_ ?_; rotate_left; focus (show Act.put _ (some 9) _ = _; simp only [Act.put, s1, s2, s3, i64_w, i32_w]; rfl)
      refine two_ (i := 3) (j := 4) (Ni := some 10) (Nj := some 6) #[T, T, T, T, O, O] #[T, T, T, O, T, O] rfl rfl rfl rfl (by kernel_rfl) (by decide) (by decide) (fun K hK => ?_) (fun K hK => ?_)
      · skip
        refine goes_ Try.func55 (by kernel_rfl) rfl #[.agg #[.int .i64 a0_0, .int .u64 a0_1], .agg #[.int .i64 t233, .int .u64 t234]] (by rfl) rfl rfl (by (try simp only [List.map_toArray, List.map_cons, List.map_nil]); first | done | rfl | (simp only [List.length_drop, List.length_take]; rfl)) ?_
        with_reducible refine (wide_wrap.calls a0_0 a0_1 t233 t234 t235 t236 _ A4.out).mono ?_
        rintro e w34 ⟨rfl, hb⟩
        refine ⟨_, rfl, ?_⟩
        replace BK230 := kb BK230 hb
        replace BK231 := kb BK231 hb
        replace BK232 := kb BK232 hb
        replace HB := kB HB hb
        (try clear hb); (try clear hb2); (try clear hk); (try clear hi)
        refine hK.out _ _ ⟨kc BK230 0, kc BK230 1, kc BK231 0, kc BK231 1⟩ (fun hHeld => ?_)
        clear hK K
        refine norm_ (a' := ?_) ?_ ?_; rotate_left; focus (show Act.put _ (some 10) _ = _; simp only [Act.put, s1, s2, s3, i64_w, i32_w]; rfl)
        refine one_ (i := 4) (N := some 6) #[T, T, T, T, T, O] rfl rfl (by kernel_rfl) (by decide) (fun K hK => ?_)
        refine box_step ?hg (N := 6) ?hd (cs := #[.int .i64 0, .int .u64 0]) (t := 24) ?hr ?_; (case hd => rfl); (case hg => rfl); (case hr => first | (go_simp; done) | (go_simp; rfl))
        intro gb237 hg w35 hbox hb
        have BK237 := Aside0.mk (hbox)
        have GW237 := kS HB hg
        have GE237 := kS HB hg
        have NB230_237 := kN BK230 hg
        have NB237_230 := kM BK230 hg
        have NB231_237 := kN BK231 hg
        have NB237_231 := kM BK231 hg
        have NB232_237 := kN BK232 hg
        have NB237_232 := kM BK232 hg
        replace BK230 := kb BK230 hb
        replace BK231 := kb BK231 hb
        replace BK232 := kb BK232 hb
        replace HB := kB HB hb
        clear hb hbox hg
        refine hK.out _ _ ⟨kc BK230 0, kc BK230 1, kc BK231 0, kc BK231 1⟩ (fun hHeld => ?_)
        clear hK K
        refine norm_ (a' := ?_) ?_ ?_; rotate_left; focus (show Act.put _ (some 6) _ = _; simp only [Act.put, s1, s2, s3, i64_w, i32_w]; rfl)
        exact norm_ (by simp only [putAll, Act.put, s1, s2, s3]) (hCont (gb237) _ ⟨hHeld, (kx BK230), (kx BK231), (kx BK232), (kx BK237), GW237.out, GE237.out, NB230_237.out, NB237_230.out, NB231_237.out, NB237_231.out, NB232_237.out, NB237_232.out, (ky HB)⟩)
      · skip
        refine box_step ?hg (N := 6) ?hd (cs := #[.int .i64 0, .int .u64 0]) (t := 24) ?hr ?_; (case hd => rfl); (case hg => rfl); (case hr => first | (go_simp; done) | (go_simp; rfl))
        intro gb237 hg w34 hbox hb
        have BK237 := Aside0.mk (hbox)
        have GW237 := kS HB hg
        have GE237 := kS HB hg
        have NB230_237 := kN BK230 hg
        have NB237_230 := kM BK230 hg
        have NB231_237 := kN BK231 hg
        have NB237_231 := kM BK231 hg
        have NB232_237 := kN BK232 hg
        have NB237_232 := kM BK232 hg
        replace BK230 := kb BK230 hb
        replace BK231 := kb BK231 hb
        replace BK232 := kb BK232 hb
        replace HB := kB HB hb
        clear hb hbox hg
        refine hK.out _ _ ⟨kc BK230 0, kc BK230 1, kc BK231 0, kc BK231 1⟩ (fun hHeld => ?_)
        clear hK K
        refine norm_ (a' := ?_) ?_ ?_; rotate_left; focus (show Act.put _ (some 6) _ = _; simp only [Act.put, s1, s2, s3, i64_w, i32_w]; rfl)
        refine one_ (i := 3) (N := some 10) #[T, T, T, T, T, O] rfl rfl (by kernel_rfl) (by decide) (fun K hK => ?_)
        refine goes_ Try.func55 (by kernel_rfl) rfl #[.agg #[.int .i64 a0_0, .int .u64 a0_1], .agg #[.int .i64 t233, .int .u64 t234]] (by rfl) rfl rfl (by (try simp only [List.map_toArray, List.map_cons, List.map_nil]); first | done | rfl | (simp only [List.length_drop, List.length_take]; rfl)) ?_
        with_reducible refine (wide_wrap.calls a0_0 a0_1 t233 t234 t235 t236 _ A4.out).mono ?_
        rintro e w35 ⟨rfl, hb⟩
        refine ⟨_, rfl, ?_⟩
        replace BK230 := kb BK230 hb
        replace BK231 := kb BK231 hb
        replace BK232 := kb BK232 hb
        replace BK237 := kb BK237 hb
        replace HB := kB HB hb
        (try clear hb); (try clear hb2); (try clear hk); (try clear hi)
        refine hK.out _ _ ⟨kc BK230 0, kc BK230 1, kc BK231 0, kc BK231 1⟩ (fun hHeld => ?_)
        clear hK K
        refine norm_ (a' := ?_) ?_ ?_; rotate_left; focus (show Act.put _ (some 10) _ = _; simp only [Act.put, s1, s2, s3, i64_w, i32_w]; rfl)
        exact norm_ (by simp only [putAll, Act.put, s1, s2, s3]) (hCont (gb237) _ ⟨hHeld, (kx BK230), (kx BK231), (kx BK232), (kx BK237), GW237.out, GE237.out, NB230_237.out, NB237_230.out, NB231_237.out, NB237_231.out, NB232_237.out, NB237_232.out, (ky HB)⟩)
    · skip
      refine box_step ?hg (N := 6) ?hd (cs := #[.int .i64 0, .int .u64 0]) (t := 24) ?hr ?_; (case hd => rfl); (case hg => rfl); (case hr => first | (go_simp; done) | (go_simp; rfl))
      intro gb237 hg w33 hbox hb
      have BK237 := Aside0.mk (hbox)
      have GW237 := kS HB hg
      have GE237 := kS HB hg
      have NB230_237 := kN BK230 hg
      have NB237_230 := kM BK230 hg
      have NB231_237 := kN BK231 hg
      have NB237_231 := kM BK231 hg
      have NB232_237 := kN BK232 hg
      have NB237_232 := kM BK232 hg
      replace BK230 := kb BK230 hb
      replace BK231 := kb BK231 hb
      replace BK232 := kb BK232 hb
      replace HB := kB HB hb
      clear hb hbox hg
      refine hK.out _ _ ⟨kc BK230 0, kc BK230 1, kc BK231 0, kc BK231 1⟩ (fun hHeld => ?_)
      clear hK K
      refine norm_ (a' := ?_) ?_ ?_; rotate_left; focus (show Act.put _ (some 6) _ = _; simp only [Act.put, s1, s2, s3, i64_w, i32_w]; rfl)
      refine one_ (i := 2) (N := some 9) #[T, T, T, O, T, O] rfl rfl (by kernel_rfl) (by decide) (fun K hK => ?_)
      refine goes_ Try.func65 (by kernel_rfl) rfl #[.agg #[.int .i64 a1_0, .int .u64 a1_1]] (by rfl) rfl rfl (by (try simp only [List.map_toArray, List.map_cons, List.map_nil]); first | done | rfl | (simp only [List.length_drop, List.length_take]; rfl)) ?_
      with_reducible refine (wide_turn.calls a1_0 a1_1 t233 t234 _ A3.out).mono ?_
      rintro e w34 ⟨rfl, hb⟩
      refine ⟨_, rfl, ?_⟩
      replace BK230 := kb BK230 hb
      replace BK231 := kb BK231 hb
      replace BK232 := kb BK232 hb
      replace BK237 := kb BK237 hb
      replace HB := kB HB hb
      (try clear hb); (try clear hb2); (try clear hk); (try clear hi)
      refine hK.out _ _ ⟨kc BK230 0, kc BK230 1, kc BK231 0, kc BK231 1⟩ (fun hHeld => ?_)
      clear hK K
      refine norm_ (a' := ?_) ?_ ?_; rotate_left; focus (show Act.put _ (some 9) _ = _; simp only [Act.put, s1, s2, s3, i64_w, i32_w]; rfl)
      refine one_ (i := 3) (N := some 10) #[T, T, T, T, T, O] rfl rfl (by kernel_rfl) (by decide) (fun K hK => ?_)
      refine goes_ Try.func55 (by kernel_rfl) rfl #[.agg #[.int .i64 a0_0, .int .u64 a0_1], .agg #[.int .i64 t233, .int .u64 t234]] (by rfl) rfl rfl (by (try simp only [List.map_toArray, List.map_cons, List.map_nil]); first | done | rfl | (simp only [List.length_drop, List.length_take]; rfl)) ?_
      with_reducible refine (wide_wrap.calls a0_0 a0_1 t233 t234 t235 t236 _ A4.out).mono ?_
      rintro e w35 ⟨rfl, hb⟩
      refine ⟨_, rfl, ?_⟩
      replace BK230 := kb BK230 hb
      replace BK231 := kb BK231 hb
      replace BK232 := kb BK232 hb
      replace BK237 := kb BK237 hb
      replace HB := kB HB hb
      (try clear hb); (try clear hb2); (try clear hk); (try clear hi)
      refine hK.out _ _ ⟨kc BK230 0, kc BK230 1, kc BK231 0, kc BK231 1⟩ (fun hHeld => ?_)
      clear hK K
      refine norm_ (a' := ?_) ?_ ?_; rotate_left; focus (show Act.put _ (some 10) _ = _; simp only [Act.put, s1, s2, s3, i64_w, i32_w]; rfl)
      exact norm_ (by simp only [putAll, Act.put, s1, s2, s3]) (hCont (gb237) _ ⟨hHeld, (kx BK230), (kx BK231), (kx BK232), (kx BK237), GW237.out, GE237.out, NB230_237.out, NB237_230.out, NB231_237.out, NB237_231.out, NB232_237.out, NB237_232.out, (ky HB)⟩)
  rintro gb237 w36 ⟨hS_, h0_, h1_, h2_, h3_, h4_, h5_, h6_, h7_, h8_, h9_, h10_, h11_, h12_⟩
  clear BK230 BK231 BK232 HB
  have BK230 := A0 h0_; have BK231 := A0 h1_; have BK232 := A0 h2_; have BK237 := A0 h3_; have GW237 := A0 h4_; have GE237 := A0 h5_; have NB230_237 := A0 h6_; have NB237_230 := A0 h7_; have NB231_237 := A0 h8_; have NB237_231 := A0 h9_; have NB232_237 := A0 h10_; have NB237_232 := A0 h11_; have HB := A0 h12_
  clear h0_ h1_ h2_ h3_ h4_ h5_ h6_ h7_ h8_ h9_ h10_ h11_ h12_
  have hHeld := hS_
  refine norm_ (a' := ?_) ?_ ?_; rotate_left; focus (simp only [putAll, Act.put, s1, s2, s3]; rfl)
  refine one_ (i := 5) (N := none) #[T, T, T, T, T, T] rfl rfl (by kernel_rfl) (by decide) (fun K hK => ?_)
  have hs37 : w36.cell? ⟨gb237, 0, none⟩ = some (.int .i64 0) := kc BK237 0
  have hfs37 := blk_frozen BK237.out 0
  have hns37_0 := NB230_237.out; have hns37_1 := NB231_237.out; have hns37_2 := NB232_237.out; have hms37_0 := NB237_230.out; have hms37_1 := NB237_231.out; have hms37_2 := NB237_232.out
  have hs38 : w36.cell? ⟨gb237, 1, none⟩ = some (.int .u64 0) := kc BK237 1
  have hfs38 := blk_frozen BK237.out 1
  have hns38_0 := NB230_237.out; have hns38_1 := NB231_237.out; have hns38_2 := NB232_237.out; have hms38_0 := NB237_230.out; have hms38_1 := NB237_231.out; have hms38_2 := NB237_232.out
  refine skip_ (w1 := ?_) (by rfl) rfl ?_ ?_
  rotate_left
  · go_simp
    rfl
  refine hK.out _ _ ⟨((cell_far (p := ⟨gb237, _, none⟩) NB230_237.out _).trans (((cell_far (p := ⟨gb237, _, none⟩) NB230_237.out _).trans (hHeld.1)))), ((cell_far (p := ⟨gb237, _, none⟩) NB230_237.out _).trans (((cell_far (p := ⟨gb237, _, none⟩) NB230_237.out _).trans (hHeld.2.1)))), ((cell_far (p := ⟨gb237, _, none⟩) NB231_237.out _).trans (((cell_far (p := ⟨gb237, _, none⟩) NB231_237.out _).trans (hHeld.2.2.1)))), ((cell_far (p := ⟨gb237, _, none⟩) NB231_237.out _).trans (((cell_far (p := ⟨gb237, _, none⟩) NB231_237.out _).trans (hHeld.2.2.2))))⟩ (fun hHeld => ?_)
  clear hK K
  refine done_ (by kernel_rfl) ?_
  have hnb39 := NB237_230.out; have hnc39 := NB230_237.out; have hnb40 := NB237_231.out; have hnc40 := NB231_237.out; have hnb41 := NB237_232.out; have hnc41 := NB232_237.out
  have hcz42_0 : w36.cell? ⟨gb237, 0, none⟩ = some (.int .i64 0) := kc BK237 0
  have hcz42_1 : w36.cell? ⟨gb237, 1, none⟩ = some (.int .u64 0) := kc BK237 1
  have hfz42_0 := blk_frozen BK237.out 0
  have hfz42_1 := blk_frozen BK237.out 1
  have hnb43 := NB230_231.out; have hnc43 := NB231_230.out; have hnb44 := NB230_232.out; have hnc44 := NB232_230.out
  have hcz45_0 : w36.cell? ⟨gb230, 0, none⟩ = some (.int .i64 a0_0) := kc BK230 0
  have hcz45_1 : w36.cell? ⟨gb230, 1, none⟩ = some (.int .u64 a0_1) := kc BK230 1
  have hfz45_0 := blk_frozen BK230.out 0
  have hfz45_1 := blk_frozen BK230.out 1
  have hnb46 := NB231_232.out; have hnc46 := NB232_231.out
  have hcz47_0 : w36.cell? ⟨gb231, 0, none⟩ = some (.int .i64 a1_0) := kc BK231 0
  have hcz47_1 : w36.cell? ⟨gb231, 1, none⟩ = some (.int .u64 a1_1) := kc BK231 1
  have hfz47_0 := blk_frozen BK231.out 0
  have hfz47_1 := blk_frozen BK231.out 1
  try go_wp2_with (first | ((with_reducible refine gate_callee (f := 56) rfl ?_); refine goesL_ (some 28) rfl rfl Try.func56 (by kernel_rfl) rfl #[.agg #[.int .i64 t235, .int .u64 t236], .bool ((decide (a0_0 < 0)) == (decide (t235 < 0)))] rfl (by (try simp only [List.map_toArray, List.map_cons, List.map_nil]); first | done | rfl | (simp only [List.length_drop, List.length_take]; rfl)) ?_; (with_reducible refine (wide_told.calls t235 t236 ((decide (a0_0 < 0)) == (decide (t235 < 0))) t241 t242 t243 _ A28.out).mono ?_); rintro e w48 ⟨rfl, hb⟩; refine ⟨_, rfl, ?_⟩; have n0_ := kb BK230 hb; have n1_ := kb BK231 hb; have n2_ := kb BK232 hb; have n3_ := Aside0.mk (blk_below (g := gb237) (o := .cells #[.int .i64 t235, .int .u64 t236] 24 (0, 0)) (by (with_reducible repeat (first | refine blk_drewN ?_ _ | refine blk_drew ?_ | refine blk_alloc ?_ _)); refine blk_put (cs := #[.int .i64 t235, .int .u64 0]) ?_ 1 _ rfl; (with_reducible repeat (first | refine blk_drewN ?_ _ | refine blk_drew ?_ | refine blk_alloc ?_ _)); refine blk_put (cs := #[.int .i64 0, .int .u64 0]) ?_ 0 _ rfl; (with_reducible repeat (first | refine blk_drewN ?_ _ | refine blk_drew ?_ | refine blk_alloc ?_ _)); exact BK237.out) hb); have n4_ := kB HB hb; clear BK230; clear BK231; clear BK232; clear BK237; clear HB; have BK230 := n0_; have BK231 := n1_; have BK232 := n2_; have BK237 := n3_; have HB := n4_; clear n0_ n1_ n2_ n3_ n4_; (try clear hb); (try clear hb2); (try clear hk); (try clear hi); have hcz49_0 : w48.cell? ⟨gb232, 0, none⟩ = some (.int .i64 0) := kc BK232 0; have hcz49_1 : w48.cell? ⟨gb232, 1, none⟩ = some (.int .u64 0) := kc BK232 1; have hfz49_0 := blk_frozen BK232.out 0; have hfz49_1 := blk_frozen BK232.out 1))
  refine bodyPost_ret (results_ct rfl _ _ gb232 24 #[.int .i64 t241, .int .u64 t242] (0, 0) _ rfl (by (with_reducible repeat (first | refine blk_drewN ?_ _ | refine blk_drew ?_ | refine blk_alloc ?_ _)); refine blk_put (cs := #[.int .i64 t241, .int .u64 0]) ?_ 1 _ rfl; (with_reducible repeat (first | refine blk_drewN ?_ _ | refine blk_drew ?_ | refine blk_alloc ?_ _)); refine blk_put (cs := #[.int .i64 0, .int .u64 0]) ?_ 0 _ rfl; (with_reducible repeat (first | refine blk_drewN ?_ _ | refine blk_drew ?_ | refine blk_alloc ?_ _)); exact BK232.out) Try.underlying24 rfl (by kernel_rfl)) rfl ?_
  exact ⟨by first | rfl | (simp [errW_none, errW_some] <;> rfl) | (simp [*, errW_none, errW_some] <;> rfl), ky HB⟩

/-! ### frac_up: function 57 -/
def frac_up.f (k : Nat) (a0_0 : Int) (a0_1 : Int) (a1_0 : Int) (a1_1 : Int) (a2_0 : Int) (a2_1 : Int) : Option (Int × Int) := (wide_Sub.f a2_0 a2_1 a1_0 a1_1).bind fun bt248 => ((wide_Cmp.f k a1_0 a1_1 bt248.1 bt248.2.1).bind fun t252 => (if t252 ≥ 0 then ((wide_Of.f 1).bind fun bt253 => ((wide_Add.f a0_0 a0_1 bt253.1 bt253.2).bind fun bt255 => (some (bt255.1, bt255.2.1)))) else (some (a0_0, a0_1))))
theorem frac_up.mono : ∀ a0 a1 a2 a3 a4 a5 k, LeO (frac_up.f k a0 a1 a2 a3 a4 a5) (frac_up.f (k + 1) a0 a1 a2 a3 a4 a5) := by
  intro a0 a1 a2 a3 a4 a5 k
  unfold frac_up.f
  repeat' first
      | (with_reducible exact wide_Cmp.mono _ _ _ _ _)
      | (with_reducible exact LeO.refl _)
      | (with_reducible exact LeO.none _)
      | (with_reducible refine LeO.ite ?_ ?_)
      | (with_reducible refine LeO.bind ?_ (fun _ => ?_))
      | exact wide_Cmp.mono _ _ _ _ _
      | exact LeO.none _
      | refine LeO.ite ?_ ?_
      | refine LeO.bind ?_ (fun _ => ?_)
set_option maxHeartbeats 8000000 in
set_option maxRecDepth 100000 in
theorem frac_up.calls (k : Nat) (a0_0 : Int) (a0_1 : Int) (a1_0 : Int) (a1_1 : Int) (a2_0 : Int) (a2_1 : Int) (r1 : Int) (r2 : Int) (w : World) (h : frac_up.f k a0_0 a0_1 a1_0 a1_1 a2_0 a2_1 = some (r1, r2)) :
    Calls Try.prog 57 #[.agg #[.int .i64 a0_0, .int .u64 a0_1], .agg #[.int .i64 a1_0, .int .u64 a1_1], .agg #[.int .i64 a2_0, .int .u64 a2_1]] w fun e w' => e = .returned (.agg #[.int .i64 r1, .int .u64 r2]) ∧ Below w.heap.size w w' := by
  have hu24 := Try.underlying24
  have HB := Aside0.mk (Below.refl w.heap.size w)
  have H : ((wide_Sub.f a2_0 a2_1 a1_0 a1_1).bind fun bt248 => ((wide_Cmp.f k a1_0 a1_1 bt248.1 bt248.2.1).bind fun t252 => (if t252 ≥ 0 then ((wide_Of.f 1).bind fun bt253 => ((wide_Add.f a0_0 a0_1 bt253.1 bt253.2).bind fun bt255 => (some (bt255.1, bt255.2.1)))) else (some (a0_0, a0_1))))) = some (r1, r2) := h
  clear h
  replace H := Option.bind_eq_some_iff.mp H
  obtain ⟨⟨t248, t249, t250⟩, A40, H⟩ := H
  replace H : ((wide_Cmp.f k a1_0 a1_1 t248 t249).bind fun t252 => (if t252 ≥ 0 then ((wide_Of.f 1).bind fun bt253 => ((wide_Add.f a0_0 a0_1 bt253.1 bt253.2).bind fun bt255 => (some (bt255.1, bt255.2.1)))) else (some (a0_0, a0_1)))) = some (r1, r2) := H
  have A4 := Aside0.mk A40
  clear A40
  replace H := Option.bind_eq_some_iff.mp H
  obtain ⟨t252, A50, H⟩ := H
  replace H : (if t252 ≥ 0 then ((wide_Of.f 1).bind fun bt253 => ((wide_Add.f a0_0 a0_1 bt253.1 bt253.2).bind fun bt255 => (some (bt255.1, bt255.2.1)))) else (some (a0_0, a0_1))) = some (r1, r2) := H
  have A5 := Aside0.mk A50
  clear A50
  by_cases c6 : t252 ≥ 0
  rotate_left
  · rw [if_neg c6] at H
    have c6b0 : decide (0 ≤ t252) = false := decide_eq_false c6
    clear c6
    simp only [Option.some.injEq, Prod.mk.injEq] at H
    obtain ⟨rfl, rfl⟩ := H
    go_enter Try.func57, Try.ntmps57
    go_wp2_with (first | ((with_reducible refine gate_dst (N := 3) rfl ?_); refine box_event ?hg (N := 3) ?hd (cs := #[.int .i64 a0_0, .int .u64 a0_1]) (t := 24) ?hr ?_; (case hd => rfl); (case hg => rfl); (case hr => first | (go_simp; done) | (go_simp; rfl)); intro gb244 hg w37 hbox hb; have BK244 := Aside0.mk (hbox); have GW244 := kS HB hg; have GE244 := kS HB hg; replace HB := kB HB hb; clear hb hbox hg) | ((with_reducible refine gate_dst (N := 4) rfl ?_); refine box_event ?hg (N := 4) ?hd (cs := #[.int .i64 a1_0, .int .u64 a1_1]) (t := 24) ?hr ?_; (case hd => rfl); (case hg => rfl); (case hr => first | (go_simp; done) | (go_simp; rfl)); intro gb245 hg w38 hbox hb; have BK245 := Aside0.mk (hbox); have GW245 := kS HB hg; have GE245 := kS HB hg; have NB244_245 := kN BK244 hg; have NB245_244 := kM BK244 hg; replace BK244 := kb BK244 hb; replace HB := kB HB hb; clear hb hbox hg) | ((with_reducible refine gate_dst (N := 5) rfl ?_); refine box_event ?hg (N := 5) ?hd (cs := #[.int .i64 a2_0, .int .u64 a2_1]) (t := 24) ?hr ?_; (case hd => rfl); (case hg => rfl); (case hr => first | (go_simp; done) | (go_simp; rfl)); intro gb246 hg w39 hbox hb; have BK246 := Aside0.mk (hbox); have GW246 := kS HB hg; have GE246 := kS HB hg; have NB244_246 := kN BK244 hg; have NB246_244 := kM BK244 hg; have NB245_246 := kN BK245 hg; have NB246_245 := kM BK245 hg; replace BK244 := kb BK244 hb; replace BK245 := kb BK245 hb; replace HB := kB HB hb; clear hb hbox hg) | ((with_reducible refine gate_dst (N := 6) rfl ?_); refine box_event ?hg (N := 6) ?hd (cs := #[.int .i64 0, .int .u64 0]) (t := 24) ?hr ?_; (case hd => rfl); (case hg => rfl); (case hr => first | (go_simp; done) | (go_simp; rfl)); intro gb247 hg w40 hbox hb; have BK247 := Aside0.mk (hbox); have GW247 := kS HB hg; have GE247 := kS HB hg; have NB244_247 := kN BK244 hg; have NB247_244 := kM BK244 hg; have NB245_247 := kN BK245 hg; have NB247_245 := kM BK245 hg; have NB246_247 := kN BK246 hg; have NB247_246 := kM BK246 hg; replace BK244 := kb BK244 hb; replace BK245 := kb BK245 hb; replace BK246 := kb BK246 hb; replace HB := kB HB hb; clear hb hbox hg; have hnb41 := NB246_244.out; have hnc41 := NB244_246.out; have hnb42 := NB246_245.out; have hnc42 := NB245_246.out; have hnb43 := NB246_247.out; have hnc43 := NB247_246.out; have hcz44_0 : w40.cell? ⟨gb246, 0, none⟩ = some (.int .i64 a2_0) := kc BK246 0; have hcz44_1 : w40.cell? ⟨gb246, 1, none⟩ = some (.int .u64 a2_1) := kc BK246 1; have hfz44_0 := blk_frozen BK246.out 0; have hfz44_1 := blk_frozen BK246.out 1; have hnb45 := NB245_244.out; have hnc45 := NB244_245.out; have hnb46 := NB245_247.out; have hnc46 := NB247_245.out; have hcz47_0 : w40.cell? ⟨gb245, 0, none⟩ = some (.int .i64 a1_0) := kc BK245 0; have hcz47_1 : w40.cell? ⟨gb245, 1, none⟩ = some (.int .u64 a1_1) := kc BK245 1; have hfz47_0 := blk_frozen BK245.out 0; have hfz47_1 := blk_frozen BK245.out 1) | ((with_reducible refine gate_callee (f := 31) rfl ?_); refine goesL_ (some 12) rfl rfl Try.func31 (by kernel_rfl) rfl #[.agg #[.int .i64 a2_0, .int .u64 a2_1], .agg #[.int .i64 a1_0, .int .u64 a1_1]] rfl (by (try simp only [List.map_toArray, List.map_cons, List.map_nil]); first | done | rfl | (simp only [List.length_drop, List.length_take]; rfl)) ?_; (with_reducible refine (wide_Sub.calls a2_0 a2_1 a1_0 a1_1 t248 t249 t250 _ A4.out).mono ?_); rintro e w48 ⟨rfl, hb⟩; refine ⟨_, rfl, ?_⟩; replace BK244 := kb BK244 hb; replace BK245 := kb BK245 hb; replace BK246 := kb BK246 hb; replace BK247 := kb BK247 hb; replace HB := kB HB hb; (try clear hb); (try clear hb2); (try clear hk); (try clear hi)) | ((with_reducible refine gate_dst (N := 7) rfl ?_); refine box_event ?hg (N := 7) ?hd (cs := #[.int .i64 0, .int .u64 0]) (t := 24) ?hr ?_; (case hd => rfl); (case hg => rfl); (case hr => first | (go_simp; done) | (go_simp; rfl)); intro gb251 hg w49 hbox hb; have BK251 := Aside0.mk (hbox); have GW251 := kS HB hg; have GE251 := kS HB hg; have NB244_251 := kN BK244 hg; have NB251_244 := kM BK244 hg; have NB245_251 := kN BK245 hg; have NB251_245 := kM BK245 hg; have NB246_251 := kN BK246 hg; have NB251_246 := kM BK246 hg; have NB247_251 := kN BK247 hg; have NB251_247 := kM BK247 hg; replace BK244 := kb BK244 hb; replace BK245 := kb BK245 hb; replace BK246 := kb BK246 hb; replace BK247 := kb BK247 hb; replace HB := kB HB hb; clear hb hbox hg; have hnb50 := NB251_244.out; have hnc50 := NB244_251.out; have hnb51 := NB251_245.out; have hnc51 := NB245_251.out; have hnb52 := NB251_246.out; have hnc52 := NB246_251.out; have hnb53 := NB251_247.out; have hnc53 := NB247_251.out; have hcz54_0 : w49.cell? ⟨gb251, 0, none⟩ = some (.int .i64 0) := kc BK251 0; have hcz54_1 : w49.cell? ⟨gb251, 1, none⟩ = some (.int .u64 0) := kc BK251 1; have hfz54_0 := blk_frozen BK251.out 0; have hfz54_1 := blk_frozen BK251.out 1; have hcz55_0 : w49.cell? ⟨gb245, 0, none⟩ = some (.int .i64 a1_0) := kc BK245 0; have hcz55_1 : w49.cell? ⟨gb245, 1, none⟩ = some (.int .u64 a1_1) := kc BK245 1; have hfz55_0 := blk_frozen BK245.out 0; have hfz55_1 := blk_frozen BK245.out 1) | ((with_reducible refine gate_callee (f := 29) rfl ?_); refine goesL_ (some 17) rfl rfl Try.func29 (by kernel_rfl) rfl #[.agg #[.int .i64 a1_0, .int .u64 a1_1], .agg #[.int .i64 t248, .int .u64 t249]] rfl (by (try simp only [List.map_toArray, List.map_cons, List.map_nil]); first | done | rfl | (simp only [List.length_drop, List.length_take]; rfl)) ?_; (with_reducible refine (wide_Cmp.calls k a1_0 a1_1 t248 t249 t252 _ A5.out).mono ?_); rintro e w56 ⟨rfl, hb⟩; refine ⟨_, rfl, ?_⟩; have n0_ := kb BK244 hb; have n1_ := kb BK245 hb; have n2_ := kb BK246 hb; have n3_ := kb BK247 hb; have n4_ := Aside0.mk (blk_below (g := gb251) (o := .cells #[.int .i64 t248, .int .u64 t249] 24 (0, 0)) (by (with_reducible repeat (first | refine blk_drewN ?_ _ | refine blk_drew ?_ | refine blk_alloc ?_ _)); refine blk_put (cs := #[.int .i64 t248, .int .u64 0]) ?_ 1 _ rfl; (with_reducible repeat (first | refine blk_drewN ?_ _ | refine blk_drew ?_ | refine blk_alloc ?_ _)); refine blk_put (cs := #[.int .i64 0, .int .u64 0]) ?_ 0 _ rfl; (with_reducible repeat (first | refine blk_drewN ?_ _ | refine blk_drew ?_ | refine blk_alloc ?_ _)); exact BK251.out) hb); have n5_ := kB HB hb; clear BK244; clear BK245; clear BK246; clear BK247; clear BK251; clear HB; have BK244 := n0_; have BK245 := n1_; have BK246 := n2_; have BK247 := n3_; have BK251 := n4_; have HB := n5_; clear n0_ n1_ n2_ n3_ n4_ n5_; (try clear hb); (try clear hb2); (try clear hk); (try clear hi); have hnb57 := NB244_247.out; have hnc57 := NB247_244.out; have hcz58_0 : w56.cell? ⟨gb244, 0, none⟩ = some (.int .i64 a0_0) := kc BK244 0; have hcz58_1 : w56.cell? ⟨gb244, 1, none⟩ = some (.int .u64 a0_1) := kc BK244 1; have hfz58_0 := blk_frozen BK244.out 0; have hfz58_1 := blk_frozen BK244.out 1; have hcz59_0 : w56.cell? ⟨gb247, 0, none⟩ = some (.int .i64 0) := kc BK247 0; have hcz59_1 : w56.cell? ⟨gb247, 1, none⟩ = some (.int .u64 0) := kc BK247 1; have hfz59_0 := blk_frozen BK247.out 0; have hfz59_1 := blk_frozen BK247.out 1))
    refine bodyPost_ret (results_cell_row rfl _ _ gb247 24 #[.int .i64 a0_0, .int .u64 a0_1] (0, 0) _ rfl (by (with_reducible repeat (first | refine blk_drewN ?_ _ | refine blk_drew ?_ | refine blk_alloc ?_ _)); refine blk_put (cs := #[.int .i64 a0_0, .int .u64 0]) ?_ 1 _ rfl; (with_reducible repeat (first | refine blk_drewN ?_ _ | refine blk_drew ?_ | refine blk_alloc ?_ _)); refine blk_put (cs := #[.int .i64 0, .int .u64 0]) ?_ 0 _ rfl; (with_reducible repeat (first | refine blk_drewN ?_ _ | refine blk_drew ?_ | refine blk_alloc ?_ _)); exact BK247.out) Try.underlying24 rfl (by kernel_rfl)) rfl ?_
    exact ⟨by first | rfl | (simp [errW_none, errW_some] <;> rfl) | (simp [*, errW_none, errW_some] <;> rfl), ky HB⟩

  rw [if_pos c6] at H
  have c6b0 : decide (0 ≤ t252) = true := decide_eq_true c6
  clear c6
  replace H := Option.bind_eq_some_iff.mp H
  obtain ⟨⟨t253, t254⟩, A70, H⟩ := H
  replace H : ((wide_Add.f a0_0 a0_1 t253 t254).bind fun bt255 => (some (bt255.1, bt255.2.1))) = some (r1, r2) := H
  have A7 := Aside0.mk A70
  clear A70
  replace H := Option.bind_eq_some_iff.mp H
  obtain ⟨⟨t255, t256, t257⟩, A80, H⟩ := H
  replace H : (some (t255, t256)) = some (r1, r2) := H
  have A8 := Aside0.mk A80
  clear A80
  simp only [Option.some.injEq, Prod.mk.injEq] at H
  obtain ⟨rfl, rfl⟩ := H
  go_enter Try.func57, Try.ntmps57
  try go_wp2_with (first | ((with_reducible refine gate_dst (N := 3) rfl ?_); refine box_event ?hg (N := 3) ?hd (cs := #[.int .i64 a0_0, .int .u64 a0_1]) (t := 24) ?hr ?_; (case hd => rfl); (case hg => rfl); (case hr => first | (go_simp; done) | (go_simp; rfl)); intro gb244 hg w9 hbox hb; have BK244 := Aside0.mk (hbox); have GW244 := kS HB hg; have GE244 := kS HB hg; replace HB := kB HB hb; clear hb hbox hg) | ((with_reducible refine gate_dst (N := 4) rfl ?_); refine box_event ?hg (N := 4) ?hd (cs := #[.int .i64 a1_0, .int .u64 a1_1]) (t := 24) ?hr ?_; (case hd => rfl); (case hg => rfl); (case hr => first | (go_simp; done) | (go_simp; rfl)); intro gb245 hg w10 hbox hb; have BK245 := Aside0.mk (hbox); have GW245 := kS HB hg; have GE245 := kS HB hg; have NB244_245 := kN BK244 hg; have NB245_244 := kM BK244 hg; replace BK244 := kb BK244 hb; replace HB := kB HB hb; clear hb hbox hg) | ((with_reducible refine gate_dst (N := 5) rfl ?_); refine box_event ?hg (N := 5) ?hd (cs := #[.int .i64 a2_0, .int .u64 a2_1]) (t := 24) ?hr ?_; (case hd => rfl); (case hg => rfl); (case hr => first | (go_simp; done) | (go_simp; rfl)); intro gb246 hg w11 hbox hb; have BK246 := Aside0.mk (hbox); have GW246 := kS HB hg; have GE246 := kS HB hg; have NB244_246 := kN BK244 hg; have NB246_244 := kM BK244 hg; have NB245_246 := kN BK245 hg; have NB246_245 := kM BK245 hg; replace BK244 := kb BK244 hb; replace BK245 := kb BK245 hb; replace HB := kB HB hb; clear hb hbox hg) | ((with_reducible refine gate_dst (N := 6) rfl ?_); refine box_event ?hg (N := 6) ?hd (cs := #[.int .i64 0, .int .u64 0]) (t := 24) ?hr ?_; (case hd => rfl); (case hg => rfl); (case hr => first | (go_simp; done) | (go_simp; rfl)); intro gb247 hg w12 hbox hb; have BK247 := Aside0.mk (hbox); have GW247 := kS HB hg; have GE247 := kS HB hg; have NB244_247 := kN BK244 hg; have NB247_244 := kM BK244 hg; have NB245_247 := kN BK245 hg; have NB247_245 := kM BK245 hg; have NB246_247 := kN BK246 hg; have NB247_246 := kM BK246 hg; replace BK244 := kb BK244 hb; replace BK245 := kb BK245 hb; replace BK246 := kb BK246 hb; replace HB := kB HB hb; clear hb hbox hg; have hnb13 := NB246_244.out; have hnc13 := NB244_246.out; have hnb14 := NB246_245.out; have hnc14 := NB245_246.out; have hnb15 := NB246_247.out; have hnc15 := NB247_246.out; have hcz16_0 : w12.cell? ⟨gb246, 0, none⟩ = some (.int .i64 a2_0) := kc BK246 0; have hcz16_1 : w12.cell? ⟨gb246, 1, none⟩ = some (.int .u64 a2_1) := kc BK246 1; have hfz16_0 := blk_frozen BK246.out 0; have hfz16_1 := blk_frozen BK246.out 1; have hnb17 := NB245_244.out; have hnc17 := NB244_245.out; have hnb18 := NB245_247.out; have hnc18 := NB247_245.out; have hcz19_0 : w12.cell? ⟨gb245, 0, none⟩ = some (.int .i64 a1_0) := kc BK245 0; have hcz19_1 : w12.cell? ⟨gb245, 1, none⟩ = some (.int .u64 a1_1) := kc BK245 1; have hfz19_0 := blk_frozen BK245.out 0; have hfz19_1 := blk_frozen BK245.out 1) | ((with_reducible refine gate_callee (f := 31) rfl ?_); refine goesL_ (some 12) rfl rfl Try.func31 (by kernel_rfl) rfl #[.agg #[.int .i64 a2_0, .int .u64 a2_1], .agg #[.int .i64 a1_0, .int .u64 a1_1]] rfl (by (try simp only [List.map_toArray, List.map_cons, List.map_nil]); first | done | rfl | (simp only [List.length_drop, List.length_take]; rfl)) ?_; (with_reducible refine (wide_Sub.calls a2_0 a2_1 a1_0 a1_1 t248 t249 t250 _ A4.out).mono ?_); rintro e w20 ⟨rfl, hb⟩; refine ⟨_, rfl, ?_⟩; replace BK244 := kb BK244 hb; replace BK245 := kb BK245 hb; replace BK246 := kb BK246 hb; replace BK247 := kb BK247 hb; replace HB := kB HB hb; (try clear hb); (try clear hb2); (try clear hk); (try clear hi)) | ((with_reducible refine gate_dst (N := 7) rfl ?_); refine box_event ?hg (N := 7) ?hd (cs := #[.int .i64 0, .int .u64 0]) (t := 24) ?hr ?_; (case hd => rfl); (case hg => rfl); (case hr => first | (go_simp; done) | (go_simp; rfl)); intro gb251 hg w21 hbox hb; have BK251 := Aside0.mk (hbox); have GW251 := kS HB hg; have GE251 := kS HB hg; have NB244_251 := kN BK244 hg; have NB251_244 := kM BK244 hg; have NB245_251 := kN BK245 hg; have NB251_245 := kM BK245 hg; have NB246_251 := kN BK246 hg; have NB251_246 := kM BK246 hg; have NB247_251 := kN BK247 hg; have NB251_247 := kM BK247 hg; replace BK244 := kb BK244 hb; replace BK245 := kb BK245 hb; replace BK246 := kb BK246 hb; replace BK247 := kb BK247 hb; replace HB := kB HB hb; clear hb hbox hg; have hnb22 := NB251_244.out; have hnc22 := NB244_251.out; have hnb23 := NB251_245.out; have hnc23 := NB245_251.out; have hnb24 := NB251_246.out; have hnc24 := NB246_251.out; have hnb25 := NB251_247.out; have hnc25 := NB247_251.out; have hcz26_0 : w21.cell? ⟨gb251, 0, none⟩ = some (.int .i64 0) := kc BK251 0; have hcz26_1 : w21.cell? ⟨gb251, 1, none⟩ = some (.int .u64 0) := kc BK251 1; have hfz26_0 := blk_frozen BK251.out 0; have hfz26_1 := blk_frozen BK251.out 1; have hcz27_0 : w21.cell? ⟨gb245, 0, none⟩ = some (.int .i64 a1_0) := kc BK245 0; have hcz27_1 : w21.cell? ⟨gb245, 1, none⟩ = some (.int .u64 a1_1) := kc BK245 1; have hfz27_0 := blk_frozen BK245.out 0; have hfz27_1 := blk_frozen BK245.out 1) | ((with_reducible refine gate_callee (f := 29) rfl ?_); refine goesL_ (some 17) rfl rfl Try.func29 (by kernel_rfl) rfl #[.agg #[.int .i64 a1_0, .int .u64 a1_1], .agg #[.int .i64 t248, .int .u64 t249]] rfl (by (try simp only [List.map_toArray, List.map_cons, List.map_nil]); first | done | rfl | (simp only [List.length_drop, List.length_take]; rfl)) ?_; (with_reducible refine (wide_Cmp.calls k a1_0 a1_1 t248 t249 t252 _ A5.out).mono ?_); rintro e w28 ⟨rfl, hb⟩; refine ⟨_, rfl, ?_⟩; have n0_ := kb BK244 hb; have n1_ := kb BK245 hb; have n2_ := kb BK246 hb; have n3_ := kb BK247 hb; have n4_ := Aside0.mk (blk_below (g := gb251) (o := .cells #[.int .i64 t248, .int .u64 t249] 24 (0, 0)) (by (with_reducible repeat (first | refine blk_drewN ?_ _ | refine blk_drew ?_ | refine blk_alloc ?_ _)); refine blk_put (cs := #[.int .i64 t248, .int .u64 0]) ?_ 1 _ rfl; (with_reducible repeat (first | refine blk_drewN ?_ _ | refine blk_drew ?_ | refine blk_alloc ?_ _)); refine blk_put (cs := #[.int .i64 0, .int .u64 0]) ?_ 0 _ rfl; (with_reducible repeat (first | refine blk_drewN ?_ _ | refine blk_drew ?_ | refine blk_alloc ?_ _)); exact BK251.out) hb); have n5_ := kB HB hb; clear BK244; clear BK245; clear BK246; clear BK247; clear BK251; clear HB; have BK244 := n0_; have BK245 := n1_; have BK246 := n2_; have BK247 := n3_; have BK251 := n4_; have HB := n5_; clear n0_ n1_ n2_ n3_ n4_ n5_; (try clear hb); (try clear hb2); (try clear hk); (try clear hi)))
  replace BK244 := Aside0.mk (blk_drew BK244.out)
  replace BK245 := Aside0.mk (blk_drew BK245.out)
  replace BK246 := Aside0.mk (blk_drew BK246.out)
  replace BK247 := Aside0.mk (blk_drew BK247.out)
  replace BK251 := Aside0.mk (blk_drew BK251.out)
  replace HB := Aside0.mk (below_drew1 HB.out)
  refine start_ (n := 7) (S := fun w' => w'.cell? ⟨gb244, 0, none⟩ = some (.int .i64 a0_0) ∧ w'.cell? ⟨gb244, 1, none⟩ = some (.int .u64 a0_1)) (ds := [6]) #[O, O, O, O, O, O, O] (by kernel_rfl) rfl rfl ⟨kc BK244 0, kc BK244 1⟩ (fun hHeld => ?_)
  generalize w28.drew = w29 at BK244 BK245 BK246 BK247 BK251 HB hHeld ⊢
  refine take_ (i := 0) (N := some 20) (v := ?_) (a' := ?_) #[T, O, O, O, O, O, O] rfl rfl (by kernel_rfl) (fun _ _ _ h => h) (Or.inl ⟨by rfl, ?_⟩) hHeld ?_ ?_; rotate_left; focus (rintro w' ⟨s0, s1⟩; go_simp; with_reducible rfl)
  rotate_left; focus (simp only [Act.put, s1, s2, s3, i64_w, i32_w]; rfl)
  refine one_ (i := 1) (N := some 21) #[T, T, O, O, O, O, O] rfl rfl (by kernel_rfl) (by decide) (fun K hK => ?_)
  refine goes_ Try.func24 (by kernel_rfl) rfl #[.int .i64 1] (by rfl) rfl rfl (by (try simp only [List.map_toArray, List.map_cons, List.map_nil]); first | done | rfl | (simp only [List.length_drop, List.length_take]; rfl)) ?_
  with_reducible refine (wide_Of.calls 1 t253 t254 _ A7.out).mono ?_
  rintro e w30 ⟨rfl, hb⟩
  refine ⟨_, rfl, ?_⟩
  replace BK244 := kb BK244 hb
  replace BK245 := kb BK245 hb
  replace BK246 := kb BK246 hb
  replace BK247 := kb BK247 hb
  replace BK251 := kb BK251 hb
  replace HB := kB HB hb
  (try clear hb); (try clear hb2); (try clear hk); (try clear hi)
  refine hK.out _ _ ⟨kc BK244 0, kc BK244 1⟩ (fun hHeld => ?_)
  clear hK K
  refine norm_ (a' := ?_) ?_ ?_; rotate_left; focus (show Act.put _ (some 21) _ = _; simp only [Act.put, s1, s2, s3, i64_w, i32_w]; rfl)
  refine one_ (i := 2) (N := some 22) #[T, T, T, O, O, O, O] rfl rfl (by kernel_rfl) (by decide) (fun K hK => ?_)
  refine goes_ Try.func25 (by kernel_rfl) rfl #[.agg #[.int .i64 a0_0, .int .u64 a0_1], .agg #[.int .i64 t253, .int .u64 t254]] (by rfl) rfl rfl (by (try simp only [List.map_toArray, List.map_cons, List.map_nil]); first | done | rfl | (simp only [List.length_drop, List.length_take]; rfl)) ?_
  with_reducible refine (wide_Add.calls a0_0 a0_1 t253 t254 t255 t256 t257 _ A8.out).mono ?_
  rintro e w31 ⟨rfl, hb⟩
  refine ⟨_, rfl, ?_⟩
  replace BK244 := kb BK244 hb
  replace BK245 := kb BK245 hb
  replace BK246 := kb BK246 hb
  replace BK247 := kb BK247 hb
  replace BK251 := kb BK251 hb
  replace HB := kB HB hb
  (try clear hb); (try clear hb2); (try clear hk); (try clear hi)
  refine hK.out _ _ ⟨kc BK244 0, kc BK244 1⟩ (fun hHeld => ?_)
  clear hK K
  refine norm_ (a' := ?_) ?_ ?_; rotate_left; focus (show Act.put _ (some 22) _ = _; simp only [Act.put, s1, s2, s3, i64_w, i32_w]; rfl)
  refine pure_ (i := 3) (N := some 19) (v := ?_) (a' := ?_) #[T, T, T, T, O, O, O] rfl rfl (by kernel_rfl) (fun _ _ _ h => h) (Or.inl ⟨by rfl, ?_⟩) ?_ ?_; rotate_left; focus (intro w'; go_simp; with_reducible rfl)
  rotate_left; focus (simp only [Act.put, s1, s2, s3, i64_w, i32_w]; rfl)
  refine pure_ (i := 4) (N := some 23) (v := ?_) (a' := ?_) #[T, T, T, T, T, O, O] rfl rfl (by kernel_rfl) (fun _ _ _ h => h) (Or.inl ⟨by rfl, ?_⟩) ?_ ?_; rotate_left; focus (intro w'; go_simp; with_reducible rfl)
  rotate_left; focus (simp only [Act.put, s1, s2, s3, i64_w, i32_w]; rfl)
  refine pure_ (i := 5) (N := some 24) (v := ?_) (a' := ?_) #[T, T, T, T, T, T, O] rfl rfl (by kernel_rfl) (fun _ _ _ h => h) (Or.inl ⟨by rfl, ?_⟩) ?_ ?_; rotate_left; focus (intro w'; go_simp; with_reducible rfl)
  rotate_left; focus (simp only [Act.put, s1, s2, s3, i64_w, i32_w]; rfl)
  refine last_ (i := 6) (N := none) #[T, T, T, T, T, T, T] rfl rfl (by kernel_rfl) (by decide) (fun K hK => ?_)
  have hs32 : w31.cell? ⟨gb244, 0, none⟩ = some (.int .i64 a0_0) := kc BK244 0
  have hfs32 := blk_frozen BK244.out 0
  have hns32_1 := NB245_244.out; have hns32_2 := NB246_244.out; have hns32_3 := NB247_244.out; have hns32_4 := NB251_244.out; have hms32_1 := NB244_245.out; have hms32_2 := NB244_246.out; have hms32_3 := NB244_247.out; have hms32_4 := NB244_251.out
  have hs33 : w31.cell? ⟨gb244, 1, none⟩ = some (.int .u64 a0_1) := kc BK244 1
  have hfs33 := blk_frozen BK244.out 1
  have hns33_1 := NB245_244.out; have hns33_2 := NB246_244.out; have hns33_3 := NB247_244.out; have hns33_4 := NB251_244.out; have hms33_1 := NB244_245.out; have hms33_2 := NB244_246.out; have hms33_3 := NB244_247.out; have hms33_4 := NB244_251.out
  refine skip_ (w1 := ?_) (by rfl) rfl ?_ ?_
  rotate_left
  · go_simp
    rfl
  refine hK.out _ _ ?_
  clear hK K
  refine done_ (by kernel_rfl) ?_
  have hnb34 := NB244_247.out; have hnc34 := NB247_244.out
  have hcz35_0 : w31.cell? ⟨gb244, 0, none⟩ = some (.int .i64 a0_0) := kc BK244 0
  have hcz35_1 : w31.cell? ⟨gb244, 1, none⟩ = some (.int .u64 a0_1) := kc BK244 1
  have hfz35_0 := blk_frozen BK244.out 0
  have hfz35_1 := blk_frozen BK244.out 1
  have hcz36_0 : w31.cell? ⟨gb247, 0, none⟩ = some (.int .i64 0) := kc BK247 0
  have hcz36_1 : w31.cell? ⟨gb247, 1, none⟩ = some (.int .u64 0) := kc BK247 1
  have hfz36_0 := blk_frozen BK247.out 0
  have hfz36_1 := blk_frozen BK247.out 1
  try go_wp2
  refine bodyPost_ret (results_cell_row rfl _ _ gb247 24 #[.int .i64 t255, .int .u64 t256] (0, 0) _ rfl (by (with_reducible repeat (first | refine blk_drewN ?_ _ | refine blk_drew ?_ | refine blk_alloc ?_ _)); refine blk_put (cs := #[.int .i64 t255, .int .u64 0]) ?_ 1 _ rfl; (with_reducible repeat (first | refine blk_drewN ?_ _ | refine blk_drew ?_ | refine blk_alloc ?_ _)); refine blk_put (cs := #[.int .i64 0, .int .u64 0]) ?_ 0 _ rfl; (with_reducible repeat (first | refine blk_drewN ?_ _ | refine blk_drew ?_ | refine blk_alloc ?_ _)); refine blk_far ?_ NB247_244.out _; (with_reducible repeat (first | refine blk_drewN ?_ _ | refine blk_drew ?_ | refine blk_alloc ?_ _)); refine blk_far ?_ NB247_244.out _; (with_reducible repeat (first | refine blk_drewN ?_ _ | refine blk_drew ?_ | refine blk_alloc ?_ _)); exact BK247.out) Try.underlying24 rfl (by kernel_rfl)) rfl ?_
  exact ⟨by first | rfl | (simp [errW_none, errW_some] <;> rfl) | (simp [*, errW_none, errW_some] <;> rfl), ky HB⟩
end Go.Proofs.Ytpjbniihdndlmab.Q
