-- Printed by wip/pp.sh (a session's own turning of the kit's print) for this seat.
import Derived.Test.YtpjbniihdndlmaaQx0
import Derived.Test.YtpjbniihdndlmaaQx1
import Derived.Test.YtpjbniihdndlmaaQx5
import Derived.Test.YtpjbniihdndlmaaQx6
namespace Go.Proofs.Ytpjbniihdndlmaa.Q
open Go.RowKit Go.Proofs.YtpjbniihdndlmaaW.PrintWords Go.Proofs.YtpjbniihdndlmaaW.PrintLast Go.Proofs.YtpjbniihdndlmaaW.PrintMore
open Go.Proofs.Ytpjbniihdndlmaa.H
attribute [local go_sem] hq_add64 hq_sub64 hq_not64 add64c_nn sub64c_nn sub64c_le
attribute [local go_sem] max2_int min2_int max_two min_two max_three min_three max_four min_four   -- for this text's walks alone
set_option linter.unusedVariables false
set_option linter.unusedSimpArgs false

attribute [local go_sem high] eqA24
/-! ### wide_Shl: function 22 -/
mutual
def wide_Shl.j0 : Nat → Int → Int → Int → Bool → Int → Int → Option (Int × Int × Bool)
  | 0, _, _, _, _, _, _ => none
  | k + 1, x1, x6, x7, x18, x159000, x159001 => if x18 = true then (if x1 ≥ 0 then ((wide_told.f 0 0 (x159000 == 0 && (x159001 == 0))).bind fun bt162 => (some (bt162.1, bt162.2.1, bt162.2.2))) else ((wide_told.f 0 0 false).bind fun bt165 => (some (bt165.1, bt165.2.1, bt165.2.2)))) else (wide_Shl.l0 k x6 x7 x1 0 x159000 x159001)
def wide_Shl.l0 : Nat → Int → Int → Int → Int → Int → Int → Option (Int × Int × Bool)
  | 0, _, _, _, _, _, _ => none
  | k + 1, x6, x7, x30, x31, x159000, x159001 => if x31 < x30 then (if (x6 / 9223372036854775808) = 0 then (wide_Shl.l0 k (Go.bits .or .u64 (IntKind.u64.wrap (x6 * 2)) (x7 / 9223372036854775808)) (IntKind.u64.wrap (x7 * 2)) x30 (wrap64 (x31 + 1)) x159000 x159001) else (some (0, 0, false))) else ((wide_signed.f x6 x7 (decide (x159000 < 0))).bind fun bt168 => (some (bt168.1, bt168.2.1, bt168.2.2)))
end
def wide_Shl.f (k : Nat) (a0_0 : Int) (a0_1 : Int) (a1 : Int) : Option (Int × Int × Bool) := (wide_size.f a0_0 a0_1).bind fun bt160 => (if a1 < 0 then (wide_Shl.j0 k a1 bt160.1 bt160.2 true a0_0 a0_1) else (wide_Shl.j0 k a1 bt160.1 bt160.2 (decide (a1 ≥ 128)) a0_0 a0_1))
theorem wide_Shl.mono_l : ∀ k, (∀ y0 y1 y2 y3 y4 y5, LeO (wide_Shl.j0 k y0 y1 y2 y3 y4 y5) (wide_Shl.j0 (k + 1) y0 y1 y2 y3 y4 y5)) ∧ (∀ y0 y1 y2 y3 y4 y5, LeO (wide_Shl.l0 k y0 y1 y2 y3 y4 y5) (wide_Shl.l0 (k + 1) y0 y1 y2 y3 y4 y5))
  | 0 => ⟨fun _ _ _ _ _ _ r h => by simp [wide_Shl.j0] at h, fun _ _ _ _ _ _ r h => by simp [wide_Shl.l0] at h⟩
  | k + 1 => by
    obtain ⟨ih0, ih1⟩ := wide_Shl.mono_l k
    refine ⟨?_, ?_⟩
    · intro y0 y1 y2 y3 y4 y5
      unfold wide_Shl.j0
      repeat' first
      | (with_reducible exact ih0 _ _ _ _ _ _)
      | (with_reducible exact ih1 _ _ _ _ _ _)
      | (with_reducible exact LeO.refl _)
      | (with_reducible exact LeO.none _)
      | (with_reducible refine LeO.ite ?_ ?_)
      | (with_reducible refine LeO.bind ?_ (fun _ => ?_))
      | exact ih0 _ _ _ _ _ _
      | exact ih1 _ _ _ _ _ _
      | exact LeO.none _
      | refine LeO.ite ?_ ?_
      | refine LeO.bind ?_ (fun _ => ?_)
    · intro y0 y1 y2 y3 y4 y5
      unfold wide_Shl.l0
      repeat' first
      | (with_reducible exact ih0 _ _ _ _ _ _)
      | (with_reducible exact ih1 _ _ _ _ _ _)
      | (with_reducible exact LeO.refl _)
      | (with_reducible exact LeO.none _)
      | (with_reducible refine LeO.ite ?_ ?_)
      | (with_reducible refine LeO.bind ?_ (fun _ => ?_))
      | exact ih0 _ _ _ _ _ _
      | exact ih1 _ _ _ _ _ _
      | exact LeO.none _
      | refine LeO.ite ?_ ?_
      | refine LeO.bind ?_ (fun _ => ?_)
theorem wide_Shl.mono : ∀ a0 a1 a2 k, LeO (wide_Shl.f k a0 a1 a2) (wide_Shl.f (k + 1) a0 a1 a2) := by
  intro a0 a1 a2 k
  obtain ⟨ih0, ih1⟩ := wide_Shl.mono_l k
  unfold wide_Shl.f
  repeat' first
      | (with_reducible exact ih0 _ _ _ _ _ _)
      | (with_reducible exact ih1 _ _ _ _ _ _)
      | (with_reducible exact LeO.refl _)
      | (with_reducible exact LeO.none _)
      | (with_reducible refine LeO.ite ?_ ?_)
      | (with_reducible refine LeO.bind ?_ (fun _ => ?_))
      | exact ih0 _ _ _ _ _ _
      | exact ih1 _ _ _ _ _ _
      | exact LeO.none _
      | refine LeO.ite ?_ ?_
      | refine LeO.bind ?_ (fun _ => ?_)
set_option maxHeartbeats 8000000 in
set_option maxRecDepth 100000 in
theorem wide_Shl.calls (k : Nat) (a0_0 : Int) (a0_1 : Int) (a1 : Int) (r1 : Int) (r2 : Int) (r3 : Bool) (w : World) (h : wide_Shl.f k a0_0 a0_1 a1 = some (r1, r2, r3)) :
    Calls Try.prog 22 #[.agg #[.int .i64 a0_0, .int .u64 a0_1], .int .i64 a1] w fun e w' => e = .returned (.tuple #[.agg #[.int .i64 r1, .int .u64 r2], .bool r3]) ∧ Below w.heap.size w w' := by
  have hu24 := Try.underlying24
  have HB := Aside0.mk (Below.refl w.heap.size w)
  have H : ((wide_size.f a0_0 a0_1).bind fun bt160 => (if a1 < 0 then (wide_Shl.j0 k a1 bt160.1 bt160.2 true a0_0 a0_1) else (wide_Shl.j0 k a1 bt160.1 bt160.2 (decide (a1 ≥ 128)) a0_0 a0_1))) = some (r1, r2, r3) := h
  clear h
  replace H := Option.bind_eq_some_iff.mp H
  obtain ⟨⟨t160, t161⟩, A30, H⟩ := H
  replace H : (if a1 < 0 then (wide_Shl.j0 k a1 t160 t161 true a0_0 a0_1) else (wide_Shl.j0 k a1 t160 t161 (decide (a1 ≥ 128)) a0_0 a0_1)) = some (r1, r2, r3) := H
  have A3 := Aside0.mk A30
  clear A30
  have HC4 := Aside0.mk H
  clear H
  go_enter Try.func22, Try.ntmps22
  go_upto_region 2 with (first | ((with_reducible refine gate_dst (N := 2) rfl ?_); refine box_event ?hg (N := 2) ?hd (cs := #[.int .i64 a0_0, .int .u64 a0_1]) (t := 24) ?hr ?_; (case hd => rfl); (case hg => rfl); (case hr => first | (go_simp; done) | (go_simp; rfl)); intro gb158 hg w5 hbox hb; have BK158 := Aside0.mk (hbox); have GW158 := kS HB hg; have GE158 := kS HB hg; replace HB := kB HB hb; clear hb hbox hg) | ((with_reducible refine gate_dst (N := 4) rfl ?_); refine box_event ?hg (N := 4) ?hd (cs := #[.int .i64 0, .int .u64 0]) (t := 24) ?hr ?_; (case hd => rfl); (case hg => rfl); (case hr => first | (go_simp; done) | (go_simp; rfl)); intro gb159 hg w6 hbox hb; have BK159 := Aside0.mk (hbox); have GW159 := kS HB hg; have GE159 := kS HB hg; have NB158_159 := kN BK158 hg; have NB159_158 := kM BK158 hg; replace BK158 := kb BK158 hb; replace HB := kB HB hb; clear hb hbox hg; have hnb7 := NB158_159.out; have hnc7 := NB159_158.out; have hcz8_0 : w6.cell? ⟨gb158, 0, none⟩ = some (.int .i64 a0_0) := kc BK158 0; have hcz8_1 : w6.cell? ⟨gb158, 1, none⟩ = some (.int .u64 a0_1) := kc BK158 1; have hfz8_0 := blk_frozen BK158.out 0; have hfz8_1 := blk_frozen BK158.out 1) | ((with_reducible refine gate_callee (f := 51) rfl ?_); refine goesL_ (some 10) rfl rfl Try.func51 (by kernel_rfl) rfl #[.agg #[.int .i64 a0_0, .int .u64 a0_1]] rfl (by (try simp only [List.map_toArray, List.map_cons, List.map_nil]); first | done | rfl | (simp only [List.length_drop, List.length_take]; rfl)) ?_; (with_reducible refine (wide_size.calls a0_0 a0_1 t160 t161 _ A3.out).mono ?_); rintro e w9 ⟨rfl, hb⟩; refine ⟨_, rfl, ?_⟩; replace BK158 := kb BK158 hb; replace BK159 := kb BK159 hb; replace HB := kB HB hb; (try clear hb); (try clear hb2); (try clear hk); (try clear hi)))
  (try simp only [Act.put, List.setIfInBounds_toArray, List.set_cons_zero, List.set_cons_succ])
  go_cut [18] (fun v18 wc => ∃ (kq : Nat) (x18_3 : Bool), v18 = .bool x18_3 ∧ Aside0 (wide_Shl.j0 kq a1 t160 t161 x18_3 a0_0 a0_1 = some (r1, r2, r3)) ∧ Aside0 (kq ≤ k) ∧ Aside0 (wc.heap[gb158]? = some (.cells #[.int .i64 a0_0, .int .u64 a0_1] 24 (0, 0))) ∧ Aside0 (wc.heap[gb159]? = some (.cells #[.int .i64 0, .int .u64 0] 24 (0, 0))) ∧ Aside0 (Below w.heap.size w wc))
  case first =>
    have H := HC4.out; clear HC4
    by_cases c10 : a1 < 0
    · rw [if_pos c10] at H
      have c10b0 : decide (a1 < 0) = true := decide_eq_true c10
      clear c10
      (first | rw [c10b0] | (simp only [i64_w, i32_w]; rw [c10b0]) | skip)
      have H' := Aside0.mk H
      clear H
      go_wp2
      go_meet
      case rel => exact ⟨_, (true), (by first | rfl | (simp; done) | (simp [*]; done)), H', ⟨by first | omega | exact Nat.le_refl _⟩, ⟨kx BK158⟩, ⟨kx BK159⟩, ⟨ky HB⟩⟩
    rw [if_neg c10] at H
    have c10b0 : decide (a1 < 0) = false := decide_eq_false c10
    clear c10
    (first | rw [c10b0] | (simp only [i64_w, i32_w]; rw [c10b0]) | skip)
    have H' := Aside0.mk H
    clear H
    go_wp2
    go_meet
    case rel => exact ⟨_, (decide (a1 ≥ 128)), (by first | rfl | (simp; done) | (simp [*]; done)), H', ⟨by first | omega | exact Nat.le_refl _⟩, ⟨kx BK158⟩, ⟨kx BK159⟩, ⟨ky HB⟩⟩
  case rest =>
    clear HC4; try clear c1; try clear c2; try clear p2; try clear c5; try clear c7; try clear c10; try clear c10b0; try clear hcz8_0; try clear hcz8_1; try clear hfz8_0; try clear hfz8_1
    obtain ⟨kq, x18_3, rfl, HA, HJ3, BK158, BK159, HB⟩ := hcut
    cases kq with
    | zero => exact absurd HA.out (by simp [wide_Shl.j0])
    | succ kj3 =>
      have H := HA.out; clear HA
      simp only [wide_Shl.j0] at H
      by_cases c11 : x18_3 = true
      · subst c11
        have H1 : (if a1 ≥ 0 then ((wide_told.f 0 0 (a0_0 == 0 && (a0_1 == 0))).bind fun bt162 => (some (bt162.1, bt162.2.1, bt162.2.2))) else ((wide_told.f 0 0 false).bind fun bt165 => (some (bt165.1, bt165.2.1, bt165.2.2)))) = some (r1, r2, r3) := by rw [if_pos rfl] at H; exact H
        clear H; have H := H1; clear H1
        by_cases c12 : a1 ≥ 0
        rotate_left
        · rw [if_neg c12] at H
          have c12b0 : decide (0 ≤ a1) = false := decide_eq_false c12
          clear c12
          replace H := Option.bind_eq_some_iff.mp H
          obtain ⟨⟨t165, t166, t167⟩, A180, H⟩ := H
          replace H : (some (t165, t166, t167)) = some (r1, r2, r3) := H
          have A18 := Aside0.mk A180
          clear A180
          simp only [Option.some.injEq, Prod.mk.injEq] at H
          obtain ⟨rfl, rfl, rfl⟩ := H
          go_wp2_with (first | ((with_reducible refine gate_callee (f := 59) rfl ?_); refine goesL_ (some 27) rfl rfl Try.func59 (by kernel_rfl) rfl #[.agg #[.int .i64 0, .int .u64 0], .bool false] rfl (by (try simp only [List.map_toArray, List.map_cons, List.map_nil]); first | done | rfl | (simp only [List.length_drop, List.length_take]; rfl)) ?_; (with_reducible refine (wide_told.calls 0 0 false t165 t166 t167 _ A18.out).mono ?_); rintro e w19 ⟨rfl, hb⟩; refine ⟨_, rfl, ?_⟩; replace BK158 := kb BK158 hb; replace BK159 := kb BK159 hb; replace HB := kB HB hb; (try clear hb); (try clear hb2); (try clear hk); (try clear hi); have hnb20 := NB159_158.out; have hnc20 := NB158_159.out; have hcz21_0 : w19.cell? ⟨gb159, 0, none⟩ = some (.int .i64 0) := kc BK159 0; have hcz21_1 : w19.cell? ⟨gb159, 1, none⟩ = some (.int .u64 0) := kc BK159 1; have hfz21_0 := blk_frozen BK159.out 0; have hfz21_1 := blk_frozen BK159.out 1))
          refine bodyPost_ret (results_ct rfl _ _ gb159 24 #[.int .i64 t165, .int .u64 t166] (0, 0) _ rfl (by (with_reducible repeat (first | refine blk_drewN ?_ _ | refine blk_drew ?_ | refine blk_alloc ?_ _)); refine blk_put (cs := #[.int .i64 t165, .int .u64 0]) ?_ 1 _ rfl; (with_reducible repeat (first | refine blk_drewN ?_ _ | refine blk_drew ?_ | refine blk_alloc ?_ _)); refine blk_put (cs := #[.int .i64 0, .int .u64 0]) ?_ 0 _ rfl; (with_reducible repeat (first | refine blk_drewN ?_ _ | refine blk_drew ?_ | refine blk_alloc ?_ _)); exact BK159.out) Try.underlying24 rfl (by kernel_rfl)) rfl ?_
          exact ⟨by first | rfl | (simp [errW_none, errW_some] <;> rfl) | (simp [*, errW_none, errW_some] <;> rfl), ky HB⟩
        rw [if_pos c12] at H
        have c12b0 : decide (0 ≤ a1) = true := decide_eq_true c12
        clear c12
        replace H := Option.bind_eq_some_iff.mp H
        obtain ⟨⟨t162, t163, t164⟩, A130, H⟩ := H
        replace H : (some (t162, t163, t164)) = some (r1, r2, r3) := H
        have A13 := Aside0.mk A130
        clear A130
        simp only [Option.some.injEq, Prod.mk.injEq] at H
        obtain ⟨rfl, rfl, rfl⟩ := H
        have hnb14 := NB158_159.out; have hnc14 := NB159_158.out
        have hcz15_0 : wc.cell? ⟨gb158, 0, none⟩ = some (.int .i64 a0_0) := kc BK158 0
        have hcz15_1 : wc.cell? ⟨gb158, 1, none⟩ = some (.int .u64 a0_1) := kc BK158 1
        have hfz15_0 := blk_frozen BK158.out 0
        have hfz15_1 := blk_frozen BK158.out 1
        go_wp2_with (first | ((with_reducible refine gate_callee (f := 59) rfl ?_); refine goesL_ (some 27) rfl rfl Try.func59 (by kernel_rfl) rfl #[.agg #[.int .i64 0, .int .u64 0], .bool (a0_0 == 0 && (a0_1 == 0))] rfl (by (try simp only [List.map_toArray, List.map_cons, List.map_nil]); first | done | rfl | (simp only [List.length_drop, List.length_take]; rfl)) ?_; (with_reducible refine (wide_told.calls 0 0 (a0_0 == 0 && (a0_1 == 0)) t162 t163 t164 _ A13.out).mono ?_); rintro e w16 ⟨rfl, hb⟩; refine ⟨_, rfl, ?_⟩; replace BK158 := kb BK158 hb; replace BK159 := kb BK159 hb; replace HB := kB HB hb; (try clear hb); (try clear hb2); (try clear hk); (try clear hi); have hcz17_0 : w16.cell? ⟨gb159, 0, none⟩ = some (.int .i64 0) := kc BK159 0; have hcz17_1 : w16.cell? ⟨gb159, 1, none⟩ = some (.int .u64 0) := kc BK159 1; have hfz17_0 := blk_frozen BK159.out 0; have hfz17_1 := blk_frozen BK159.out 1))
        refine bodyPost_ret (results_ct rfl _ _ gb159 24 #[.int .i64 t162, .int .u64 t163] (0, 0) _ rfl (by (with_reducible repeat (first | refine blk_drewN ?_ _ | refine blk_drew ?_ | refine blk_alloc ?_ _)); refine blk_put (cs := #[.int .i64 t162, .int .u64 0]) ?_ 1 _ rfl; (with_reducible repeat (first | refine blk_drewN ?_ _ | refine blk_drew ?_ | refine blk_alloc ?_ _)); refine blk_put (cs := #[.int .i64 0, .int .u64 0]) ?_ 0 _ rfl; (with_reducible repeat (first | refine blk_drewN ?_ _ | refine blk_drew ?_ | refine blk_alloc ?_ _)); exact BK159.out) Try.underlying24 rfl (by kernel_rfl)) rfl ?_
        exact ⟨by first | rfl | (simp [errW_none, errW_some] <;> rfl) | (simp [*, errW_none, errW_some] <;> rfl), ky HB⟩
      replace c11 := Bool.eq_false_iff.mpr c11
      subst c11
      have H1 : (wide_Shl.l0 kj3 t160 t161 a1 0 a0_0 a0_1) = some (r1, r2, r3) := by rw [if_neg (show ¬ (false = true) by decide)] at H; exact H
      clear H; have H := H1; clear H1
      have H' := Aside0.mk H
      clear H
      go_wp2
      go_loopg [6, 7, 31] kj3 (fun kq v6 v7 v31 w' => ∃ (x6_2 : Int) (x7_2 : Int) (x31_2 : Int) (x160000_2 : Int) (x160001_2 : Int), v6 = .int .u64 x6_2 ∧ v7 = .int .u64 x7_2 ∧ v31 = .int .i64 x31_2 ∧ Aside0 (wide_Shl.l0 kq x6_2 x7_2 a1 x31_2 a0_0 a0_1 = some (r1, r2, r3)) ∧ Aside0 (kq ≤ kj3) ∧ Aside0 (w'.heap[gb158]? = some (.cells #[.int .i64 a0_0, .int .u64 a0_1] 24 (0, 0))) ∧ Aside0 (w'.heap[gb159]? = some (.cells #[.int .i64 x160000_2, .int .u64 x160001_2] 24 (0, 0))) ∧ Aside0 (Below w.heap.size w w'))
      case atStart => exact ⟨(t160), (t161), (0), (0), (0), (by first | rfl | (simp; done) | (simp [*]; done)), (by first | rfl | (simp; done) | (simp [*]; done)), (by first | rfl | (simp; done) | (simp [*]; done)), H', ⟨Nat.le_refl _⟩, ⟨kx BK158⟩, ⟨kx BK159⟩, ⟨ky HB⟩⟩
      case round =>
        clear H'
        try clear c1; try clear c2; try clear p2; try clear c5; try clear c7; try clear c10; try clear c10b0; try clear c11; try clear c12; try clear c12b0; try clear c14; try clear c20; try clear hcz15_0; try clear hcz15_1; try clear hcz17_0; try clear hcz17_1; try clear hcz21_0; try clear hcz21_1; try clear hcz8_0; try clear hcz8_1; try clear hfz15_0; try clear hfz15_1; try clear hfz17_0; try clear hfz17_1; try clear hfz21_0; try clear hfz21_1; try clear hfz8_0; try clear hfz8_1; try clear p2
        obtain ⟨x6_2, x7_2, x31_2, x160000_2, x160001_2, rfl, rfl, rfl, HA, HK2, BK158, BK159, HB⟩ := hrel
        cases gk with
        | zero => exact absurd HA.out (by simp [wide_Shl.l0])
        | succ k2 =>
          have H := HA.out; clear HA
          simp only [wide_Shl.l0] at H
          by_cases c22 : x31_2 < a1
          · rw [if_pos c22] at H
            have c22b0 : decide (x31_2 < a1) = true := decide_eq_true c22
            clear c22
            by_cases c23 : (x6_2 / 9223372036854775808) = 0
            · rw [if_pos c23] at H
              have c23b0 : ((x6_2 / 9223372036854775808) == 0) = true := beq_iff_eq.mpr c23
              have c23b1 : ((x6_2 / 9223372036854775808) != 0) = false := bne_eq_false_iff_eq.mpr c23
              clear c23
              have H' := Aside0.mk H
              clear H
              go_wp2
              go_roundg k2
              case measure => have := HJ3.out; have := HK2.out; omega
              case rel => exact ⟨(Go.bits .or .u64 (IntKind.u64.wrap (x6_2 * 2)) (x7_2 / 9223372036854775808)), (IntKind.u64.wrap (x7_2 * 2)), (wrap64 (x31_2 + 1)), (x160000_2), (x160001_2), (by first | rfl | (simp; done) | (simp [*]; done)), (by first | rfl | (simp; done) | (simp [*]; done)), (by first | rfl | (simp; done) | (simp [*]; done)), H', ⟨by have := HJ3.out; have := HK2.out; omega⟩, ⟨kx BK158⟩, ⟨kx BK159⟩, ⟨ky HB⟩⟩
            rw [if_neg c23] at H
            have c23b0 : ((x6_2 / 9223372036854775808) == 0) = false := beq_eq_false_iff_ne.mpr c23
            have c23b1 : ((x6_2 / 9223372036854775808) != 0) = true := bne_iff_ne.mpr c23
            simp only [Option.some.injEq, Prod.mk.injEq] at H
            obtain ⟨rfl, rfl, rfl⟩ := H
            have hnb24 := NB159_158.out; have hnc24 := NB158_159.out
            have hcz25_0 : wr.cell? ⟨gb159, 0, none⟩ = some (.int .i64 x160000_2) := kc BK159 0
            have hcz25_1 : wr.cell? ⟨gb159, 1, none⟩ = some (.int .u64 x160001_2) := kc BK159 1
            have hfz25_0 := blk_frozen BK159.out 0
            have hfz25_1 := blk_frozen BK159.out 1
            go_wp2
            refine bodyPost_ret (results_ct rfl _ _ gb159 24 #[.int .i64 0, .int .u64 0] (0, 0) _ rfl (by (with_reducible repeat (first | refine blk_drewN ?_ _ | refine blk_drew ?_ | refine blk_alloc ?_ _)); refine blk_put (cs := #[.int .i64 0, .int .u64 x160001_2]) ?_ 1 _ rfl; (with_reducible repeat (first | refine blk_drewN ?_ _ | refine blk_drew ?_ | refine blk_alloc ?_ _)); refine blk_put (cs := #[.int .i64 x160000_2, .int .u64 x160001_2]) ?_ 0 _ rfl; (with_reducible repeat (first | refine blk_drewN ?_ _ | refine blk_drew ?_ | refine blk_alloc ?_ _)); exact BK159.out) Try.underlying24 rfl (by kernel_rfl)) rfl ?_
            exact ⟨by first | rfl | (simp [errW_none, errW_some] <;> rfl) | (simp [*, errW_none, errW_some] <;> rfl), ky HB⟩
          rw [if_neg c22] at H
          have c22b0 : decide (x31_2 < a1) = false := decide_eq_false c22
          clear c22
          replace H := Option.bind_eq_some_iff.mp H
          obtain ⟨⟨t168, t169, t170⟩, A260, H⟩ := H
          replace H : (some (t168, t169, t170)) = some (r1, r2, r3) := H
          have A26 := Aside0.mk A260
          clear A260
          simp only [Option.some.injEq, Prod.mk.injEq] at H
          obtain ⟨rfl, rfl, rfl⟩ := H
          have hnb27 := NB158_159.out; have hnc27 := NB159_158.out
          have hcz28_0 : wr.cell? ⟨gb158, 0, none⟩ = some (.int .i64 a0_0) := kc BK158 0
          have hcz28_1 : wr.cell? ⟨gb158, 1, none⟩ = some (.int .u64 a0_1) := kc BK158 1
          have hfz28_0 := blk_frozen BK158.out 0
          have hfz28_1 := blk_frozen BK158.out 1
          go_wp2_with (first | ((with_reducible refine gate_callee (f := 54) rfl ?_); refine goesL_ (some 50) rfl rfl Try.func54 (by kernel_rfl) rfl #[.int .u64 x6_2, .int .u64 x7_2, .bool (decide (a0_0 < 0))] rfl (by (try simp only [List.map_toArray, List.map_cons, List.map_nil]); first | done | rfl | (simp only [List.length_drop, List.length_take]; rfl)) ?_; (with_reducible refine (wide_signed.calls x6_2 x7_2 (decide (a0_0 < 0)) t168 t169 t170 _ A26.out).mono ?_); rintro e w29 ⟨rfl, hb⟩; refine ⟨_, rfl, ?_⟩; replace BK158 := kb BK158 hb; replace BK159 := kb BK159 hb; replace HB := kB HB hb; (try clear hb); (try clear hb2); (try clear hk); (try clear hi); have hcz30_0 : w29.cell? ⟨gb159, 0, none⟩ = some (.int .i64 x160000_2) := kc BK159 0; have hcz30_1 : w29.cell? ⟨gb159, 1, none⟩ = some (.int .u64 x160001_2) := kc BK159 1; have hfz30_0 := blk_frozen BK159.out 0; have hfz30_1 := blk_frozen BK159.out 1))
          refine bodyPost_ret (results_ct rfl _ _ gb159 24 #[.int .i64 t168, .int .u64 t169] (0, 0) _ rfl (by (with_reducible repeat (first | refine blk_drewN ?_ _ | refine blk_drew ?_ | refine blk_alloc ?_ _)); refine blk_put (cs := #[.int .i64 t168, .int .u64 x160001_2]) ?_ 1 _ rfl; (with_reducible repeat (first | refine blk_drewN ?_ _ | refine blk_drew ?_ | refine blk_alloc ?_ _)); refine blk_put (cs := #[.int .i64 x160000_2, .int .u64 x160001_2]) ?_ 0 _ rfl; (with_reducible repeat (first | refine blk_drewN ?_ _ | refine blk_drew ?_ | refine blk_alloc ?_ _)); exact BK159.out) Try.underlying24 rfl (by kernel_rfl)) rfl ?_
          exact ⟨by first | rfl | (simp [errW_none, errW_some] <;> rfl) | (simp [*, errW_none, errW_some] <;> rfl), ky HB⟩

/-! ### cmp_Or_int: function 60 -/
def cmp_Or_int.l0 : Nat → Int → List Int → Int → Int → Option (Int)
  | 0, _, _, _, _ => none
  | k + 1, x3, x6, x7, x8 => if x8 < x7 then (if 0 ≤ x8 then (if x8 < (x6.length : Int) then (if (rd x6 x8) = x3 then (cmp_Or_int.l0 k x3 x6 x7 (wrap64 (x8 + 1))) else (some (rd x6 x8))) else (none)) else (none)) else (some x3)
def cmp_Or_int.f (k : Nat) (l0 : List Int) : Option (Int) := cmp_Or_int.l0 k 0 l0 (l0.length : Int) 0
theorem cmp_Or_int.mono_l : ∀ k, (∀ y0 y1 y2 y3, LeO (cmp_Or_int.l0 k y0 y1 y2 y3) (cmp_Or_int.l0 (k + 1) y0 y1 y2 y3))
  | 0 => fun _ _ _ _ r h => by simp [cmp_Or_int.l0] at h
  | k + 1 => by
    have ih0 := cmp_Or_int.mono_l k
    · intro y0 y1 y2 y3
      unfold cmp_Or_int.l0
      repeat' first
      | (with_reducible exact ih0 _ _ _ _)
      | (with_reducible exact LeO.refl _)
      | (with_reducible exact LeO.none _)
      | (with_reducible refine LeO.ite ?_ ?_)
      | (with_reducible refine LeO.bind ?_ (fun _ => ?_))
      | exact ih0 _ _ _ _
      | exact LeO.none _
      | refine LeO.ite ?_ ?_
      | refine LeO.bind ?_ (fun _ => ?_)
theorem cmp_Or_int.mono : ∀ a0 k, LeO (cmp_Or_int.f k a0) (cmp_Or_int.f (k + 1) a0) := by
  intro a0 k
  have ih0 := cmp_Or_int.mono_l k
  unfold cmp_Or_int.f
  repeat' first
      | (with_reducible exact ih0 _ _ _ _)
      | (with_reducible exact LeO.refl _)
      | (with_reducible exact LeO.none _)
      | (with_reducible refine LeO.ite ?_ ?_)
      | (with_reducible refine LeO.bind ?_ (fun _ => ?_))
      | exact ih0 _ _ _ _
      | exact LeO.none _
      | refine LeO.ite ?_ ?_
      | refine LeO.bind ?_ (fun _ => ?_)
set_option maxHeartbeats 8000000 in
set_option maxRecDepth 100000 in
theorem cmp_Or_int.calls (k : Nat) (A0 : Option Addr) (c0 : Nat) (l0 : List Int) (r : Int) (w : World) (hr0 : Kd.C (Kd.int .i64) w A0 l0.length l0) (hc0 : l0.length ≤ c0) (h : cmp_Or_int.f k l0 = some r) :
    Calls Try.prog 60 #[.slice A0 l0.length c0] w fun e w' => e = .returned (.int .i64 r) ∧ Drawn0 w w' := by
  have HR0 := Aside0.mk hr0
  have HC0 := Aside0.mk hc0
  clear hr0 hc0
  have H : (cmp_Or_int.l0 k 0 l0 (l0.length : Int) 0) = some r := h
  clear h
  have H' := Aside0.mk H
  clear H
  go_enter Try.func60, Try.ntmps60
  go_wp2
  go_loopg [8] k (fun kq v8 w' => ∃ (x8_1 : Int), v8 = .int .i64 x8_1 ∧ Aside0 (cmp_Or_int.l0 kq 0 l0 (l0.length : Int) x8_1 = some r) ∧ Aside0 (kq ≤ k) ∧ Drawn0 w w')
  case atStart => exact ⟨(0), (by first | rfl | (simp; done) | (simp [*]; done)), H', ⟨Nat.le_refl _⟩, by repeat (first | exact Drawn0.refl _ | apply Drawn0.step)⟩
  case round =>
    clear H'
    obtain ⟨x8_1, rfl, HA, HK1, ⟨m1, rfl⟩⟩ := hrel
    cases gk with
    | zero => exact absurd HA.out (by simp [cmp_Or_int.l0])
    | succ k1 =>
      have H := HA.out; clear HA
      simp only [cmp_Or_int.l0] at H
      by_cases c2 : x8_1 < (l0.length : Int)
      rotate_left
      · rw [if_neg c2] at H
        have c2b0 : decide (x8_1 < (l0.length : Int)) = false := decide_eq_false c2
        clear c2
        obtain rfl := Option.some.inj H
        go_wp2
        go_ret
        exact ⟨by first | rfl | (simp; done) | (simp [*]; done), by repeat (first | exact Drawn0.refl _ | apply Drawn0.step)⟩

      rw [if_pos c2] at H
      have c2b0 : decide (x8_1 < (l0.length : Int)) = true := decide_eq_true c2
      clear c2
      by_cases c3 : 0 ≤ x8_1
      rotate_left
      · rw [if_neg c3] at H
        exact absurd H (by simp)
      rw [if_pos c3] at H
      have c3b0 : decide (0 ≤ x8_1) = true := decide_eq_true c3
      clear c3
      by_cases c4 : x8_1 < (l0.length : Int)
      rotate_left
      · rw [if_neg c4] at H
        exact absurd H (by simp)
      rw [if_pos c4] at H
      have c4b0 : decide (x8_1 < (l0.length : Int)) = true := decide_eq_true c4
      clear c4
      by_cases c5 : (rd l0 x8_1) = 0
      rotate_left
      · rw [if_neg c5] at H
        have c5b0 : ((rd l0 x8_1) == 0) = false := beq_eq_false_iff_ne.mpr c5
        have c5b1 : ((rd l0 x8_1) != 0) = true := bne_iff_ne.mpr c5
        obtain rfl := Option.some.inj H
        have p171 : 0 ≤ (x8_1 : Int) := of_decide_eq_true (by first | (with_reducible assumption) | assumption)
        have q171 : x8_1 < (l0.length : Int) := of_decide_eq_true (by first | (with_reducible assumption) | assumption)
        obtain ⟨ad171, e171, hx171_0⟩ := Kd.at_int HR0.out x8_1 p171 q171
        cases e171
        replace p171 := eq_true p171
        replace q171 := eq_true q171
        go_wp2
        go_ret
        exact ⟨by first | rfl | (simp; done) | (simp [*]; done), by repeat (first | exact Drawn0.refl _ | apply Drawn0.step)⟩
      rw [if_pos c5] at H
      have c5b0 : ((rd l0 x8_1) == 0) = true := beq_iff_eq.mpr c5
      have c5b1 : ((rd l0 x8_1) != 0) = false := bne_eq_false_iff_eq.mpr c5
      clear c5
      have H' := Aside0.mk H
      clear H
      have p171 : 0 ≤ (x8_1 : Int) := of_decide_eq_true (by first | (with_reducible assumption) | assumption)
      have q171 : x8_1 < (l0.length : Int) := of_decide_eq_true (by first | (with_reducible assumption) | assumption)
      obtain ⟨ad171, e171, hx171_0⟩ := Kd.at_int HR0.out x8_1 p171 q171
      cases e171
      replace p171 := eq_true p171
      replace q171 := eq_true q171
      go_wp2
      go_roundg k1
      case measure => have := HK1.out; omega
      case rel => exact ⟨(wrap64 (x8_1 + 1)), (by first | rfl | (simp; done) | (simp [*]; done)), H', ⟨by have := HK1.out; omega⟩, by repeat (first | exact Drawn0.refl _ | apply Drawn0.step)⟩
/-! ### cmp_isNaN_int64: function 80 -/
def cmp_isNaN_int64.f (a0 : Int) : Option (Bool) := some (a0 != a0)
set_option maxHeartbeats 8000000 in
set_option maxRecDepth 100000 in
theorem cmp_isNaN_int64.calls (a0 : Int) (r : Bool) (w : World) (h : cmp_isNaN_int64.f a0 = some r) :
    Calls Try.prog 80 #[.int .i64 a0] w fun e w' => e = .returned (.bool r) ∧ Drawn0 w w' := by
  have H : (some (a0 != a0)) = some r := h
  clear h
  obtain rfl := Option.some.inj H
  go_enter Try.func80, Try.ntmps80
  go_wp2
  go_ret
  exact ⟨by first | rfl | (simp; done) | (simp [*]; done), by repeat (first | exact Drawn0.refl _ | apply Drawn0.step)⟩

end Go.Proofs.Ytpjbniihdndlmaa.Q
