-- Printed by wip/pp.sh (a session's own turning of the kit's print) for this seat.
import Derived.Test.YtpjbniihdndlmabQx0
import Derived.Test.YtpjbniihdndlmabQx1
import Derived.Test.YtpjbniihdndlmabQx17
import Derived.Test.YtpjbniihdndlmabQx18
import Derived.Test.YtpjbniihdndlmabQx20
namespace Go.Proofs.Ytpjbniihdndlmab.Q
open Go.RowKit Go.Proofs.YtpjbniihdndlmabW.PrintWords Go.Proofs.YtpjbniihdndlmabW.PrintLast Go.Proofs.YtpjbniihdndlmabW.PrintMore
open Go.Proofs.Ytpjbniihdndlmab.H
attribute [local go_sem] hq_add64 hq_sub64 hq_not64 add64c_nn sub64c_nn sub64c_le
attribute [local go_sem] max2_int min2_int max_two min_two max_three min_three max_four min_four   -- for this text's walks alone
set_option linter.unusedVariables false
set_option linter.unusedSimpArgs false

attribute [local go_sem high] eqA24
/-! ### wide_Shl: function 28 -/
mutual
def wide_Shl.j0 : Nat → Int → Int → Int → Bool → Int → Int → Option (Int × Int × Bool)
  | 0, _, _, _, _, _, _ => none
  | k + 1, x1, x6, x7, x18, x206000, x206001 => if x18 = true then (if x1 ≥ 0 then ((wide_told.f 0 0 (x206000 == 0 && (x206001 == 0))).bind fun bt209 => (some (bt209.1, bt209.2.1, bt209.2.2))) else ((wide_told.f 0 0 false).bind fun bt212 => (some (bt212.1, bt212.2.1, bt212.2.2)))) else (wide_Shl.l0 k x6 x7 x1 0 x206000 x206001)
def wide_Shl.l0 : Nat → Int → Int → Int → Int → Int → Int → Option (Int × Int × Bool)
  | 0, _, _, _, _, _, _ => none
  | k + 1, x6, x7, x30, x31, x206000, x206001 => if x31 < x30 then (if (x6 / 9223372036854775808) = 0 then (wide_Shl.l0 k (Go.bits .or .u64 (IntKind.u64.wrap (x6 * 2)) (x7 / 9223372036854775808)) (IntKind.u64.wrap (x7 * 2)) x30 (wrap64 (x31 + 1)) x206000 x206001) else (some (0, 0, false))) else ((wide_signed.f x6 x7 (decide (x206000 < 0))).bind fun bt215 => (some (bt215.1, bt215.2.1, bt215.2.2)))
end
def wide_Shl.f (k : Nat) (a0_0 : Int) (a0_1 : Int) (a1 : Int) : Option (Int × Int × Bool) := (wide_size.f a0_0 a0_1).bind fun bt207 => (if a1 < 0 then (wide_Shl.j0 k a1 bt207.1 bt207.2 true a0_0 a0_1) else (wide_Shl.j0 k a1 bt207.1 bt207.2 (decide (a1 ≥ 128)) a0_0 a0_1))
theorem wide_Shl.mono_l : ∀ k, (∀ y0 y1 y2 y3 y4 y5, LeO (wide_Shl.j0 k y0 y1 y2 y3 y4 y5) (wide_Shl.j0 (k + 1) y0 y1 y2 y3 y4 y5)) ∧ (∀ y0 y1 y2 y3 y4 y5, LeO (wide_Shl.l0 k y0 y1 y2 y3 y4 y5) (wide_Shl.l0 (k + 1) y0 y1 y2 y3 y4 y5))
  | 0 => ⟨fun _ _ _ _ _ _ r h => by simp [wide_Shl.j0] at h, fun _ _ _ _ _ _ r h => by simp [wide_Shl.l0] at h⟩
  | k + 1 => by
    obtain ⟨ih0, ih1⟩ := wide_Shl.mono_l k
    refine ⟨?_, ?_⟩
    · intro y0 y1 y2 y3 y4 y5
      unfold wide_Shl.j0
      repeat' first
      | (with_reducible exact ih0 _ _ _ _ _ _)
      | (with_reducible exact ih1 _ _ _ _ _ _)
      | (with_reducible exact LeO.refl _)
      | (with_reducible exact LeO.none _)
      | (with_reducible refine LeO.ite ?_ ?_)
      | (with_reducible refine LeO.bind ?_ (fun _ => ?_))
      | exact ih0 _ _ _ _ _ _
      | exact ih1 _ _ _ _ _ _
      | exact LeO.none _
      | refine LeO.ite ?_ ?_
      | refine LeO.bind ?_ (fun _ => ?_)
    · intro y0 y1 y2 y3 y4 y5
      unfold wide_Shl.l0
      repeat' first
      | (with_reducible exact ih0 _ _ _ _ _ _)
      | (with_reducible exact ih1 _ _ _ _ _ _)
      | (with_reducible exact LeO.refl _)
      | (with_reducible exact LeO.none _)
      | (with_reducible refine LeO.ite ?_ ?_)
      | (with_reducible refine LeO.bind ?_ (fun _ => ?_))
      | exact ih0 _ _ _ _ _ _
      | exact ih1 _ _ _ _ _ _
      | exact LeO.none _
      | refine LeO.ite ?_ ?_
      | refine LeO.bind ?_ (fun _ => ?_)
theorem wide_Shl.mono : ∀ a0 a1 a2 k, LeO (wide_Shl.f k a0 a1 a2) (wide_Shl.f (k + 1) a0 a1 a2) := by
  intro a0 a1 a2 k
  obtain ⟨ih0, ih1⟩ := wide_Shl.mono_l k
  unfold wide_Shl.f
  repeat' first
      | (with_reducible exact ih0 _ _ _ _ _ _)
      | (with_reducible exact ih1 _ _ _ _ _ _)
      | (with_reducible exact LeO.refl _)
      | (with_reducible exact LeO.none _)
      | (with_reducible refine LeO.ite ?_ ?_)
      | (with_reducible refine LeO.bind ?_ (fun _ => ?_))
      | exact ih0 _ _ _ _ _ _
      | exact ih1 _ _ _ _ _ _
      | exact LeO.none _
      | refine LeO.ite ?_ ?_
      | refine LeO.bind ?_ (fun _ => ?_)
set_option maxHeartbeats 8000000 in
set_option maxRecDepth 100000 in
theorem wide_Shl.calls (k : Nat) (a0_0 : Int) (a0_1 : Int) (a1 : Int) (r1 : Int) (r2 : Int) (r3 : Bool) (w : World) (h : wide_Shl.f k a0_0 a0_1 a1 = some (r1, r2, r3)) :
    Calls Try.prog 28 #[.agg #[.int .i64 a0_0, .int .u64 a0_1], .int .i64 a1] w fun e w' => e = .returned (.tuple #[.agg #[.int .i64 r1, .int .u64 r2], .bool r3]) ∧ Below w.heap.size w w' := by
  have hu24 := Try.underlying24
  have HB := Aside0.mk (Below.refl w.heap.size w)
  have H : ((wide_size.f a0_0 a0_1).bind fun bt207 => (if a1 < 0 then (wide_Shl.j0 k a1 bt207.1 bt207.2 true a0_0 a0_1) else (wide_Shl.j0 k a1 bt207.1 bt207.2 (decide (a1 ≥ 128)) a0_0 a0_1))) = some (r1, r2, r3) := h
  clear h
  replace H := Option.bind_eq_some_iff.mp H
  obtain ⟨⟨t207, t208⟩, A30, H⟩ := H
  replace H : (if a1 < 0 then (wide_Shl.j0 k a1 t207 t208 true a0_0 a0_1) else (wide_Shl.j0 k a1 t207 t208 (decide (a1 ≥ 128)) a0_0 a0_1)) = some (r1, r2, r3) := H
  have A3 := Aside0.mk A30
  clear A30
  have HC4 := Aside0.mk H
  clear H
  go_enter Try.func28, Try.ntmps28
  go_upto_region 2 with (first | ((with_reducible refine gate_dst (N := 2) rfl ?_); refine box_event ?hg (N := 2) ?hd (cs := #[.int .i64 a0_0, .int .u64 a0_1]) (t := 24) ?hr ?_; (case hd => rfl); (case hg => rfl); (case hr => first | (go_simp; done) | (go_simp; rfl)); intro gb205 hg w5 hbox hb; have BK205 := Aside0.mk (hbox); have GW205 := kS HB hg; have GE205 := kS HB hg; replace HB := kB HB hb; clear hb hbox hg) | ((with_reducible refine gate_dst (N := 4) rfl ?_); refine box_event ?hg (N := 4) ?hd (cs := #[.int .i64 0, .int .u64 0]) (t := 24) ?hr ?_; (case hd => rfl); (case hg => rfl); (case hr => first | (go_simp; done) | (go_simp; rfl)); intro gb206 hg w6 hbox hb; have BK206 := Aside0.mk (hbox); have GW206 := kS HB hg; have GE206 := kS HB hg; have NB205_206 := kN BK205 hg; have NB206_205 := kM BK205 hg; replace BK205 := kb BK205 hb; replace HB := kB HB hb; clear hb hbox hg; have hnb7 := NB205_206.out; have hnc7 := NB206_205.out; have hcz8_0 : w6.cell? ⟨gb205, 0, none⟩ = some (.int .i64 a0_0) := kc BK205 0; have hcz8_1 : w6.cell? ⟨gb205, 1, none⟩ = some (.int .u64 a0_1) := kc BK205 1; have hfz8_0 := blk_frozen BK205.out 0; have hfz8_1 := blk_frozen BK205.out 1) | ((with_reducible refine gate_callee (f := 60) rfl ?_); refine goesL_ (some 10) rfl rfl Try.func60 (by kernel_rfl) rfl #[.agg #[.int .i64 a0_0, .int .u64 a0_1]] rfl (by (try simp only [List.map_toArray, List.map_cons, List.map_nil]); first | done | rfl | (simp only [List.length_drop, List.length_take]; rfl)) ?_; (with_reducible refine (wide_size.calls a0_0 a0_1 t207 t208 _ A3.out).mono ?_); rintro e w9 ⟨rfl, hb⟩; refine ⟨_, rfl, ?_⟩; replace BK205 := kb BK205 hb; replace BK206 := kb BK206 hb; replace HB := kB HB hb; (try clear hb); (try clear hb2); (try clear hk); (try clear hi)))
  (try simp only [Act.put, s1, s2, s3])
  go_cut [18] (fun v18 wc => ∃ (kq : Nat) (x18_3 : Bool), v18 = .bool x18_3 ∧ Aside0 (wide_Shl.j0 kq a1 t207 t208 x18_3 a0_0 a0_1 = some (r1, r2, r3)) ∧ Aside0 (kq ≤ k) ∧ Aside0 (wc.heap[gb205]? = some (.cells #[.int .i64 a0_0, .int .u64 a0_1] 24 (0, 0))) ∧ Aside0 (wc.heap[gb206]? = some (.cells #[.int .i64 0, .int .u64 0] 24 (0, 0))) ∧ Aside0 (Below w.heap.size w wc))
  case first =>
    have H := HC4.out; clear HC4
    by_cases c10 : a1 < 0
    · rw [if_pos c10] at H
      have c10b0 : decide (a1 < 0) = true := decide_eq_true c10
      clear c10
      (first | rw [c10b0] | (simp only [i64_w, i32_w]; rw [c10b0]) | skip)
      have H' := Aside0.mk H
      clear H
      go_wp2
      go_meet
      case rel => exact ⟨_, (true), (by first | rfl | (simp; done) | (simp [*]; done)), H', ⟨by first | omega | exact Nat.le_refl _⟩, ⟨kx BK205⟩, ⟨kx BK206⟩, ⟨ky HB⟩⟩
    rw [if_neg c10] at H
    have c10b0 : decide (a1 < 0) = false := decide_eq_false c10
    clear c10
    (first | rw [c10b0] | (simp only [i64_w, i32_w]; rw [c10b0]) | skip)
    have H' := Aside0.mk H
    clear H
    go_wp2
    go_meet
    case rel => exact ⟨_, (decide (a1 ≥ 128)), (by first | rfl | (simp; done) | (simp [*]; done)), H', ⟨by first | omega | exact Nat.le_refl _⟩, ⟨kx BK205⟩, ⟨kx BK206⟩, ⟨ky HB⟩⟩
  case rest =>
    clear HC4; try clear c1; try clear c2; try clear p2; try clear c6; try clear c7; try clear c10; try clear c10b0; try clear hcz8_0; try clear hcz8_1; try clear hfz8_0; try clear hfz8_1
    obtain ⟨kq, x18_3, rfl, HA, HJ3, BK205, BK206, HB⟩ := hcut
    cases kq with
    | zero => exact absurd HA.out (by simp [wide_Shl.j0])
    | succ kj3 =>
      have H := HA.out; clear HA
      simp only [wide_Shl.j0] at H
      by_cases c11 : x18_3 = true
      · subst c11
        have H1 : (if a1 ≥ 0 then ((wide_told.f 0 0 (a0_0 == 0 && (a0_1 == 0))).bind fun bt209 => (some (bt209.1, bt209.2.1, bt209.2.2))) else ((wide_told.f 0 0 false).bind fun bt212 => (some (bt212.1, bt212.2.1, bt212.2.2)))) = some (r1, r2, r3) := by rw [if_pos rfl] at H; exact H
        clear H; have H := H1; clear H1
        by_cases c12 : a1 ≥ 0
        rotate_left
        · rw [if_neg c12] at H
          have c12b0 : decide (0 ≤ a1) = false := decide_eq_false c12
          clear c12
          replace H := Option.bind_eq_some_iff.mp H
          obtain ⟨⟨t212, t213, t214⟩, A180, H⟩ := H
          replace H : (some (t212, t213, t214)) = some (r1, r2, r3) := H
          have A18 := Aside0.mk A180
          clear A180
          simp only [Option.some.injEq, Prod.mk.injEq] at H
          obtain ⟨rfl, rfl, rfl⟩ := H
          go_wp2_with (first | ((with_reducible refine gate_callee (f := 56) rfl ?_); refine goesL_ (some 27) rfl rfl Try.func56 (by kernel_rfl) rfl #[.agg #[.int .i64 0, .int .u64 0], .bool false] rfl (by (try simp only [List.map_toArray, List.map_cons, List.map_nil]); first | done | rfl | (simp only [List.length_drop, List.length_take]; rfl)) ?_; (with_reducible refine (wide_told.calls 0 0 false t212 t213 t214 _ A18.out).mono ?_); rintro e w19 ⟨rfl, hb⟩; refine ⟨_, rfl, ?_⟩; replace BK205 := kb BK205 hb; replace BK206 := kb BK206 hb; replace HB := kB HB hb; (try clear hb); (try clear hb2); (try clear hk); (try clear hi); have hnb20 := NB206_205.out; have hnc20 := NB205_206.out; have hcz21_0 : w19.cell? ⟨gb206, 0, none⟩ = some (.int .i64 0) := kc BK206 0; have hcz21_1 : w19.cell? ⟨gb206, 1, none⟩ = some (.int .u64 0) := kc BK206 1; have hfz21_0 := blk_frozen BK206.out 0; have hfz21_1 := blk_frozen BK206.out 1))
          refine bodyPost_ret (results_ct rfl _ _ gb206 24 #[.int .i64 t212, .int .u64 t213] (0, 0) _ rfl (by (with_reducible repeat (first | refine blk_drewN ?_ _ | refine blk_drew ?_ | refine blk_alloc ?_ _)); refine blk_put (cs := #[.int .i64 t212, .int .u64 0]) ?_ 1 _ rfl; (with_reducible repeat (first | refine blk_drewN ?_ _ | refine blk_drew ?_ | refine blk_alloc ?_ _)); refine blk_put (cs := #[.int .i64 0, .int .u64 0]) ?_ 0 _ rfl; (with_reducible repeat (first | refine blk_drewN ?_ _ | refine blk_drew ?_ | refine blk_alloc ?_ _)); exact BK206.out) Try.underlying24 rfl (by kernel_rfl)) rfl ?_
          exact ⟨by first | rfl | (simp [errW_none, errW_some] <;> rfl) | (simp [*, errW_none, errW_some] <;> rfl), ky HB⟩
        rw [if_pos c12] at H
        have c12b0 : decide (0 ≤ a1) = true := decide_eq_true c12
        clear c12
        replace H := Option.bind_eq_some_iff.mp H
        obtain ⟨⟨t209, t210, t211⟩, A130, H⟩ := H
        replace H : (some (t209, t210, t211)) = some (r1, r2, r3) := H
        have A13 := Aside0.mk A130
        clear A130
        simp only [Option.some.injEq, Prod.mk.injEq] at H
        obtain ⟨rfl, rfl, rfl⟩ := H
        have hnb14 := NB205_206.out; have hnc14 := NB206_205.out
        have hcz15_0 : wc.cell? ⟨gb205, 0, none⟩ = some (.int .i64 a0_0) := kc BK205 0
        have hcz15_1 : wc.cell? ⟨gb205, 1, none⟩ = some (.int .u64 a0_1) := kc BK205 1
        have hfz15_0 := blk_frozen BK205.out 0
        have hfz15_1 := blk_frozen BK205.out 1
        go_wp2_with (first | ((with_reducible refine gate_callee (f := 56) rfl ?_); refine goesL_ (some 27) rfl rfl Try.func56 (by kernel_rfl) rfl #[.agg #[.int .i64 0, .int .u64 0], .bool (a0_0 == 0 && (a0_1 == 0))] rfl (by (try simp only [List.map_toArray, List.map_cons, List.map_nil]); first | done | rfl | (simp only [List.length_drop, List.length_take]; rfl)) ?_; (with_reducible refine (wide_told.calls 0 0 (a0_0 == 0 && (a0_1 == 0)) t209 t210 t211 _ A13.out).mono ?_); rintro e w16 ⟨rfl, hb⟩; refine ⟨_, rfl, ?_⟩; replace BK205 := kb BK205 hb; replace BK206 := kb BK206 hb; replace HB := kB HB hb; (try clear hb); (try clear hb2); (try clear hk); (try clear hi); have hcz17_0 : w16.cell? ⟨gb206, 0, none⟩ = some (.int .i64 0) := kc BK206 0; have hcz17_1 : w16.cell? ⟨gb206, 1, none⟩ = some (.int .u64 0) := kc BK206 1; have hfz17_0 := blk_frozen BK206.out 0; have hfz17_1 := blk_frozen BK206.out 1))
        refine bodyPost_ret (results_ct rfl _ _ gb206 24 #[.int .i64 t209, .int .u64 t210] (0, 0) _ rfl (by (with_reducible repeat (first | refine blk_drewN ?_ _ | refine blk_drew ?_ | refine blk_alloc ?_ _)); refine blk_put (cs := #[.int .i64 t209, .int .u64 0]) ?_ 1 _ rfl; (with_reducible repeat (first | refine blk_drewN ?_ _ | refine blk_drew ?_ | refine blk_alloc ?_ _)); refine blk_put (cs := #[.int .i64 0, .int .u64 0]) ?_ 0 _ rfl; (with_reducible repeat (first | refine blk_drewN ?_ _ | refine blk_drew ?_ | refine blk_alloc ?_ _)); exact BK206.out) Try.underlying24 rfl (by kernel_rfl)) rfl ?_
        exact ⟨by first | rfl | (simp [errW_none, errW_some] <;> rfl) | (simp [*, errW_none, errW_some] <;> rfl), ky HB⟩
      replace c11 := Bool.eq_false_iff.mpr c11
      subst c11
      have H1 : (wide_Shl.l0 kj3 t207 t208 a1 0 a0_0 a0_1) = some (r1, r2, r3) := by rw [if_neg (show ¬ (false = true) by decide)] at H; exact H
      clear H; have H := H1; clear H1
      have H' := Aside0.mk H
      clear H
      go_wp2
      go_loopg [6, 7, 31] kj3 (fun kq v6 v7 v31 w' => ∃ (x6_2 : Int) (x7_2 : Int) (x31_2 : Int) (x207000_2 : Int) (x207001_2 : Int), v6 = .int .u64 x6_2 ∧ v7 = .int .u64 x7_2 ∧ v31 = .int .i64 x31_2 ∧ Aside0 (wide_Shl.l0 kq x6_2 x7_2 a1 x31_2 a0_0 a0_1 = some (r1, r2, r3)) ∧ Aside0 (kq ≤ kj3) ∧ Aside0 (w'.heap[gb205]? = some (.cells #[.int .i64 a0_0, .int .u64 a0_1] 24 (0, 0))) ∧ Aside0 (w'.heap[gb206]? = some (.cells #[.int .i64 x207000_2, .int .u64 x207001_2] 24 (0, 0))) ∧ Aside0 (Below w.heap.size w w'))
      case atStart => exact ⟨(t207), (t208), (0), (0), (0), (by first | rfl | (simp; done) | (simp [*]; done)), (by first | rfl | (simp; done) | (simp [*]; done)), (by first | rfl | (simp; done) | (simp [*]; done)), H', ⟨Nat.le_refl _⟩, ⟨kx BK205⟩, ⟨kx BK206⟩, ⟨ky HB⟩⟩
      case round =>
        clear H'
        try clear c1; try clear c2; try clear p2; try clear c5; try clear c6; try clear c7; try clear c10; try clear c10b0; try clear c11; try clear c12; try clear c12b0; try clear c14; try clear c20; try clear hcz15_0; try clear hcz15_1; try clear hcz17_0; try clear hcz17_1; try clear hcz21_0; try clear hcz21_1; try clear hcz8_0; try clear hcz8_1; try clear hfz15_0; try clear hfz15_1; try clear hfz17_0; try clear hfz17_1; try clear hfz21_0; try clear hfz21_1; try clear hfz8_0; try clear hfz8_1; try clear p2
        obtain ⟨x6_2, x7_2, x31_2, x207000_2, x207001_2, rfl, rfl, rfl, HA, HK2, BK205, BK206, HB⟩ := hrel
        cases gk with
        | zero => exact absurd HA.out (by simp [wide_Shl.l0])
        | succ k2 =>
          have H := HA.out; clear HA
          simp only [wide_Shl.l0] at H
          by_cases c22 : x31_2 < a1
          · rw [if_pos c22] at H
            have c22b0 : decide (x31_2 < a1) = true := decide_eq_true c22
            clear c22
            by_cases c23 : (x6_2 / 9223372036854775808) = 0
            · rw [if_pos c23] at H
              have c23b0 : ((x6_2 / 9223372036854775808) == 0) = true := beq_iff_eq.mpr c23
              have c23b1 : ((x6_2 / 9223372036854775808) != 0) = false := bne_eq_false_iff_eq.mpr c23
              clear c23
              have H' := Aside0.mk H
              clear H
              go_wp2
              go_roundg k2
              case measure => have := HJ3.out; have := HK2.out; omega
              case rel => exact ⟨(Go.bits .or .u64 (IntKind.u64.wrap (x6_2 * 2)) (x7_2 / 9223372036854775808)), (IntKind.u64.wrap (x7_2 * 2)), (wrap64 (x31_2 + 1)), (x207000_2), (x207001_2), (by first | rfl | (simp; done) | (simp [*]; done)), (by first | rfl | (simp; done) | (simp [*]; done)), (by first | rfl | (simp; done) | (simp [*]; done)), H', ⟨by have := HJ3.out; have := HK2.out; omega⟩, ⟨kx BK205⟩, ⟨kx BK206⟩, ⟨ky HB⟩⟩
            rw [if_neg c23] at H
            have c23b0 : ((x6_2 / 9223372036854775808) == 0) = false := beq_eq_false_iff_ne.mpr c23
            have c23b1 : ((x6_2 / 9223372036854775808) != 0) = true := bne_iff_ne.mpr c23
            simp only [Option.some.injEq, Prod.mk.injEq] at H
            obtain ⟨rfl, rfl, rfl⟩ := H
            have hnb24 := NB206_205.out; have hnc24 := NB205_206.out
            have hcz25_0 : wr.cell? ⟨gb206, 0, none⟩ = some (.int .i64 x207000_2) := kc BK206 0
            have hcz25_1 : wr.cell? ⟨gb206, 1, none⟩ = some (.int .u64 x207001_2) := kc BK206 1
            have hfz25_0 := blk_frozen BK206.out 0
            have hfz25_1 := blk_frozen BK206.out 1
            go_wp2
            refine bodyPost_ret (results_ct rfl _ _ gb206 24 #[.int .i64 0, .int .u64 0] (0, 0) _ rfl (by (with_reducible repeat (first | refine blk_drewN ?_ _ | refine blk_drew ?_ | refine blk_alloc ?_ _)); refine blk_put (cs := #[.int .i64 0, .int .u64 x207001_2]) ?_ 1 _ rfl; (with_reducible repeat (first | refine blk_drewN ?_ _ | refine blk_drew ?_ | refine blk_alloc ?_ _)); refine blk_put (cs := #[.int .i64 x207000_2, .int .u64 x207001_2]) ?_ 0 _ rfl; (with_reducible repeat (first | refine blk_drewN ?_ _ | refine blk_drew ?_ | refine blk_alloc ?_ _)); exact BK206.out) Try.underlying24 rfl (by kernel_rfl)) rfl ?_
            exact ⟨by first | rfl | (simp [errW_none, errW_some] <;> rfl) | (simp [*, errW_none, errW_some] <;> rfl), ky HB⟩
          rw [if_neg c22] at H
          have c22b0 : decide (x31_2 < a1) = false := decide_eq_false c22
          clear c22
          replace H := Option.bind_eq_some_iff.mp H
          obtain ⟨⟨t215, t216, t217⟩, A260, H⟩ := H
          replace H : (some (t215, t216, t217)) = some (r1, r2, r3) := H
          have A26 := Aside0.mk A260
          clear A260
          simp only [Option.some.injEq, Prod.mk.injEq] at H
          obtain ⟨rfl, rfl, rfl⟩ := H
          have hnb27 := NB205_206.out; have hnc27 := NB206_205.out
          have hcz28_0 : wr.cell? ⟨gb205, 0, none⟩ = some (.int .i64 a0_0) := kc BK205 0
          have hcz28_1 : wr.cell? ⟨gb205, 1, none⟩ = some (.int .u64 a0_1) := kc BK205 1
          have hfz28_0 := blk_frozen BK205.out 0
          have hfz28_1 := blk_frozen BK205.out 1
          go_wp2_with (first | ((with_reducible refine gate_callee (f := 61) rfl ?_); refine goesL_ (some 50) rfl rfl Try.func61 (by kernel_rfl) rfl #[.int .u64 x6_2, .int .u64 x7_2, .bool (decide (a0_0 < 0))] rfl (by (try simp only [List.map_toArray, List.map_cons, List.map_nil]); first | done | rfl | (simp only [List.length_drop, List.length_take]; rfl)) ?_; (with_reducible refine (wide_signed.calls x6_2 x7_2 (decide (a0_0 < 0)) t215 t216 t217 _ A26.out).mono ?_); rintro e w29 ⟨rfl, hb⟩; refine ⟨_, rfl, ?_⟩; replace BK205 := kb BK205 hb; replace BK206 := kb BK206 hb; replace HB := kB HB hb; (try clear hb); (try clear hb2); (try clear hk); (try clear hi); have hcz30_0 : w29.cell? ⟨gb206, 0, none⟩ = some (.int .i64 x207000_2) := kc BK206 0; have hcz30_1 : w29.cell? ⟨gb206, 1, none⟩ = some (.int .u64 x207001_2) := kc BK206 1; have hfz30_0 := blk_frozen BK206.out 0; have hfz30_1 := blk_frozen BK206.out 1))
          refine bodyPost_ret (results_ct rfl _ _ gb206 24 #[.int .i64 t215, .int .u64 t216] (0, 0) _ rfl (by (with_reducible repeat (first | refine blk_drewN ?_ _ | refine blk_drew ?_ | refine blk_alloc ?_ _)); refine blk_put (cs := #[.int .i64 t215, .int .u64 x207001_2]) ?_ 1 _ rfl; (with_reducible repeat (first | refine blk_drewN ?_ _ | refine blk_drew ?_ | refine blk_alloc ?_ _)); refine blk_put (cs := #[.int .i64 x207000_2, .int .u64 x207001_2]) ?_ 0 _ rfl; (with_reducible repeat (first | refine blk_drewN ?_ _ | refine blk_drew ?_ | refine blk_alloc ?_ _)); exact BK206.out) Try.underlying24 rfl (by kernel_rfl)) rfl ?_
          exact ⟨by first | rfl | (simp [errW_none, errW_some] <;> rfl) | (simp [*, errW_none, errW_some] <;> rfl), ky HB⟩

end Go.Proofs.Ytpjbniihdndlmab.Q
