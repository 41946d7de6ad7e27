-- Printed by wip/pp.sh (a session's own turning of the kit's print) for this seat.
import Derived.Test.YtpjbniihdndlmaaQx0
import Derived.Test.YtpjbniihdndlmaaQx14
namespace Go.Proofs.Ytpjbniihdndlmaa.Q
open Go.RowKit Go.Proofs.YtpjbniihdndlmaaW.PrintWords Go.Proofs.YtpjbniihdndlmaaW.PrintLast Go.Proofs.YtpjbniihdndlmaaW.PrintMore
open Go.Proofs.Ytpjbniihdndlmaa.H
attribute [local go_sem] hq_add64 hq_sub64 hq_not64 add64c_nn sub64c_nn sub64c_le
attribute [local go_sem] max2_int min2_int max_two min_two max_three min_three max_four min_four   -- for this text's walks alone
set_option linter.unusedVariables false
set_option linter.unusedSimpArgs false

/-! ### cobwebref01_Of: function 21 -/
def cobwebref01_Of.l0 : Nat → Int → Bool → List Int → Option (Bool × List Int)
  | 0, _, _, _ => none
  | k + 1, x0, x324000, x324001 => if x0 = 0 then (some (x324000, x324001)) else (if (Int.tmod x0 10000) < 0 then (if x324001.length < 17592186044416 then (cobwebref01_Of.l0 k (wrap64 (Int.tdiv x0 10000)) x324000 (x324001 ++ [wrap64 (-(Int.tmod x0 10000))])) else (none)) else (if x324001.length < 17592186044416 then (cobwebref01_Of.l0 k (wrap64 (Int.tdiv x0 10000)) x324000 (x324001 ++ [Int.tmod x0 10000])) else (none)))
def cobwebref01_Of.f (k : Nat) (a0 : Int) : Option (Bool × List Int) := cobwebref01_Of.l0 k a0 (decide (a0 < 0)) ([] : List Int)
theorem cobwebref01_Of.mono_l : ∀ k, (∀ y0 y1 y2, LeO (cobwebref01_Of.l0 k y0 y1 y2) (cobwebref01_Of.l0 (k + 1) y0 y1 y2))
  | 0 => fun _ _ _ r h => by simp [cobwebref01_Of.l0] at h
  | k + 1 => by
    have ih0 := cobwebref01_Of.mono_l k
    · intro y0 y1 y2
      unfold cobwebref01_Of.l0
      repeat' first
      | (with_reducible exact ih0 _ _ _)
      | (with_reducible exact LeO.refl _)
      | (with_reducible exact LeO.none _)
      | (with_reducible refine LeO.ite ?_ ?_)
      | (with_reducible refine LeO.bind ?_ (fun _ => ?_))
      | exact ih0 _ _ _
      | exact LeO.none _
      | refine LeO.ite ?_ ?_
      | refine LeO.bind ?_ (fun _ => ?_)
theorem cobwebref01_Of.mono : ∀ a0 k, LeO (cobwebref01_Of.f k a0) (cobwebref01_Of.f (k + 1) a0) := by
  intro a0 k
  have ih0 := cobwebref01_Of.mono_l k
  unfold cobwebref01_Of.f
  repeat' first
      | (with_reducible exact ih0 _ _ _)
      | (with_reducible exact LeO.refl _)
      | (with_reducible exact LeO.none _)
      | (with_reducible refine LeO.ite ?_ ?_)
      | (with_reducible refine LeO.bind ?_ (fun _ => ?_))
      | exact ih0 _ _ _
      | exact LeO.none _
      | refine LeO.ite ?_ ?_
      | refine LeO.bind ?_ (fun _ => ?_)
set_option maxHeartbeats 8000000 in
set_option maxRecDepth 100000 in
theorem cobwebref01_Of.calls (k : Nat) (a0 : Int) (r1 : Bool) (r2 : List Int) (w : World) (h : cobwebref01_Of.f k a0 = some (r1, r2)) :
    Calls Try.prog 21 #[.int .i64 a0] w fun e w' => ∃ v1_ : Value, e = .returned (.agg #[.bool r1, v1_]) ∧ Kd.R (Kd.int .i64) 3 w' w.heap.size (fun _ => True) v1_ r2 ∧ Below w.heap.size w w' := by
  have hu32 := Try.underlying32
  have HB := Aside0.mk (Below.refl w.heap.size w)
  have H : (cobwebref01_Of.l0 k a0 (decide (a0 < 0)) ([] : List Int)) = some (r1, r2) := h
  clear h
  have H' := Aside0.mk H
  clear H
  go_enter Try.func21, Try.ntmps21
  go_wp2_with (first | ((with_reducible refine gate_dst (N := 2) rfl ?_); refine box_event ?hg (N := 2) ?hd (cs := #[.bool false, .slice none 0 0]) (t := 32) ?hr ?_; (case hd => rfl); (case hg => rfl); (case hr => first | (go_simp; done) | (go_simp; rfl)); intro gb322 hg w2 hbox hb; have BK322 := Aside0.mk (hbox); have GW322 := kS HB hg; have GE322 := kS HB hg; replace HB := kB HB hb; clear hb hbox hg) | ((with_reducible refine gate_dst (N := 3) rfl ?_); refine box_event ?hg (N := 3) ?hd (cs := #[.bool false, .slice none 0 0]) (t := 32) ?hr ?_; (case hd => rfl); (case hg => rfl); (case hr => first | (go_simp; done) | (go_simp; rfl)); intro gb323 hg w3 hbox hb; have BK323 := Aside0.mk (hbox); have GW323 := kS HB hg; have GE323 := kS HB hg; have NB322_323 := kN BK322 hg; have NB323_322 := kM BK322 hg; replace BK322 := kb BK322 hb; replace HB := kB HB hb; clear hb hbox hg; have hnb4 := NB323_322.out; have hnc4 := NB322_323.out; have hcz5_0 : w3.cell? ⟨gb323, 0, none⟩ = some (.bool false) := kc BK323 0; have hcz5_1 : w3.cell? ⟨gb323, 1, none⟩ = some (.slice none 0 0) := kc BK323 1; have hfz5_0 := blk_frozen BK323.out 0; have hfz5_1 := blk_frozen BK323.out 1))
  go_loopg [0] k (fun kq v0 w' => ∃ (x0_1 : Int) (x324001_1 : List Int) (u324001 : Value), v0 = .int .i64 x0_1 ∧ Aside0 (cobwebref01_Of.l0 kq x0_1 (decide (a0 < 0)) x324001_1 = some (r1, r2)) ∧ Aside0 (kq ≤ k) ∧ Aside0 (Kd.R (Kd.int .i64) 3 w' w.heap.size (fun _ => True) u324001 x324001_1) ∧ Aside0 (w'.heap[gb322]? = some (.cells #[.bool false, (.slice none 0 0)] 32 (0, 0))) ∧ Aside0 (w'.heap[gb323]? = some (.cells #[.bool (decide (a0 < 0)), u324001] 32 (0, 0))) ∧ Aside0 (Below w.heap.size w w'))
  case atStart => exact ⟨(a0), (([] : List Int)), (.slice none 0 0), (by first | rfl | (simp; done) | (simp [*]; done)), H', ⟨Nat.le_refl _⟩, ⟨by first | exact Kd.R_nil _ _ _ _ _ | exact Kd.N_nil _ _ _ _ _ | exact Kd.V_nil _ _ _ _ _ | exact Kd.Q_nil _ _ _ _ _ | exact Kd.S_nil _ _ _ _ _⟩, ⟨kx BK322⟩, ⟨by (with_reducible repeat (first | refine blk_drewN ?_ _ | refine blk_drew ?_ | refine blk_alloc ?_ _)); refine blk_put (cs := #[.bool (decide (a0 < 0)), .slice none 0 0]) ?_ 1 _ rfl; (with_reducible repeat (first | refine blk_drewN ?_ _ | refine blk_drew ?_ | refine blk_alloc ?_ _)); refine blk_put (cs := #[.bool false, .slice none 0 0]) ?_ 0 _ rfl; (with_reducible repeat (first | refine blk_drewN ?_ _ | refine blk_drew ?_ | refine blk_alloc ?_ _)); exact BK323.out⟩, ⟨ky HB⟩⟩
  case round =>
    clear H'
    try clear c2; try clear p2; try clear c4; try clear hcz5_0; try clear hcz5_1; try clear hfz5_0; try clear hfz5_1
    obtain ⟨x0_1, x324001_1, u324001, rfl, HA, HK1, HO_324001, BK322, BK323, HB⟩ := hrel
    cases gk with
    | zero => exact absurd HA.out (by simp [cobwebref01_Of.l0])
    | succ k1 =>
      have H := HA.out; clear HA
      simp only [cobwebref01_Of.l0] at H
      by_cases c6 : x0_1 = 0
      · rw [if_pos c6] at H
        have c6b0 : (x0_1 == 0) = true := beq_iff_eq.mpr c6
        have c6b1 : (x0_1 != 0) = false := bne_eq_false_iff_eq.mpr c6
        clear c6
        simp only [Option.some.injEq, Prod.mk.injEq] at H
        obtain ⟨rfl, rfl⟩ := H
        have hnb7 := NB323_322.out; have hnc7 := NB322_323.out
        have hcz8_0 : wr.cell? ⟨gb323, 0, none⟩ = some (.bool (decide (a0 < 0))) := kc BK323 0
        have hcz8_1 : wr.cell? ⟨gb323, 1, none⟩ = some (u324001) := kc BK323 1
        have hfz8_0 := blk_frozen BK323.out 0
        have hfz8_1 := blk_frozen BK323.out 1
        have hcz9_0 : wr.cell? ⟨gb322, 0, none⟩ = some (.bool false) := kc BK322 0
        have hcz9_1 : wr.cell? ⟨gb322, 1, none⟩ = some (.slice none 0 0) := kc BK322 1
        have hfz9_0 := blk_frozen BK322.out 0
        have hfz9_1 := blk_frozen BK322.out 1
        obtain ⟨Ao10, co10, eo10⟩ := Kd.R_slice HO_324001.out
        subst eo10
        go_wp2
        refine bodyPost_ret (results_cell_row rfl _ _ gb322 32 #[.bool (decide (a0 < 0)), .slice Ao10 x324001_1.length co10] (0, 0) _ rfl (by (with_reducible repeat (first | refine blk_drewN ?_ _ | refine blk_drew ?_ | refine blk_alloc ?_ _)); refine blk_put (cs := #[.bool (decide (a0 < 0)), .slice none 0 0]) ?_ 1 _ rfl; (with_reducible repeat (first | refine blk_drewN ?_ _ | refine blk_drew ?_ | refine blk_alloc ?_ _)); refine blk_put (cs := #[.bool false, .slice none 0 0]) ?_ 0 _ rfl; (with_reducible repeat (first | refine blk_drewN ?_ _ | refine blk_drew ?_ | refine blk_alloc ?_ _)); exact BK322.out) Try.underlying32 rfl (by kernel_rfl)) rfl ?_
        exact ⟨_, by first | rfl | (simp [errW_none, errW_some] <;> rfl) | (simp [*, errW_none, errW_some] <;> rfl), by (with_reducible repeat (first | apply Kd.R_alloc | apply Kd.R_drewN | apply Kd.R_drew)); exact Kd.R_mono (Kd.R_far (p := ⟨gb322, 1, none⟩) (Kd.R_far (p := ⟨gb322, 0, none⟩) (Kd.R_types HO_324001.out BK322.out (by decide)) (fun _ hk => hk.2) (.bool (decide (a0 < 0)))) (fun _ hk => hk.2) (.slice Ao10 x324001_1.length co10)) (fun _ hk => trivial), ky HB⟩
      rw [if_neg c6] at H
      have c6b0 : (x0_1 == 0) = false := beq_eq_false_iff_ne.mpr c6
      have c6b1 : (x0_1 != 0) = true := bne_iff_ne.mpr c6
      by_cases c11 : (Int.tmod x0_1 10000) < 0
      rotate_left
      · rw [if_neg c11] at H
        have c11b0 : decide ((Int.tmod x0_1 10000) < 0) = false := decide_eq_false c11
        clear c11
        by_cases c18 : x324001_1.length < 17592186044416
        rotate_left
        · rw [if_neg c18] at H
          exact absurd H (by simp)

        rw [if_pos c18] at H
        have LMc18 := Aside0.mk c18
        clear c18
        obtain ⟨y327, hy327⟩ : ∃ y_ : List Int, y_ = (x324001_1 ++ [Int.tmod x0_1 10000]) := ⟨_, rfl⟩
        replace H : (cobwebref01_Of.l0 k1 (wrap64 (Int.tdiv x0_1 10000)) (decide (a0 < 0)) y327) = some (r1, r2) := by first | (rw [hy327]; with_reducible exact H) | (have H2_ := (Option.bind_some _ _).symm.trans H; rw [hy327]; with_reducible exact H2_) | (have H2_ := (Option.bind_some _ _).symm.trans H; with_reducible exact H2_) | with_reducible exact H | (rw [hy327]; exact H) | exact H
        have Ny327 := Aside0.mk hy327
        clear hy327
        have H' := Aside0.mk H
        clear H; have hnb19 := NB323_322.out; have hnc19 := NB322_323.out
        have hcz20_0 : wr.cell? ⟨gb323, 0, none⟩ = some (.bool (decide (a0 < 0))) := kc BK323 0
        have hcz20_1 : wr.cell? ⟨gb323, 1, none⟩ = some (u324001) := kc BK323 1
        have hfz20_0 := blk_frozen BK323.out 0
        have hfz20_1 := blk_frozen BK323.out 1
        go_wp2_with (first | ((with_reducible refine gate_builtin (b := .append) (xs := #[.tmp 17, .tmp 19]) rfl ?_); at_builtin; refine Kd.R_append (Kd.int .i64) (w0 := w) w.heap.size rfl (.tmp 17) (.tmp 19) 30 3 (.int .i64 0) 8 rfl Try.underlying30 info3 rfl (by decide) (by omega) u324001 x324001_1 (Int.tmod x0_1 10000) [.int .i64 (Int.tmod x0_1 10000)] (fun _ => True) (fun _ => False) rfl rfl ?aP (fun _ hk => hk.elim) ?aF ?aO ?aB ?aS ?aL ?_; (case aP => exact rfl); (case aB => exact (ky HB)); (case aF => exact (fun _ _ => trivial)); (case aO => exact (kr HO_324001)); (case aS => exact (below_size (ky HB))); (case aL => have := LMc18.out; omega); intro v328 w21 ho hb hg hat; rw [← Ny327.out] at ho; have n0_ := Aside0.mk (blk_grown (g := gb322) (o := .cells #[.bool false, .slice none 0 0] 32 (0, 0)) (kx BK322) hg (Kd.R_ne HO_324001.out BK322.out (by decide))); have n1_ := Aside0.mk (blk_grown (g := gb323) (o := .cells #[.bool (decide (a0 < 0)), u324001] 32 (0, 0)) (kx BK323) hg (Kd.R_ne HO_324001.out BK323.out (by decide))); have n2_ := Aside0.mk (hb); have n3_ := Aside0.mk (ho); clear BK322; clear BK323; clear HB; clear HO_324001; have BK322 := n0_; have BK323 := n1_; have HB := n2_; have HO329 := n3_; clear n0_ n1_ n2_ n3_; clear ho hb hg hat; obtain ⟨Ao22, co22, eo22⟩ := Kd.R_slice HO329.out; subst eo22; have hcz23_0 : w21.cell? ⟨gb323, 0, none⟩ = some (.bool (decide (a0 < 0))) := kc BK323 0; have hcz23_1 : w21.cell? ⟨gb323, 1, none⟩ = some (u324001) := kc BK323 1; have hfz23_0 := blk_frozen BK323.out 0; have hfz23_1 := blk_frozen BK323.out 1))
        go_roundg k1
        case measure => have := HK1.out; omega
        case rel => exact ⟨(wrap64 (Int.tdiv x0_1 10000)), (y327), (.slice Ao22 y327.length co22), (by first | rfl | (simp; done) | (simp [*]; done)), H', ⟨by have := HK1.out; omega⟩, ⟨by (with_reducible repeat (first | apply Kd.R_alloc | apply Kd.R_drewN | apply Kd.R_drew)); exact Kd.R_mono (Kd.R_far (p := ⟨gb323, 1, none⟩) (Kd.R_types HO329.out BK323.out (by decide)) (fun _ hk => hk.2) (.slice Ao22 y327.length co22)) (fun _ hk => trivial)⟩, ⟨kx BK322⟩, ⟨by (with_reducible repeat (first | refine blk_drewN ?_ _ | refine blk_drew ?_ | refine blk_alloc ?_ _)); refine blk_put (cs := #[.bool (decide (a0 < 0)), u324001]) ?_ 1 _ rfl; (with_reducible repeat (first | refine blk_drewN ?_ _ | refine blk_drew ?_ | refine blk_alloc ?_ _)); exact BK323.out⟩, ⟨ky HB⟩⟩
      rw [if_pos c11] at H
      have c11b0 : decide ((Int.tmod x0_1 10000) < 0) = true := decide_eq_true c11
      clear c11
      by_cases c12 : x324001_1.length < 17592186044416
      rotate_left
      · rw [if_neg c12] at H
        exact absurd H (by simp)
      rw [if_pos c12] at H
      have LMc12 := Aside0.mk c12
      clear c12
      obtain ⟨y324, hy324⟩ : ∃ y_ : List Int, y_ = (x324001_1 ++ [wrap64 (-(Int.tmod x0_1 10000))]) := ⟨_, rfl⟩
      replace H : (cobwebref01_Of.l0 k1 (wrap64 (Int.tdiv x0_1 10000)) (decide (a0 < 0)) y324) = some (r1, r2) := by first | (rw [hy324]; with_reducible exact H) | (have H2_ := (Option.bind_some _ _).symm.trans H; rw [hy324]; with_reducible exact H2_) | (have H2_ := (Option.bind_some _ _).symm.trans H; with_reducible exact H2_) | with_reducible exact H | (rw [hy324]; exact H) | exact H
      have Ny324 := Aside0.mk hy324
      clear hy324
      have H' := Aside0.mk H
      clear H; have hnb13 := NB323_322.out; have hnc13 := NB322_323.out
      have hcz14_0 : wr.cell? ⟨gb323, 0, none⟩ = some (.bool (decide (a0 < 0))) := kc BK323 0
      have hcz14_1 : wr.cell? ⟨gb323, 1, none⟩ = some (u324001) := kc BK323 1
      have hfz14_0 := blk_frozen BK323.out 0
      have hfz14_1 := blk_frozen BK323.out 1
      go_wp2_with (first | ((with_reducible refine gate_builtin (b := .append) (xs := #[.tmp 17, .tmp 19]) rfl ?_); at_builtin; refine Kd.R_append (Kd.int .i64) (w0 := w) w.heap.size rfl (.tmp 17) (.tmp 19) 30 3 (.int .i64 0) 8 rfl Try.underlying30 info3 rfl (by decide) (by omega) u324001 x324001_1 (wrap64 (-(Int.tmod x0_1 10000))) [.int .i64 (wrap64 (-(Int.tmod x0_1 10000)))] (fun _ => True) (fun _ => False) rfl rfl ?aP (fun _ hk => hk.elim) ?aF ?aO ?aB ?aS ?aL ?_; (case aP => exact rfl); (case aB => exact (ky HB)); (case aF => exact (fun _ _ => trivial)); (case aO => exact (kr HO_324001)); (case aS => exact (below_size (ky HB))); (case aL => have := LMc12.out; omega); intro v325 w15 ho hb hg hat; rw [← Ny324.out] at ho; have n0_ := Aside0.mk (blk_grown (g := gb322) (o := .cells #[.bool false, .slice none 0 0] 32 (0, 0)) (kx BK322) hg (Kd.R_ne HO_324001.out BK322.out (by decide))); have n1_ := Aside0.mk (blk_grown (g := gb323) (o := .cells #[.bool (decide (a0 < 0)), u324001] 32 (0, 0)) (kx BK323) hg (Kd.R_ne HO_324001.out BK323.out (by decide))); have n2_ := Aside0.mk (hb); have n3_ := Aside0.mk (ho); clear BK322; clear BK323; clear HB; clear HO_324001; have BK322 := n0_; have BK323 := n1_; have HB := n2_; have HO326 := n3_; clear n0_ n1_ n2_ n3_; clear ho hb hg hat; obtain ⟨Ao16, co16, eo16⟩ := Kd.R_slice HO326.out; subst eo16; have hcz17_0 : w15.cell? ⟨gb323, 0, none⟩ = some (.bool (decide (a0 < 0))) := kc BK323 0; have hcz17_1 : w15.cell? ⟨gb323, 1, none⟩ = some (u324001) := kc BK323 1; have hfz17_0 := blk_frozen BK323.out 0; have hfz17_1 := blk_frozen BK323.out 1))
      go_roundg k1
      case measure => have := HK1.out; omega
      case rel => exact ⟨(wrap64 (Int.tdiv x0_1 10000)), (y324), (.slice Ao16 y324.length co16), (by first | rfl | (simp; done) | (simp [*]; done)), H', ⟨by have := HK1.out; omega⟩, ⟨by (with_reducible repeat (first | apply Kd.R_alloc | apply Kd.R_drewN | apply Kd.R_drew)); exact Kd.R_mono (Kd.R_far (p := ⟨gb323, 1, none⟩) (Kd.R_types HO326.out BK323.out (by decide)) (fun _ hk => hk.2) (.slice Ao16 y324.length co16)) (fun _ hk => trivial)⟩, ⟨kx BK322⟩, ⟨by (with_reducible repeat (first | refine blk_drewN ?_ _ | refine blk_drew ?_ | refine blk_alloc ?_ _)); refine blk_put (cs := #[.bool (decide (a0 < 0)), u324001]) ?_ 1 _ rfl; (with_reducible repeat (first | refine blk_drewN ?_ _ | refine blk_drew ?_ | refine blk_alloc ?_ _)); exact BK323.out⟩, ⟨ky HB⟩⟩
/-! ### cobwebref01_size: function 63 -/
def cobwebref01_size.l0 : Nat → List Int → List Int → Int → Option (Int)
  | 0, _, _, _ => none
  | k + 1, x0, x1, x5 => if x5 ≥ 0 then ((cobwebref01_digit.f x0 x5).bind fun t330 => ((cobwebref01_digit.f x1 x5).bind fun t331 => (if t330 < t331 then (some (-1)) else ((cobwebref01_digit.f x0 x5).bind fun t332 => ((cobwebref01_digit.f x1 x5).bind fun t333 => (if t332 > t333 then (some 1) else (cobwebref01_size.l0 k x0 x1 (wrap64 (x5 - 1))))))))) else (some 0)
def cobwebref01_size.f (k : Nat) (l0 : List Int) (l1 : List Int) : Option (Int) := cobwebref01_size.l0 k l0 l1 (wrap64 ((mx (l0.length : Int) (l1.length : Int)) - 1))
theorem cobwebref01_size.mono_l : ∀ k, (∀ y0 y1 y2, LeO (cobwebref01_size.l0 k y0 y1 y2) (cobwebref01_size.l0 (k + 1) y0 y1 y2))
  | 0 => fun _ _ _ r h => by simp [cobwebref01_size.l0] at h
  | k + 1 => by
    have ih0 := cobwebref01_size.mono_l k
    · intro y0 y1 y2
      unfold cobwebref01_size.l0
      repeat' first
      | (with_reducible exact ih0 _ _ _)
      | (with_reducible exact LeO.refl _)
      | (with_reducible exact LeO.none _)
      | (with_reducible refine LeO.ite ?_ ?_)
      | (with_reducible refine LeO.bind ?_ (fun _ => ?_))
      | exact ih0 _ _ _
      | exact LeO.none _
      | refine LeO.ite ?_ ?_
      | refine LeO.bind ?_ (fun _ => ?_)
theorem cobwebref01_size.mono : ∀ a0 a1 k, LeO (cobwebref01_size.f k a0 a1) (cobwebref01_size.f (k + 1) a0 a1) := by
  intro a0 a1 k
  have ih0 := cobwebref01_size.mono_l k
  unfold cobwebref01_size.f
  repeat' first
      | (with_reducible exact ih0 _ _ _)
      | (with_reducible exact LeO.refl _)
      | (with_reducible exact LeO.none _)
      | (with_reducible refine LeO.ite ?_ ?_)
      | (with_reducible refine LeO.bind ?_ (fun _ => ?_))
      | exact ih0 _ _ _
      | exact LeO.none _
      | refine LeO.ite ?_ ?_
      | refine LeO.bind ?_ (fun _ => ?_)
set_option maxHeartbeats 8000000 in
set_option maxRecDepth 100000 in
theorem cobwebref01_size.calls (k : Nat) (A0 : Option Addr) (c0 : Nat) (l0 : List Int) (A1 : Option Addr) (c1 : Nat) (l1 : List Int) (r : Int) (w : World) (hr0 : Kd.C (Kd.int .i64) w A0 l0.length l0) (hc0 : l0.length ≤ c0) (hr1 : Kd.C (Kd.int .i64) w A1 l1.length l1) (hc1 : l1.length ≤ c1) (h : cobwebref01_size.f k l0 l1 = some r) :
    Calls Try.prog 63 #[.slice A0 l0.length c0, .slice A1 l1.length c1] w fun e w' => e = .returned (.int .i64 r) ∧ Below w.heap.size w w' := by
  have HR0 := Aside0.mk hr0
  have HC0 := Aside0.mk hc0
  clear hr0 hc0
  have HR1 := Aside0.mk hr1
  have HC1 := Aside0.mk hc1
  clear hr1 hc1
  have HB := Aside0.mk (Below.refl w.heap.size w)
  have H : (cobwebref01_size.l0 k l0 l1 (wrap64 ((mx (l0.length : Int) (l1.length : Int)) - 1))) = some r := h
  clear h
  obtain ⟨ji3, hji3⟩ : ∃ j_ : Int, (mx (l0.length : Int) (l1.length : Int)) = j_ := ⟨_, rfl⟩
  replace H : (cobwebref01_size.l0 k l0 l1 (wrap64 ((ji3) - 1))) = some r := by first | (rw [hji3] at H; exact H) | (simp only [hji3] at H ⊢; exact H)
  (try (have hji3l : 0 ≤ ji3 := by (rw [← hji3]; unfold mx; (repeat' split) <;> omega)))
  (try (have hji3m : 0 ≤ ji3 := by omega))
  have hji3n_ : (if l0.length < l1.length then (l1.length : Int) else (l0.length : Int)) = ji3 := by (simp only [← Int.ofNat_lt]; exact hji3)
  have hji3_ : (if (l0.length : Int) < (l1.length : Int) then (l1.length : Int) else (l0.length : Int)) = ji3 := hji3
  have H' := Aside0.mk H
  clear H
  go_enter Try.func63, Try.ntmps63
  go_wp2
  go_loopg [5] k (fun kq v5 w' => ∃ (x5_1 : Int), v5 = .int .i64 x5_1 ∧ Aside0 (cobwebref01_size.l0 kq l0 l1 x5_1 = some r) ∧ Aside0 (kq ≤ k) ∧ Aside0 (Below w.heap.size w w'))
  case atStart => exact ⟨(wrap64 ((ji3) - 1)), (by first | rfl | (simp; done) | (simp only [← hji3] <;> (first | rfl | simp)) | (simp [*]; done)), H', ⟨Nat.le_refl _⟩, ⟨ky HB⟩⟩
  case round =>
    clear H'
    try clear c1; try clear p2
    obtain ⟨x5_1, rfl, HA, HK1, HB⟩ := hrel
    cases gk with
    | zero => exact absurd HA.out (by simp [cobwebref01_size.l0])
    | succ k1 =>
      have H := HA.out; clear HA
      simp only [cobwebref01_size.l0] at H
      by_cases c4 : x5_1 ≥ 0
      rotate_left
      · rw [if_neg c4] at H
        have c4b0 : decide (0 ≤ x5_1) = false := decide_eq_false c4
        clear c4
        obtain rfl := Option.some.inj H
        go_wp2
        go_ret
        exact ⟨by first | rfl | (simp [errW_none, errW_some] <;> rfl) | (simp only [← hji3]; first | rfl | (simp [errW_none, errW_some] <;> rfl)) | (simp [*, errW_none, errW_some] <;> rfl), ky HB⟩

      rw [if_pos c4] at H
      have c4b0 : decide (0 ≤ x5_1) = true := decide_eq_true c4
      clear c4
      replace H := Option.bind_eq_some_iff.mp H
      obtain ⟨t330, A50, H⟩ := H
      replace H : ((cobwebref01_digit.f l1 x5_1).bind fun t331 => (if t330 < t331 then (some (-1)) else ((cobwebref01_digit.f l0 x5_1).bind fun t332 => ((cobwebref01_digit.f l1 x5_1).bind fun t333 => (if t332 > t333 then (some 1) else (cobwebref01_size.l0 k1 l0 l1 (wrap64 (x5_1 - 1)))))))) = some r := H
      have A5 := Aside0.mk A50
      clear A50
      replace H := Option.bind_eq_some_iff.mp H
      obtain ⟨t331, A60, H⟩ := H
      replace H : (if t330 < t331 then (some (-1)) else ((cobwebref01_digit.f l0 x5_1).bind fun t332 => ((cobwebref01_digit.f l1 x5_1).bind fun t333 => (if t332 > t333 then (some 1) else (cobwebref01_size.l0 k1 l0 l1 (wrap64 (x5_1 - 1))))))) = some r := H
      have A6 := Aside0.mk A60
      clear A60
      by_cases c7 : t330 < t331
      · rw [if_pos c7] at H
        have c7b0 : decide (t330 < t331) = true := decide_eq_true c7
        clear c7
        obtain rfl := Option.some.inj H
        go_wp2_with (first | ((with_reducible refine gate_callee (f := 55) rfl ?_); refine goesL_ (some 18) rfl rfl Try.func55 (by kernel_rfl) rfl #[.slice A0 l0.length c0, .int .i64 x5_1] rfl (by (try simp only [List.map_toArray, List.map_cons, List.map_nil]); first | done | rfl | (simp only [List.length_drop, List.length_take]; rfl)) ?_; (with_reducible refine (cobwebref01_digit.calls _ _ l0 x5_1 t330 _ ?side1 ?side2 A5.out).mono ?_); (case side1 => repeat (first | exact (Kd.C_below HR0.out HB.out) | (with_reducible refine Kd.C_alloc ?_ _) | (with_reducible refine Kd.C_drewN ?_ _) | (with_reducible refine Kd.C_drew ?_))); (case side2 => exact HC0.out); rintro e w' ⟨rfl, ⟨nd, rfl⟩⟩; refine ⟨_, rfl, ?_⟩) | ((with_reducible refine gate_callee (f := 55) rfl ?_); refine goesL_ (some 21) rfl rfl Try.func55 (by kernel_rfl) rfl #[.slice A1 l1.length c1, .int .i64 x5_1] rfl (by (try simp only [List.map_toArray, List.map_cons, List.map_nil]); first | done | rfl | (simp only [List.length_drop, List.length_take]; rfl)) ?_; (with_reducible refine (cobwebref01_digit.calls _ _ l1 x5_1 t331 _ ?side1 ?side2 A6.out).mono ?_); (case side1 => repeat (first | exact (Kd.C_below HR1.out (ky HB)) | (with_reducible refine Kd.C_alloc ?_ _) | (with_reducible refine Kd.C_drewN ?_ _) | (with_reducible refine Kd.C_drew ?_))); (case side2 => exact HC1.out); rintro e w' ⟨rfl, ⟨nd, rfl⟩⟩; refine ⟨_, rfl, ?_⟩))
        go_ret
        exact ⟨by first | rfl | (simp [errW_none, errW_some] <;> rfl) | (simp only [← hji3]; first | rfl | (simp [errW_none, errW_some] <;> rfl)) | (simp [*, errW_none, errW_some] <;> rfl), ky HB⟩
      rw [if_neg c7] at H
      have c7b0 : decide (t330 < t331) = false := decide_eq_false c7
      clear c7
      replace H := Option.bind_eq_some_iff.mp H
      obtain ⟨t332, A80, H⟩ := H
      replace H : ((cobwebref01_digit.f l1 x5_1).bind fun t333 => (if t332 > t333 then (some 1) else (cobwebref01_size.l0 k1 l0 l1 (wrap64 (x5_1 - 1))))) = some r := H
      have A8 := Aside0.mk A80
      clear A80
      replace H := Option.bind_eq_some_iff.mp H
      obtain ⟨t333, A90, H⟩ := H
      replace H : (if t332 > t333 then (some 1) else (cobwebref01_size.l0 k1 l0 l1 (wrap64 (x5_1 - 1)))) = some r := H
      have A9 := Aside0.mk A90
      clear A90
      by_cases c10 : t332 > t333
      · rw [if_pos c10] at H
        have c10b0 : decide (t333 < t332) = true := decide_eq_true c10
        clear c10
        obtain rfl := Option.some.inj H
        go_wp2_with (first | ((with_reducible refine gate_callee (f := 55) rfl ?_); refine goesL_ (some 18) rfl rfl Try.func55 (by kernel_rfl) rfl #[.slice A0 l0.length c0, .int .i64 x5_1] rfl (by (try simp only [List.map_toArray, List.map_cons, List.map_nil]); first | done | rfl | (simp only [List.length_drop, List.length_take]; rfl)) ?_; (with_reducible refine (cobwebref01_digit.calls _ _ l0 x5_1 t330 _ ?side1 ?side2 A5.out).mono ?_); (case side1 => repeat (first | exact (Kd.C_below HR0.out HB.out) | (with_reducible refine Kd.C_alloc ?_ _) | (with_reducible refine Kd.C_drewN ?_ _) | (with_reducible refine Kd.C_drew ?_))); (case side2 => exact HC0.out); rintro e w' ⟨rfl, ⟨nd, rfl⟩⟩; refine ⟨_, rfl, ?_⟩) | ((with_reducible refine gate_callee (f := 55) rfl ?_); refine goesL_ (some 21) rfl rfl Try.func55 (by kernel_rfl) rfl #[.slice A1 l1.length c1, .int .i64 x5_1] rfl (by (try simp only [List.map_toArray, List.map_cons, List.map_nil]); first | done | rfl | (simp only [List.length_drop, List.length_take]; rfl)) ?_; (with_reducible refine (cobwebref01_digit.calls _ _ l1 x5_1 t331 _ ?side1 ?side2 A6.out).mono ?_); (case side1 => repeat (first | exact (Kd.C_below HR1.out (ky HB)) | (with_reducible refine Kd.C_alloc ?_ _) | (with_reducible refine Kd.C_drewN ?_ _) | (with_reducible refine Kd.C_drew ?_))); (case side2 => exact HC1.out); rintro e w' ⟨rfl, ⟨nd, rfl⟩⟩; refine ⟨_, rfl, ?_⟩) | ((with_reducible refine gate_callee (f := 55) rfl ?_); refine goesL_ (some 25) rfl rfl Try.func55 (by kernel_rfl) rfl #[.slice A0 l0.length c0, .int .i64 x5_1] rfl (by (try simp only [List.map_toArray, List.map_cons, List.map_nil]); first | done | rfl | (simp only [List.length_drop, List.length_take]; rfl)) ?_; (with_reducible refine (cobwebref01_digit.calls _ _ l0 x5_1 t332 _ ?side1 ?side2 A8.out).mono ?_); (case side1 => repeat (first | exact (Kd.C_below HR0.out (ky HB)) | (with_reducible refine Kd.C_alloc ?_ _) | (with_reducible refine Kd.C_drewN ?_ _) | (with_reducible refine Kd.C_drew ?_))); (case side2 => exact HC0.out); rintro e w' ⟨rfl, ⟨nd, rfl⟩⟩; refine ⟨_, rfl, ?_⟩) | ((with_reducible refine gate_callee (f := 55) rfl ?_); refine goesL_ (some 28) rfl rfl Try.func55 (by kernel_rfl) rfl #[.slice A1 l1.length c1, .int .i64 x5_1] rfl (by (try simp only [List.map_toArray, List.map_cons, List.map_nil]); first | done | rfl | (simp only [List.length_drop, List.length_take]; rfl)) ?_; (with_reducible refine (cobwebref01_digit.calls _ _ l1 x5_1 t333 _ ?side1 ?side2 A9.out).mono ?_); (case side1 => repeat (first | exact (Kd.C_below HR1.out (ky HB)) | (with_reducible refine Kd.C_alloc ?_ _) | (with_reducible refine Kd.C_drewN ?_ _) | (with_reducible refine Kd.C_drew ?_))); (case side2 => exact HC1.out); rintro e w' ⟨rfl, ⟨nd, rfl⟩⟩; refine ⟨_, rfl, ?_⟩))
        go_ret
        exact ⟨by first | rfl | (simp [errW_none, errW_some] <;> rfl) | (simp only [← hji3]; first | rfl | (simp [errW_none, errW_some] <;> rfl)) | (simp [*, errW_none, errW_some] <;> rfl), ky HB⟩
      rw [if_neg c10] at H
      have c10b0 : decide (t333 < t332) = false := decide_eq_false c10
      clear c10
      have H' := Aside0.mk H
      clear H
      go_wp2_with (first | ((with_reducible refine gate_callee (f := 55) rfl ?_); refine goesL_ (some 18) rfl rfl Try.func55 (by kernel_rfl) rfl #[.slice A0 l0.length c0, .int .i64 x5_1] rfl (by (try simp only [List.map_toArray, List.map_cons, List.map_nil]); first | done | rfl | (simp only [List.length_drop, List.length_take]; rfl)) ?_; (with_reducible refine (cobwebref01_digit.calls _ _ l0 x5_1 t330 _ ?side1 ?side2 A5.out).mono ?_); (case side1 => repeat (first | exact (Kd.C_below HR0.out HB.out) | (with_reducible refine Kd.C_alloc ?_ _) | (with_reducible refine Kd.C_drewN ?_ _) | (with_reducible refine Kd.C_drew ?_))); (case side2 => exact HC0.out); rintro e w' ⟨rfl, ⟨nd, rfl⟩⟩; refine ⟨_, rfl, ?_⟩) | ((with_reducible refine gate_callee (f := 55) rfl ?_); refine goesL_ (some 21) rfl rfl Try.func55 (by kernel_rfl) rfl #[.slice A1 l1.length c1, .int .i64 x5_1] rfl (by (try simp only [List.map_toArray, List.map_cons, List.map_nil]); first | done | rfl | (simp only [List.length_drop, List.length_take]; rfl)) ?_; (with_reducible refine (cobwebref01_digit.calls _ _ l1 x5_1 t331 _ ?side1 ?side2 A6.out).mono ?_); (case side1 => repeat (first | exact (Kd.C_below HR1.out (ky HB)) | (with_reducible refine Kd.C_alloc ?_ _) | (with_reducible refine Kd.C_drewN ?_ _) | (with_reducible refine Kd.C_drew ?_))); (case side2 => exact HC1.out); rintro e w' ⟨rfl, ⟨nd, rfl⟩⟩; refine ⟨_, rfl, ?_⟩) | ((with_reducible refine gate_callee (f := 55) rfl ?_); refine goesL_ (some 25) rfl rfl Try.func55 (by kernel_rfl) rfl #[.slice A0 l0.length c0, .int .i64 x5_1] rfl (by (try simp only [List.map_toArray, List.map_cons, List.map_nil]); first | done | rfl | (simp only [List.length_drop, List.length_take]; rfl)) ?_; (with_reducible refine (cobwebref01_digit.calls _ _ l0 x5_1 t332 _ ?side1 ?side2 A8.out).mono ?_); (case side1 => repeat (first | exact (Kd.C_below HR0.out (ky HB)) | (with_reducible refine Kd.C_alloc ?_ _) | (with_reducible refine Kd.C_drewN ?_ _) | (with_reducible refine Kd.C_drew ?_))); (case side2 => exact HC0.out); rintro e w' ⟨rfl, ⟨nd, rfl⟩⟩; refine ⟨_, rfl, ?_⟩) | ((with_reducible refine gate_callee (f := 55) rfl ?_); refine goesL_ (some 28) rfl rfl Try.func55 (by kernel_rfl) rfl #[.slice A1 l1.length c1, .int .i64 x5_1] rfl (by (try simp only [List.map_toArray, List.map_cons, List.map_nil]); first | done | rfl | (simp only [List.length_drop, List.length_take]; rfl)) ?_; (with_reducible refine (cobwebref01_digit.calls _ _ l1 x5_1 t333 _ ?side1 ?side2 A9.out).mono ?_); (case side1 => repeat (first | exact (Kd.C_below HR1.out (ky HB)) | (with_reducible refine Kd.C_alloc ?_ _) | (with_reducible refine Kd.C_drewN ?_ _) | (with_reducible refine Kd.C_drew ?_))); (case side2 => exact HC1.out); rintro e w' ⟨rfl, ⟨nd, rfl⟩⟩; refine ⟨_, rfl, ?_⟩))
      go_roundg k1
      case measure => have := HK1.out; omega
      case rel => exact ⟨(wrap64 (x5_1 - 1)), (by first | rfl | (simp; done) | (simp [*]; done)), H', ⟨by have := HK1.out; omega⟩, ⟨ky HB⟩⟩
end Go.Proofs.Ytpjbniihdndlmaa.Q
