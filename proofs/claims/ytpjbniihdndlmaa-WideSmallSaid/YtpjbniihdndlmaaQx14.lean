-- Printed by wip/pp.sh (a session's own turning of the kit's print) for this seat.
import Derived.Test.YtpjbniihdndlmaaQx0
namespace Go.Proofs.Ytpjbniihdndlmaa.Q
open Go.RowKit Go.Proofs.YtpjbniihdndlmaaW.PrintWords Go.Proofs.YtpjbniihdndlmaaW.PrintLast Go.Proofs.YtpjbniihdndlmaaW.PrintMore
open Go.Proofs.Ytpjbniihdndlmaa.H
attribute [local go_sem] hq_add64 hq_sub64 hq_not64 add64c_nn sub64c_nn sub64c_le
attribute [local go_sem] max2_int min2_int max_two min_two max_three min_three max_four min_four   -- for this text's walks alone
set_option linter.unusedVariables false
set_option linter.unusedSimpArgs false

/-! ### cobwebref01_digit: function 55 -/
def cobwebref01_digit.f (l0 : List Int) (a1 : Int) : Option (Int) := if a1 < (l0.length : Int) then (if 0 ≤ a1 then (some (rd l0 a1)) else (none)) else (some 0)
set_option maxHeartbeats 8000000 in
set_option maxRecDepth 100000 in
theorem cobwebref01_digit.calls (A0 : Option Addr) (c0 : Nat) (l0 : List Int) (a1 : Int) (r : Int) (w : World) (hr0 : Kd.C (Kd.int .i64) w A0 l0.length l0) (hc0 : l0.length ≤ c0) (h : cobwebref01_digit.f l0 a1 = some r) :
    Calls Try.prog 55 #[.slice A0 l0.length c0, .int .i64 a1] w fun e w' => e = .returned (.int .i64 r) ∧ Drawn0 w w' := by
  have HR0 := Aside0.mk hr0
  have HC0 := Aside0.mk hc0
  clear hr0 hc0
  have H : (if a1 < (l0.length : Int) then (if 0 ≤ a1 then (some (rd l0 a1)) else (none)) else (some 0)) = some r := h
  clear h
  by_cases c3 : a1 < (l0.length : Int)
  rotate_left
  · rw [if_neg c3] at H
    have c3b0 : decide (a1 < (l0.length : Int)) = false := decide_eq_false c3
    clear c3
    obtain rfl := Option.some.inj H
    go_enter Try.func55, Try.ntmps55
    go_wp2
    go_ret
    exact ⟨by first | rfl | (simp; done) | (simp [*]; done), by repeat (first | exact Drawn0.refl _ | apply Drawn0.step)⟩

  rw [if_pos c3] at H
  have c3b0 : decide (a1 < (l0.length : Int)) = true := decide_eq_true c3
  clear c3
  by_cases c4 : 0 ≤ a1
  rotate_left
  · rw [if_neg c4] at H
    exact absurd H (by simp)
  rw [if_pos c4] at H
  have c4b0 : decide (0 ≤ a1) = true := decide_eq_true c4
  clear c4
  obtain rfl := Option.some.inj H
  have p297 : 0 ≤ (a1 : Int) := of_decide_eq_true (by first | (with_reducible assumption) | assumption)
  have q297 : a1 < (l0.length : Int) := of_decide_eq_true (by first | (with_reducible assumption) | assumption)
  obtain ⟨ad297, e297, hx297_0⟩ := Kd.at_int HR0.out a1 p297 q297
  cases e297
  replace p297 := eq_true p297
  replace q297 := eq_true q297
  go_enter Try.func55, Try.ntmps55
  go_wp2
  go_ret
  exact ⟨by first | rfl | (simp; done) | (simp [*]; done), by repeat (first | exact Drawn0.refl _ | apply Drawn0.step)⟩
/-! ### cobwebref01_base: function 56 -/
def cobwebref01_base.f  : Option (Int) := some 10000
set_option maxHeartbeats 8000000 in
set_option maxRecDepth 100000 in
theorem cobwebref01_base.calls  (r : Int) (w : World) (h : cobwebref01_base.f  = some r) :
    Calls Try.prog 56 #[] w fun e w' => e = .returned (.int .i64 r) ∧ Drawn0 w w' := by
  have H : (some 10000) = some r := h
  clear h
  obtain rfl := Option.some.inj H
  go_enter Try.func56, Try.ntmps56
  go_wp2
  go_ret
  exact ⟨by first | rfl | (simp; done) | (simp [*]; done), by repeat (first | exact Drawn0.refl _ | apply Drawn0.step)⟩

/-! ### cobwebref01_trim: function 57 -/
def cobwebref01_trim.l0 : Nat → List Int → Bool → List Int → Option (Bool × List Int)
  | 0, _, _, _ => none
  | k + 1, x3, x299000, x299001 => if (x3.length : Int) > 0 then (if 0 ≤ (wrap64 ((x3.length : Int) - 1)) then (if (wrap64 ((x3.length : Int) - 1)) < (x3.length : Int) then (if (rd x3 (wrap64 ((x3.length : Int) - 1))) = 0 then (if (wrap64 ((x3.length : Int) - 1)) ≤ (x3.length : Int) then (cobwebref01_trim.l0 k (x3.take ((wrap64 ((x3.length : Int) - 1)) : Int).toNat) x299000 x299001) else (none)) else (if x299000 = true then (some (true, x3)) else (some (false, x3)))) else (none)) else (none)) else (if x299000 = true then (some (false, x3)) else (some (false, x3)))
def cobwebref01_trim.f (k : Nat) (a0_0 : Bool) (l0_1 : List Int) : Option (Bool × List Int) := cobwebref01_trim.l0 k l0_1 a0_0 l0_1
theorem cobwebref01_trim.mono_l : ∀ k, (∀ y0 y1 y2, LeO (cobwebref01_trim.l0 k y0 y1 y2) (cobwebref01_trim.l0 (k + 1) y0 y1 y2))
  | 0 => fun _ _ _ r h => by simp [cobwebref01_trim.l0] at h
  | k + 1 => by
    have ih0 := cobwebref01_trim.mono_l k
    · intro y0 y1 y2
      unfold cobwebref01_trim.l0
      repeat' first
      | (with_reducible exact ih0 _ _ _)
      | (with_reducible exact LeO.refl _)
      | (with_reducible exact LeO.none _)
      | (with_reducible refine LeO.ite ?_ ?_)
      | (with_reducible refine LeO.bind ?_ (fun _ => ?_))
      | exact ih0 _ _ _
      | exact LeO.none _
      | refine LeO.ite ?_ ?_
      | refine LeO.bind ?_ (fun _ => ?_)
theorem cobwebref01_trim.mono : ∀ a0 a1 k, LeO (cobwebref01_trim.f k a0 a1) (cobwebref01_trim.f (k + 1) a0 a1) := by
  intro a0 a1 k
  have ih0 := cobwebref01_trim.mono_l k
  unfold cobwebref01_trim.f
  repeat' first
      | (with_reducible exact ih0 _ _ _)
      | (with_reducible exact LeO.refl _)
      | (with_reducible exact LeO.none _)
      | (with_reducible refine LeO.ite ?_ ?_)
      | (with_reducible refine LeO.bind ?_ (fun _ => ?_))
      | exact ih0 _ _ _
      | exact LeO.none _
      | refine LeO.ite ?_ ?_
      | refine LeO.bind ?_ (fun _ => ?_)
set_option maxHeartbeats 8000000 in
set_option maxRecDepth 100000 in
theorem cobwebref01_trim.calls (k : Nat) (a0_0 : Bool) (P0_1_ : Nat → Prop) (A0_1 : Option Addr) (c0_1 : Nat) (l0_1 : List Int) (r1 : Bool) (r2 : List Int) (w : World) (hs0_1 : Kd.V (Kd.int .i64) 3 w w.heap.size (fun k_ => P0_1_ k_) (.slice A0_1 l0_1.length c0_1) l0_1) (h : cobwebref01_trim.f k a0_0 l0_1 = some (r1, r2)) :
    Calls Try.prog 57 #[.agg #[.bool a0_0, .slice A0_1 l0_1.length c0_1]] w fun e w' => ∃ v1_ : Value, e = .returned (.agg #[.bool r1, v1_]) ∧ Kd.V (Kd.int .i64) 3 w' w.heap.size (fun k_ => (P0_1_ k_ ∨ w.heap.size ≤ k_)) v1_ r2 ∧ Below w.heap.size w w' := by
  have hu32 := Try.underlying32
  have HO0_1 := Aside0.mk (show Kd.V (Kd.int .i64) 3 w w.heap.size (fun k_ => (P0_1_ k_ ∨ w.heap.size ≤ k_)) (.slice A0_1 l0_1.length c0_1) l0_1 from Kd.V_mono hs0_1 (fun k_ hk => .inl hk))
  have HB := Aside0.mk (Below.refl w.heap.size w)
  have H : (cobwebref01_trim.l0 k l0_1 a0_0 l0_1) = some (r1, r2) := h
  clear h
  have H' := Aside0.mk H
  clear H
  go_enter Try.func57, Try.ntmps57
  go_wp2_with (first | ((with_reducible refine gate_dst (N := 1) rfl ?_); refine box_event ?hg (N := 1) ?hd (cs := #[.bool a0_0, .slice A0_1 l0_1.length c0_1]) (t := 32) ?hr ?_; (case hd => rfl); (case hg => rfl); (case hr => first | (go_simp; done) | (go_simp; rfl)); intro gb298 hg w2 hbox hb; have n0_ := Aside0.mk (Kd.V_below (Kd.V_elderB (kv HO0_1) gb298 (Nat.le_of_eq hg.symm)) hb); have n1_ := kB HB hb; have n2_ := Aside0.mk (hbox); have n3_ := kS HB hg; have n4_ := kS HB hg; clear HO0_1; clear HB; have HO0_1 := n0_; have HB := n1_; have BK298 := n2_; have GW298 := n3_; have GE298 := n4_; clear n0_ n1_ n2_ n3_ n4_; clear hb hbox hg) | ((with_reducible refine gate_dst (N := 2) rfl ?_); refine box_event ?hg (N := 2) ?hd (cs := #[.bool false, .slice none 0 0]) (t := 32) ?hr ?_; (case hd => rfl); (case hg => rfl); (case hr => first | (go_simp; done) | (go_simp; rfl)); intro gb299 hg w3 hbox hb; have n0_ := Aside0.mk (Kd.V_below (Kd.V_elderB (kv HO0_1) gb299 (Nat.le_of_eq hg.symm)) hb); have n1_ := kb BK298 hb; have n2_ := kB HB hb; have n3_ := Aside0.mk (hbox); have n4_ := kS HB hg; have n5_ := kS HB hg; have n6_ := kN BK298 hg; have n7_ := kM BK298 hg; clear HO0_1; clear BK298; clear HB; have HO0_1 := n0_; have BK298 := n1_; have HB := n2_; have BK299 := n3_; have GW299 := n4_; have GE299 := n5_; have NB298_299 := n6_; have NB299_298 := n7_; clear n0_ n1_ n2_ n3_ n4_ n5_ n6_ n7_; clear hb hbox hg; have hnb4 := NB298_299.out; have hnc4 := NB299_298.out; have hcz5_0 : w3.cell? ⟨gb298, 0, none⟩ = some (.bool a0_0) := kc BK298 0; have hcz5_1 : w3.cell? ⟨gb298, 1, none⟩ = some (.slice A0_1 l0_1.length c0_1) := kc BK298 1; have hfz5_0 := blk_frozen BK298.out 0; have hfz5_1 := blk_frozen BK298.out 1))
  go_loopg [3] k (fun kq v3 w' => ∃ (x3_1 : List Int), Aside0 (cobwebref01_trim.l0 kq x3_1 a0_0 l0_1 = some (r1, r2)) ∧ Aside0 (kq ≤ k) ∧ Aside0 (Kd.V (Kd.int .i64) 3 w' w.heap.size (fun k_ => (P0_1_ k_ ∨ w.heap.size ≤ k_) ∧ k_ ≠ gb298 ∧ k_ ≠ gb299) v3 x3_1) ∧ Aside0 (Kd.V (Kd.int .i64) 3 w' w.heap.size (fun k_ => (P0_1_ k_ ∨ w.heap.size ≤ k_) ∧ k_ ≠ gb298 ∧ k_ ≠ gb299) (.slice A0_1 l0_1.length c0_1) l0_1) ∧ Aside0 (w'.heap[gb298]? = some (.cells #[.bool a0_0, (.slice A0_1 l0_1.length c0_1)] 32 (0, 0))) ∧ Aside0 (w'.heap[gb299]? = some (.cells #[.bool false, (.slice none 0 0)] 32 (0, 0))) ∧ Aside0 (Below w.heap.size w w'))
  case atStart => exact ⟨(l0_1), H', ⟨Nat.le_refl _⟩, ⟨by (with_reducible repeat (first | apply Kd.V_alloc | apply Kd.V_drewN | apply Kd.V_drew)); exact Kd.V_mono HO0_1.out (fun _ hk => ⟨hk.1.1, ⟨hk.1.2, hk.2⟩⟩)⟩, ⟨by (with_reducible repeat (first | apply Kd.V_alloc | apply Kd.V_drewN | apply Kd.V_drew)); exact Kd.V_mono HO0_1.out (fun _ hk => ⟨hk.1.1, ⟨hk.1.2, hk.2⟩⟩)⟩, ⟨kx BK298⟩, ⟨kx BK299⟩, ⟨ky HB⟩⟩
  case round =>
    clear H'
    try clear p2; try clear c4; try clear c5; try clear hcz5_0; try clear hcz5_1; try clear hfz5_0; try clear hfz5_1
    obtain ⟨x3_1, HA, HK1, HO_3, HO_299001, BK298, BK299, HB⟩ := hrel
    cases gk with
    | zero => exact absurd HA.out (by simp [cobwebref01_trim.l0])
    | succ k1 =>
      have H := HA.out; clear HA
      simp only [cobwebref01_trim.l0] at H
      by_cases c6 : (x3_1.length : Int) > 0
      rotate_left
      · rw [if_neg c6] at H
        have c6b0 : decide (0 < (x3_1.length : Int)) = false := decide_eq_false c6
        have c6b1 : decide (0 < x3_1.length) = false := decide_eq_false (by omega)
        clear c6
        by_cases c24 : a0_0 = true
        · subst c24
          have H1 : (some (false, x3_1)) = some (r1, r2) := by rw [if_pos rfl] at H; exact H
          clear H; have H := H1; clear H1
          simp only [Option.some.injEq, Prod.mk.injEq] at H
          obtain ⟨rfl, rfl⟩ := H
          obtain ⟨Ao25, co25, eo25⟩ := Kd.V_slice HO_3.out
          subst eo25
          have hnb26 := NB298_299.out; have hnc26 := NB299_298.out
          have hcz27_0 : wr.cell? ⟨gb298, 0, none⟩ = some (.bool true) := kc BK298 0
          have hcz27_1 : wr.cell? ⟨gb298, 1, none⟩ = some (.slice A0_1 l0_1.length c0_1) := kc BK298 1
          have hfz27_0 := blk_frozen BK298.out 0
          have hfz27_1 := blk_frozen BK298.out 1
          have hcz28_0 : wr.cell? ⟨gb299, 0, none⟩ = some (.bool false) := kc BK299 0
          have hcz28_1 : wr.cell? ⟨gb299, 1, none⟩ = some (.slice none 0 0) := kc BK299 1
          have hfz28_0 := blk_frozen BK299.out 0
          have hfz28_1 := blk_frozen BK299.out 1
          go_wp2
          refine bodyPost_ret (results_cell_row rfl _ _ gb299 32 #[.bool false, .slice Ao25 x3_1.length co25] (0, 0) _ rfl (by (with_reducible repeat (first | refine blk_drewN ?_ _ | refine blk_drew ?_ | refine blk_alloc ?_ _)); refine blk_put (cs := #[.bool false, .slice none 0 0]) ?_ 1 _ rfl; (with_reducible repeat (first | refine blk_drewN ?_ _ | refine blk_drew ?_ | refine blk_alloc ?_ _)); refine blk_put (cs := #[.bool false, .slice none 0 0]) ?_ 0 _ rfl; (with_reducible repeat (first | refine blk_drewN ?_ _ | refine blk_drew ?_ | refine blk_alloc ?_ _)); exact BK299.out) Try.underlying32 rfl (by kernel_rfl)) rfl ?_
          exact ⟨_, by first | rfl | (simp [errW_none, errW_some] <;> rfl) | (simp [*, errW_none, errW_some] <;> rfl), by (with_reducible repeat (first | apply Kd.V_alloc | apply Kd.V_drewN | apply Kd.V_drew)); exact Kd.V_mono (Kd.V_far (p := ⟨gb299, 1, none⟩) (Kd.V_far (p := ⟨gb299, 0, none⟩) (Kd.V_mono HO_3.out (fun k_ hk => (⟨hk, hk.2.2⟩ : _ ∧ k_ ≠ gb299))) (fun _ hk => hk.2) (.bool false)) (fun _ hk => hk.2) (.slice Ao25 x3_1.length co25)) (fun _ hk => hk.1.1), ky HB⟩
        replace c24 := Bool.eq_false_iff.mpr c24
        subst c24
        have H1 : (some (false, x3_1)) = some (r1, r2) := by rw [if_neg (show ¬ (false = true) by decide)] at H; exact H
        clear H; have H := H1; clear H1
        simp only [Option.some.injEq, Prod.mk.injEq] at H
        obtain ⟨rfl, rfl⟩ := H
        obtain ⟨Ao29, co29, eo29⟩ := Kd.V_slice HO_3.out
        subst eo29
        have hnb30 := NB298_299.out; have hnc30 := NB299_298.out
        have hcz31_0 : wr.cell? ⟨gb298, 0, none⟩ = some (.bool false) := kc BK298 0
        have hcz31_1 : wr.cell? ⟨gb298, 1, none⟩ = some (.slice A0_1 l0_1.length c0_1) := kc BK298 1
        have hfz31_0 := blk_frozen BK298.out 0
        have hfz31_1 := blk_frozen BK298.out 1
        have hcz32_0 : wr.cell? ⟨gb299, 0, none⟩ = some (.bool false) := kc BK299 0
        have hcz32_1 : wr.cell? ⟨gb299, 1, none⟩ = some (.slice none 0 0) := kc BK299 1
        have hfz32_0 := blk_frozen BK299.out 0
        have hfz32_1 := blk_frozen BK299.out 1
        go_wp2
        refine bodyPost_ret (results_cell_row rfl _ _ gb299 32 #[.bool false, .slice Ao29 x3_1.length co29] (0, 0) _ rfl (by (with_reducible repeat (first | refine blk_drewN ?_ _ | refine blk_drew ?_ | refine blk_alloc ?_ _)); refine blk_put (cs := #[.bool false, .slice none 0 0]) ?_ 1 _ rfl; (with_reducible repeat (first | refine blk_drewN ?_ _ | refine blk_drew ?_ | refine blk_alloc ?_ _)); refine blk_put (cs := #[.bool false, .slice none 0 0]) ?_ 0 _ rfl; (with_reducible repeat (first | refine blk_drewN ?_ _ | refine blk_drew ?_ | refine blk_alloc ?_ _)); exact BK299.out) Try.underlying32 rfl (by kernel_rfl)) rfl ?_
        exact ⟨_, by first | rfl | (simp [errW_none, errW_some] <;> rfl) | (simp [*, errW_none, errW_some] <;> rfl), by (with_reducible repeat (first | apply Kd.V_alloc | apply Kd.V_drewN | apply Kd.V_drew)); exact Kd.V_mono (Kd.V_far (p := ⟨gb299, 1, none⟩) (Kd.V_far (p := ⟨gb299, 0, none⟩) (Kd.V_mono HO_3.out (fun k_ hk => (⟨hk, hk.2.2⟩ : _ ∧ k_ ≠ gb299))) (fun _ hk => hk.2) (.bool false)) (fun _ hk => hk.2) (.slice Ao29 x3_1.length co29)) (fun _ hk => hk.1.1), ky HB⟩

      rw [if_pos c6] at H
      have c6b0 : decide (0 < (x3_1.length : Int)) = true := decide_eq_true c6
      have c6b1 : decide (0 < x3_1.length) = true := decide_eq_true (by omega)
      clear c6
      obtain ⟨ji7, hji7⟩ : ∃ j_ : Int, (wrap64 ((x3_1.length : Int) - 1)) = j_ := ⟨_, rfl⟩
      replace H : (if 0 ≤ (ji7) then (if (ji7) < (x3_1.length : Int) then (if (rd x3_1 (ji7)) = 0 then (if (ji7) ≤ (x3_1.length : Int) then (cobwebref01_trim.l0 k1 (x3_1.take ((ji7) : Int).toNat) a0_0 l0_1) else (none)) else (if a0_0 = true then (some (true, x3_1)) else (some (false, x3_1)))) else (none)) else (none)) = some (r1, r2) := by first | (rw [hji7] at H; exact H) | (simp only [hji7] at H ⊢; exact H)
      have hji7w : (IntKind.i64.wrap ((x3_1.length : Int) - 1)) = ji7 := (i64_w _).trans hji7
      by_cases c8 : 0 ≤ (ji7)
      rotate_left
      · rw [if_neg c8] at H
        exact absurd H (by simp)
      rw [if_pos c8] at H
      have c8b0 : decide (0 ≤ (ji7)) = true := decide_eq_true c8
      clear c8
      by_cases c9 : (ji7) < (x3_1.length : Int)
      rotate_left
      · rw [if_neg c9] at H
        exact absurd H (by simp)
      rw [if_pos c9] at H
      have c9b0 : decide ((ji7) < (x3_1.length : Int)) = true := decide_eq_true c9
      clear c9
      by_cases c10 : (rd x3_1 (ji7)) = 0
      · rw [if_pos c10] at H
        have c10b0 : ((rd x3_1 (ji7)) == 0) = true := beq_iff_eq.mpr c10
        have c10b1 : ((rd x3_1 (ji7)) != 0) = false := bne_eq_false_iff_eq.mpr c10
        clear c10
        have c11b0 := eq_true (of_decide_eq_true (by first | (with_reducible assumption) | assumption) : 0 ≤ (ji7))
        by_cases c12 : (ji7) ≤ (x3_1.length : Int)
        rotate_left
        · rw [if_neg c12] at H
          exact absurd H (by simp)
        rw [if_pos c12] at H
        have c12b0 := eq_true c12
        have c12b1 : decide ((ji7) ≤ (x3_1.length : Int)) = true := decide_eq_true c12
        clear c12
        obtain ⟨y301, hy301⟩ : ∃ y_ : List Int, y_ = (x3_1.take ((ji7) : Int).toNat) := ⟨_, rfl⟩
        replace H : (cobwebref01_trim.l0 k1 y301 a0_0 l0_1) = some (r1, r2) := by first | (rw [hy301]; with_reducible exact H) | (have H2_ := (Option.bind_some _ _).symm.trans H; rw [hy301]; with_reducible exact H2_) | (have H2_ := (Option.bind_some _ _).symm.trans H; with_reducible exact H2_) | with_reducible exact H | (rw [hy301]; exact H) | exact H
        have Ny301 := Aside0.mk hy301
        clear hy301
        have H' := Aside0.mk H
        clear H
        obtain ⟨Ao13, co13, eo13⟩ := Kd.V_slice HO_3.out
        subst eo13
        have p300 : 0 ≤ ((ji7) : Int) := of_decide_eq_true (by first | (with_reducible assumption) | assumption)
        have q300 : (ji7) < (x3_1.length : Int) := of_decide_eq_true (by first | (with_reducible assumption) | assumption)
        obtain ⟨ad300, e300, hx300_0⟩ := Kd.at_int (Kd.V_reads' HO_3.out).2.2 (ji7) p300 q300
        cases e300
        replace p300 := eq_true p300
        replace q300 := eq_true q300
        have q14 : ((ji7) : Int) ≤ ((x3_1.length : Int) : Int) := of_decide_eq_true (by first | (with_reducible assumption) | assumption)
        obtain ⟨i014, hi014, _, hsz14, _⟩ := info_parts info3
        have hroom14 : x3_1.length ≤ co13 := (Kd.V_reads' HO_3.out).2.1
        have hC14 : Kd.F (Kd.int .i64) _ _ (some ad300) x3_1.length x3_1 := (Kd.V_at (base := w.heap.size) HO_3.out).2.2
        have hcut14 := cut_to (P := Try.prog) 30 3 .i64 Try.underlying30 hi014 (some ad300) x3_1.length co13 (ji7) (of_decide_eq_true (by first | (with_reducible assumption) | assumption)) q14 hroom14
        have hr14 := Kd.F_take (m := ((ji7) : Int).toNat) hC14 (by omega)
        have hy14 : y301.length = ((ji7) : Int).toNat := (by rw [Ny301.out, List.length_take]; omega)
        rw [← Ny301.out] at hr14
        rw [← hy14] at hcut14
        have HO305 := Aside0.mk (show Kd.V (Kd.int .i64) 3 _ w.heap.size _ (.slice (some ad300) y301.length co13) y301 from Kd.V_mk (by omega) hr14)
        have HC305 := Aside0.mk (show y301.length ≤ co13 from by omega)
        clear hr14 hC14 hroom14 hi014 hsz14
        have KY14 := Aside0.mk hy14
        clear hy14
        replace q14 := eq_true q14
        go_wp2
        go_roundg k1
        case measure => have := HK1.out; omega
        case rel => exact ⟨(y301), H', ⟨by have := HK1.out; omega⟩, ⟨by (with_reducible repeat (first | apply Kd.V_alloc | apply Kd.V_drewN | apply Kd.V_drew)); exact HO305.out⟩, ⟨by (with_reducible repeat (first | apply Kd.V_alloc | apply Kd.V_drewN | apply Kd.V_drew)); exact HO_299001.out⟩, ⟨kx BK298⟩, ⟨kx BK299⟩, ⟨ky HB⟩⟩
      rw [if_neg c10] at H
      have c10b0 : ((rd x3_1 (ji7)) == 0) = false := beq_eq_false_iff_ne.mpr c10
      have c10b1 : ((rd x3_1 (ji7)) != 0) = true := bne_iff_ne.mpr c10
      by_cases c15 : a0_0 = true
      · subst c15
        have H1 : (some (true, x3_1)) = some (r1, r2) := by rw [if_pos rfl] at H; exact H
        clear H; have H := H1; clear H1
        simp only [Option.some.injEq, Prod.mk.injEq] at H
        obtain ⟨rfl, rfl⟩ := H
        obtain ⟨Ao16, co16, eo16⟩ := Kd.V_slice HO_3.out
        subst eo16
        have p300 : 0 ≤ ((ji7) : Int) := of_decide_eq_true (by first | (with_reducible assumption) | assumption)
        have q300 : (ji7) < (x3_1.length : Int) := of_decide_eq_true (by first | (with_reducible assumption) | assumption)
        obtain ⟨ad300, e300, hx300_0⟩ := Kd.at_int (Kd.V_reads' HO_3.out).2.2 (ji7) p300 q300
        cases e300
        replace p300 := eq_true p300
        replace q300 := eq_true q300
        have hnb17 := NB298_299.out; have hnc17 := NB299_298.out
        have hcz18_0 : wr.cell? ⟨gb298, 0, none⟩ = some (.bool true) := kc BK298 0
        have hcz18_1 : wr.cell? ⟨gb298, 1, none⟩ = some (.slice A0_1 l0_1.length c0_1) := kc BK298 1
        have hfz18_0 := blk_frozen BK298.out 0
        have hfz18_1 := blk_frozen BK298.out 1
        have hcz19_0 : wr.cell? ⟨gb299, 0, none⟩ = some (.bool false) := kc BK299 0
        have hcz19_1 : wr.cell? ⟨gb299, 1, none⟩ = some (.slice none 0 0) := kc BK299 1
        have hfz19_0 := blk_frozen BK299.out 0
        have hfz19_1 := blk_frozen BK299.out 1
        go_wp2
        refine bodyPost_ret (results_cell_row rfl _ _ gb299 32 #[.bool true, .slice (some ad300) x3_1.length co16] (0, 0) _ rfl (by (with_reducible repeat (first | refine blk_drewN ?_ _ | refine blk_drew ?_ | refine blk_alloc ?_ _)); refine blk_put (cs := #[.bool true, .slice none 0 0]) ?_ 1 _ rfl; (with_reducible repeat (first | refine blk_drewN ?_ _ | refine blk_drew ?_ | refine blk_alloc ?_ _)); refine blk_put (cs := #[.bool false, .slice none 0 0]) ?_ 0 _ rfl; (with_reducible repeat (first | refine blk_drewN ?_ _ | refine blk_drew ?_ | refine blk_alloc ?_ _)); exact BK299.out) Try.underlying32 rfl (by kernel_rfl)) rfl ?_
        exact ⟨_, by first | rfl | (simp [errW_none, errW_some] <;> rfl) | (simp only [← hji7]; first | rfl | (simp [errW_none, errW_some] <;> rfl)) | (simp [*, errW_none, errW_some] <;> rfl), by (with_reducible repeat (first | apply Kd.V_alloc | apply Kd.V_drewN | apply Kd.V_drew)); exact Kd.V_mono (Kd.V_far (p := ⟨gb299, 1, none⟩) (Kd.V_far (p := ⟨gb299, 0, none⟩) (Kd.V_mono HO_3.out (fun k_ hk => (⟨hk, hk.2.2⟩ : _ ∧ k_ ≠ gb299))) (fun _ hk => hk.2) (.bool true)) (fun _ hk => hk.2) (.slice (some ad300) x3_1.length co16)) (fun _ hk => hk.1.1), ky HB⟩
      replace c15 := Bool.eq_false_iff.mpr c15
      subst c15
      have H1 : (some (false, x3_1)) = some (r1, r2) := by rw [if_neg (show ¬ (false = true) by decide)] at H; exact H
      clear H; have H := H1; clear H1
      simp only [Option.some.injEq, Prod.mk.injEq] at H
      obtain ⟨rfl, rfl⟩ := H
      obtain ⟨Ao20, co20, eo20⟩ := Kd.V_slice HO_3.out
      subst eo20
      have p300 : 0 ≤ ((ji7) : Int) := of_decide_eq_true (by first | (with_reducible assumption) | assumption)
      have q300 : (ji7) < (x3_1.length : Int) := of_decide_eq_true (by first | (with_reducible assumption) | assumption)
      obtain ⟨ad300, e300, hx300_0⟩ := Kd.at_int (Kd.V_reads' HO_3.out).2.2 (ji7) p300 q300
      cases e300
      replace p300 := eq_true p300
      replace q300 := eq_true q300
      have hnb21 := NB298_299.out; have hnc21 := NB299_298.out
      have hcz22_0 : wr.cell? ⟨gb298, 0, none⟩ = some (.bool false) := kc BK298 0
      have hcz22_1 : wr.cell? ⟨gb298, 1, none⟩ = some (.slice A0_1 l0_1.length c0_1) := kc BK298 1
      have hfz22_0 := blk_frozen BK298.out 0
      have hfz22_1 := blk_frozen BK298.out 1
      have hcz23_0 : wr.cell? ⟨gb299, 0, none⟩ = some (.bool false) := kc BK299 0
      have hcz23_1 : wr.cell? ⟨gb299, 1, none⟩ = some (.slice none 0 0) := kc BK299 1
      have hfz23_0 := blk_frozen BK299.out 0
      have hfz23_1 := blk_frozen BK299.out 1
      go_wp2
      refine bodyPost_ret (results_cell_row rfl _ _ gb299 32 #[.bool false, .slice (some ad300) x3_1.length co20] (0, 0) _ rfl (by (with_reducible repeat (first | refine blk_drewN ?_ _ | refine blk_drew ?_ | refine blk_alloc ?_ _)); refine blk_put (cs := #[.bool false, .slice none 0 0]) ?_ 1 _ rfl; (with_reducible repeat (first | refine blk_drewN ?_ _ | refine blk_drew ?_ | refine blk_alloc ?_ _)); refine blk_put (cs := #[.bool false, .slice none 0 0]) ?_ 0 _ rfl; (with_reducible repeat (first | refine blk_drewN ?_ _ | refine blk_drew ?_ | refine blk_alloc ?_ _)); exact BK299.out) Try.underlying32 rfl (by kernel_rfl)) rfl ?_
      exact ⟨_, by first | rfl | (simp [errW_none, errW_some] <;> rfl) | (simp only [← hji7]; first | rfl | (simp [errW_none, errW_some] <;> rfl)) | (simp [*, errW_none, errW_some] <;> rfl), by (with_reducible repeat (first | apply Kd.V_alloc | apply Kd.V_drewN | apply Kd.V_drew)); exact Kd.V_mono (Kd.V_far (p := ⟨gb299, 1, none⟩) (Kd.V_far (p := ⟨gb299, 0, none⟩) (Kd.V_mono HO_3.out (fun k_ hk => (⟨hk, hk.2.2⟩ : _ ∧ k_ ≠ gb299))) (fun _ hk => hk.2) (.bool false)) (fun _ hk => hk.2) (.slice (some ad300) x3_1.length co20)) (fun _ hk => hk.1.1), ky HB⟩
end Go.Proofs.Ytpjbniihdndlmaa.Q
