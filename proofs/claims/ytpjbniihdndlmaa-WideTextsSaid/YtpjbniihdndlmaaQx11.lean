-- Printed by wip/pp.sh (a session's own turning of the kit's print) for this seat.
import Derived.Test.YtpjbniihdndlmaaQx0
namespace Go.Proofs.Ytpjbniihdndlmaa.Q
open Go.RowKit Go.Proofs.YtpjbniihdndlmaaW.PrintWords Go.Proofs.YtpjbniihdndlmaaW.PrintLast Go.Proofs.YtpjbniihdndlmaaW.PrintMore
open Go.Proofs.Ytpjbniihdndlmaa.H
attribute [local go_sem] hq_add64 hq_sub64 hq_not64 add64c_nn sub64c_nn sub64c_le
attribute [local go_sem] max2_int min2_int max_two min_two max_three min_three max_four min_four   -- for this text's walks alone
set_option linter.unusedVariables false
set_option linter.unusedSimpArgs false

/-! ### cobwebref01_digit: function 55 -/
def cobwebref01_digit.f (l0 : List Int) (a1 : Int) : Option (Int) := if a1 < (l0.length : Int) then (if 0 ≤ a1 then (some (rd l0 a1)) else (none)) else (some 0)
set_option maxHeartbeats 8000000 in
set_option maxRecDepth 100000 in
theorem cobwebref01_digit.calls (A0 : Option Addr) (c0 : Nat) (l0 : List Int) (a1 : Int) (r : Int) (w : World) (hr0 : Kd.C (Kd.int .i64) w A0 l0.length l0) (hc0 : l0.length ≤ c0) (h : cobwebref01_digit.f l0 a1 = some r) :
  Calls Try.prog 55 #[.slice A0 l0.length c0, .int .i64 a1] w fun e w' => e = .returned (.int .i64 r) ∧ Drawn0 w w' := by
 have HR0 := Aside0.mk hr0; have HC0 := Aside0.mk hc0; clear hr0 hc0; have H : (if a1 < (l0.length : Int) then (if 0 ≤ a1 then (some (rd l0 a1)) else (none)) else (some 0)) = some r := h; clear h
 by_cases c3 : a1 < (l0.length : Int)
 rotate_left
 ·rw [if_neg c3] at H
  have c3b0 : decide (a1 < (l0.length : Int)) = false := decide_eq_false c3; clear c3; obtain rfl := Option.some.inj H
  go_enter Try.func55, Try.ntmps55
  go_wp2
  go_ret
  exact ⟨by first | rfl | (simp; done) | (simp [*]; done), by repeat (first | exact Drawn0.refl _ | apply Drawn0.step)⟩

 rw [if_pos c3] at H
 have c3b0 : decide (a1 < (l0.length : Int)) = true := decide_eq_true c3; clear c3
 by_cases c4 : 0 ≤ a1
 rotate_left
 ·rw [if_neg c4] at H
  exact absurd H (by simp)
 rw [if_pos c4] at H
 have c4b0 : decide (0 ≤ a1) = true := decide_eq_true c4; clear c4; obtain rfl := Option.some.inj H; have p297 : 0 ≤ (a1 : Int) := of_decide_eq_true (by first | (with_reducible assumption) | assumption); have q297 : a1 < (l0.length : Int) := of_decide_eq_true (by first | (with_reducible assumption) | assumption); obtain ⟨ad297, e297, hx297_0⟩ := Kd.at_int HR0.out a1 p297 q297
 cases e297
 replace p297 := eq_true p297; replace q297 := eq_true q297
 go_enter Try.func55, Try.ntmps55
 go_wp2
 go_ret
 exact ⟨by first | rfl | (simp; done) | (simp [*]; done), by repeat (first | exact Drawn0.refl _ | apply Drawn0.step)⟩
/-! ### cobwebref01_base: function 56 -/
def cobwebref01_base.f  : Option (Int) := some 10000
set_option maxHeartbeats 8000000 in
set_option maxRecDepth 100000 in
theorem cobwebref01_base.calls  (r : Int) (w : World) (h : cobwebref01_base.f  = some r) :
  Calls Try.prog 56 #[] w fun e w' => e = .returned (.int .i64 r) ∧ Drawn0 w w' := by
 have H : (some 10000) = some r := h; clear h; obtain rfl := Option.some.inj H
 go_enter Try.func56, Try.ntmps56
 go_wp2
 go_ret
 exact ⟨by first | rfl | (simp; done) | (simp [*]; done), by repeat (first | exact Drawn0.refl _ | apply Drawn0.step)⟩

/-! ### cobwebref01_trim: function 57 -/
def cobwebref01_trim.l0 : Nat → List Int → Bool → List Int → Option (Bool × List Int)
 | 0, _, _, _ => none
 | k + 1, x3, x299000, x299001 => if (x3.length : Int) > 0 then (if 0 ≤ (wrap64 ((x3.length : Int) - 1)) then (if (wrap64 ((x3.length : Int) - 1)) < (x3.length : Int) then (if (rd x3 (wrap64 ((x3.length : Int) - 1))) = 0 then (if (wrap64 ((x3.length : Int) - 1)) ≤ (x3.length : Int) then (cobwebref01_trim.l0 k (x3.take ((wrap64 ((x3.length : Int) - 1)) : Int).toNat) x299000 x299001) else (none)) else (if x299000 = true then (some (true, x3)) else (some (false, x3)))) else (none)) else (none)) else (if x299000 = true then (some (false, x3)) else (some (false, x3)))
def cobwebref01_trim.f (k : Nat) (a0_0 : Bool) (l0_1 : List Int) : Option (Bool × List Int) := cobwebref01_trim.l0 k l0_1 a0_0 l0_1
theorem cobwebref01_trim.mono_l : ∀ k, (∀ y0 y1 y2, LeO (cobwebref01_trim.l0 k y0 y1 y2) (cobwebref01_trim.l0 (k + 1) y0 y1 y2))
 | 0 => fun _ _ _ r h => by simp [cobwebref01_trim.l0] at h
 | k + 1 => by
  have ih0 := cobwebref01_trim.mono_l k
  ·intro y0 y1 y2
   unfold cobwebref01_trim.l0
   repeat' first
   | (with_reducible exact ih0 _ _ _)
   | (with_reducible exact LeO.refl _)
   | (with_reducible exact LeO.none _)
   | (with_reducible refine LeO.ite ?_ ?_)
   | (with_reducible refine LeO.bind ?_ (fun _ => ?_))
   | exact ih0 _ _ _
   | exact LeO.none _
   | refine LeO.ite ?_ ?_
   | refine LeO.bind ?_ (fun _ => ?_)
theorem cobwebref01_trim.mono : ∀ a0 a1 k, LeO (cobwebref01_trim.f k a0 a1) (cobwebref01_trim.f (k + 1) a0 a1) := by
 intro a0 a1 k; have ih0 := cobwebref01_trim.mono_l k
 unfold cobwebref01_trim.f
 repeat' first
   | (with_reducible exact ih0 _ _ _)
   | (with_reducible exact LeO.refl _)
   | (with_reducible exact LeO.none _)
   | (with_reducible refine LeO.ite ?_ ?_)
   | (with_reducible refine LeO.bind ?_ (fun _ => ?_))
   | exact ih0 _ _ _
   | exact LeO.none _
   | refine LeO.ite ?_ ?_
   | refine LeO.bind ?_ (fun _ => ?_)
set_option maxHeartbeats 8000000 in
set_option maxRecDepth 100000 in
theorem cobwebref01_trim.calls (k : Nat) (a0_0 : Bool) (P0_1_ : Nat → Prop) (A0_1 : Option Addr) (c0_1 : Nat) (l0_1 : List Int) (r1 : Bool) (r2 : List Int) (w : World) (hs0_1 : Kd.V (Kd.int .i64) 3 w w.heap.size (fun k_ => P0_1_ k_) (.slice A0_1 l0_1.length c0_1) l0_1) (h : cobwebref01_trim.f k a0_0 l0_1 = some (r1, r2)) :
  Calls Try.prog 57 #[.agg #[.bool a0_0, .slice A0_1 l0_1.length c0_1]] w fun e w' => ∃ v1_ : Value, e = .returned (.agg #[.bool r1, v1_]) ∧ Kd.V (Kd.int .i64) 3 w' w.heap.size (fun k_ => (P0_1_ k_ ∨ w.heap.size ≤ k_)) v1_ r2 ∧ Below w.heap.size w w' := by
 have hu32 := Try.underlying32; have HO0_1 := Aside0.mk (show Kd.V (Kd.int .i64) 3 w w.heap.size (fun k_ => (P0_1_ k_ ∨ w.heap.size ≤ k_)) (.slice A0_1 l0_1.length c0_1) l0_1 from Kd.V_mono hs0_1 (fun k_ hk => .inl hk)); have HB := Aside0.mk (Below.refl w.heap.size w); have H : (cobwebref01_trim.l0 k l0_1 a0_0 l0_1) = some (r1, r2) := h; clear h; have H' := Aside0.mk H; clear H
 go_enter Try.func57, Try.ntmps57
 go_wp2_with (first | ((with_reducible refine gate_dst (N := 1) rfl ?_); refine box_event ?hg (N := 1) ?hd (cs := #[.bool a0_0, .slice A0_1 l0_1.length c0_1]) (t := 32) ?hr ?_; (case hd => rfl); (case hg => rfl); (case hr => first | (go_simp; done) | (go_simp; rfl)); intro gb298 hg w2 hbox hb; have n0_ := kE HO0_1 gb298 hg hb; have n1_ := kB HB hb; have n2_ := Aside0.mk (hbox); have n3_ := kS HB hg; have n4_ := kS HB hg; clear HO0_1; clear HB; have HO0_1 := n0_; have HB := n1_; have BK298 := n2_; have GW298 := n3_; have GE298 := n4_; clear n0_ n1_ n2_ n3_ n4_; clear hb hbox hg) | ((with_reducible refine gate_dst (N := 2) rfl ?_); refine box_event ?hg (N := 2) ?hd (cs := #[.bool false, .slice none 0 0]) (t := 32) ?hr ?_; (case hd => rfl); (case hg => rfl); (case hr => first | (go_simp; done) | (go_simp; rfl)); intro gb299 hg w3 hbox hb; have n0_ := kE HO0_1 gb299 hg hb; have n1_ := kb BK298 hb; have n2_ := kB HB hb; have n3_ := Aside0.mk (hbox); have n4_ := kS HB hg; have n5_ := kS HB hg; have n6_ := kN BK298 hg; have n7_ := kM BK298 hg; clear HO0_1; clear BK298; clear HB; have HO0_1 := n0_; have BK298 := n1_; have HB := n2_; have BK299 := n3_; have GW299 := n4_; have GE299 := n5_; have NB298_299 := n6_; have NB299_298 := n7_; clear n0_ n1_ n2_ n3_ n4_ n5_ n6_ n7_; clear hb hbox hg; have hnb4 := NB298_299.out; have hnc4 := NB299_298.out; have hcz5_0 : w3.cell? ⟨gb298, 0, none⟩ = some (.bool a0_0) := kc BK298 0; have hcz5_1 : w3.cell? ⟨gb298, 1, none⟩ = some (.slice A0_1 l0_1.length c0_1) := kc BK298 1; have hfz5_0 := blk_frozen BK298.out 0; have hfz5_1 := blk_frozen BK298.out 1))
 go_loopg [3] k (fun kq v3 w' => ∃ (x3_1 : List Int), Aside0 (cobwebref01_trim.l0 kq x3_1 a0_0 l0_1 = some (r1, r2)) ∧ Aside0 (kq ≤ k) ∧ Aside0 (Kd.V (Kd.int .i64) 3 w' w.heap.size (fun k_ => (P0_1_ k_ ∨ w.heap.size ≤ k_) ∧ k_ ≠ gb298 ∧ k_ ≠ gb299) v3 x3_1) ∧ Aside0 (Kd.V (Kd.int .i64) 3 w' w.heap.size (fun k_ => (P0_1_ k_ ∨ w.heap.size ≤ k_) ∧ k_ ≠ gb298 ∧ k_ ≠ gb299) (.slice A0_1 l0_1.length c0_1) l0_1) ∧ Aside0 (w'.heap[gb298]? = some (.cells #[.bool a0_0, (.slice A0_1 l0_1.length c0_1)] 32 (0, 0))) ∧ Aside0 (w'.heap[gb299]? = some (.cells #[.bool false, (.slice none 0 0)] 32 (0, 0))) ∧ Aside0 (Below w.heap.size w w'))
 case atStart => exact ⟨(l0_1), H', ⟨Nat.le_refl _⟩, ⟨by (with_reducible repeat (first | apply Kd.V_alloc | apply Kd.V_drewN | apply Kd.V_drew)); exact Kd.V_mono HO0_1.out (fun _ => u2)⟩, ⟨by (with_reducible repeat (first | apply Kd.V_alloc | apply Kd.V_drewN | apply Kd.V_drew)); exact Kd.V_mono HO0_1.out (fun _ => u2)⟩, ⟨kx BK298⟩, ⟨kx BK299⟩, ⟨ky HB⟩⟩
 case round =>
  clear H'
  try clear p2; try clear c4; try clear c5; try clear hcz5_0; try clear hcz5_1; try clear hfz5_0; try clear hfz5_1
  obtain ⟨x3_1, HA, HK1, HO_3, HO_299001, BK298, BK299, HB⟩ := hrel
  cases gk with
  | zero => exact absurd HA.out (by simp [cobwebref01_trim.l0])
  | succ k1 =>
   have H := HA.out; clear HA
   simp only [cobwebref01_trim.l0] at H
   by_cases c6 : (x3_1.length : Int) > 0
   rotate_left
   ·rw [if_neg c6] at H
    have c6b0 : decide (0 < (x3_1.length : Int)) = false := decide_eq_false c6; have c6b1 : decide (0 < x3_1.length) = false := decide_eq_false (by omega); clear c6
    by_cases c24 : a0_0 = true
    ·subst c24
     have H1 : (some (false, x3_1)) = some (r1, r2) := by rw [if_pos rfl] at H; exact H
     clear H; have H := H1; clear H1
     simp only [Option.some.injEq, Prod.mk.injEq] at H
     obtain ⟨rfl, rfl⟩ := H; obtain ⟨Ao25, co25, eo25⟩ := Kd.V_slice HO_3.out; subst eo25; have hnb26 := NB298_299.out; have hnc26 := NB299_298.out; obtain ⟨hcz27_0, hcz27_1⟩ := kc2 BK298; obtain ⟨hfz27_0, hfz27_1⟩ := kf2 BK298; obtain ⟨hcz28_0, hcz28_1⟩ := kc2 BK299; obtain ⟨hfz28_0, hfz28_1⟩ := kf2 BK299
     go_wp2
     refine bodyPost_ret (results_cell_row rfl _ _ gb299 32 #[.bool false, .slice Ao25 x3_1.length co25] (0, 0) _ rfl (by (with_reducible repeat (first | refine zr ?_ _ | refine zw ?_ | refine za ?_ _)); refine blk_put (cs := #[.bool false, .slice none 0 0]) ?_ 1 _ rfl; (with_reducible repeat (first | refine zr ?_ _ | refine zw ?_ | refine za ?_ _)); refine blk_put (cs := #[.bool false, .slice none 0 0]) ?_ 0 _ rfl; (with_reducible repeat (first | refine zr ?_ _ | refine zw ?_ | refine za ?_ _)); exact BK299.out) Try.underlying32 rfl (by kernel_rfl)) rfl ?_; exact ⟨_, by first | rfl | (simp [errW_none, errW_some] <;> rfl) | (simp [*, errW_none, errW_some] <;> rfl), by (with_reducible repeat (first | apply Kd.V_alloc | apply Kd.V_drewN | apply Kd.V_drew)); exact Kd.V_mono (Kd.V_far (p := ⟨gb299, 1, none⟩) (Kd.V_far (p := ⟨gb299, 0, none⟩) (Kd.V_mono HO_3.out (fun k_ hk => (⟨hk, hk.2.2⟩ : _ ∧ k_ ≠ gb299))) (fun _ hk => hk.2) (.bool false)) (fun _ hk => hk.2) (.slice Ao25 x3_1.length co25)) (fun _ hk => hk.1.1), ky HB⟩
    replace c24 := Bool.eq_false_iff.mpr c24; subst c24
    have H1 : (some (false, x3_1)) = some (r1, r2) := by rw [if_neg (show ¬ (false = true) by decide)] at H; exact H
    clear H; have H := H1; clear H1
    simp only [Option.some.injEq, Prod.mk.injEq] at H
    obtain ⟨rfl, rfl⟩ := H; obtain ⟨Ao29, co29, eo29⟩ := Kd.V_slice HO_3.out; subst eo29; have hnb30 := NB298_299.out; have hnc30 := NB299_298.out; obtain ⟨hcz31_0, hcz31_1⟩ := kc2 BK298; obtain ⟨hfz31_0, hfz31_1⟩ := kf2 BK298; obtain ⟨hcz32_0, hcz32_1⟩ := kc2 BK299; obtain ⟨hfz32_0, hfz32_1⟩ := kf2 BK299
    go_wp2
    refine bodyPost_ret (results_cell_row rfl _ _ gb299 32 #[.bool false, .slice Ao29 x3_1.length co29] (0, 0) _ rfl (by (with_reducible repeat (first | refine zr ?_ _ | refine zw ?_ | refine za ?_ _)); refine blk_put (cs := #[.bool false, .slice none 0 0]) ?_ 1 _ rfl; (with_reducible repeat (first | refine zr ?_ _ | refine zw ?_ | refine za ?_ _)); refine blk_put (cs := #[.bool false, .slice none 0 0]) ?_ 0 _ rfl; (with_reducible repeat (first | refine zr ?_ _ | refine zw ?_ | refine za ?_ _)); exact BK299.out) Try.underlying32 rfl (by kernel_rfl)) rfl ?_; exact ⟨_, by first | rfl | (simp [errW_none, errW_some] <;> rfl) | (simp [*, errW_none, errW_some] <;> rfl), by (with_reducible repeat (first | apply Kd.V_alloc | apply Kd.V_drewN | apply Kd.V_drew)); exact Kd.V_mono (Kd.V_far (p := ⟨gb299, 1, none⟩) (Kd.V_far (p := ⟨gb299, 0, none⟩) (Kd.V_mono HO_3.out (fun k_ hk => (⟨hk, hk.2.2⟩ : _ ∧ k_ ≠ gb299))) (fun _ hk => hk.2) (.bool false)) (fun _ hk => hk.2) (.slice Ao29 x3_1.length co29)) (fun _ hk => hk.1.1), ky HB⟩

   rw [if_pos c6] at H
   have c6b0 : decide (0 < (x3_1.length : Int)) = true := decide_eq_true c6; have c6b1 : decide (0 < x3_1.length) = true := decide_eq_true (by omega); clear c6; obtain ⟨ji7, hji7⟩ : ∃ j_ : Int, (wrap64 ((x3_1.length : Int) - 1)) = j_ := ⟨_, rfl⟩
   replace H : (if 0 ≤ (ji7) then (if (ji7) < (x3_1.length : Int) then (if (rd x3_1 (ji7)) = 0 then (if (ji7) ≤ (x3_1.length : Int) then (cobwebref01_trim.l0 k1 (x3_1.take ((ji7) : Int).toNat) a0_0 l0_1) else (none)) else (if a0_0 = true then (some (true, x3_1)) else (some (false, x3_1)))) else (none)) else (none)) = some (r1, r2) := by first | (rw [hji7] at H; exact H) | (simp only [hji7] at H ⊢; exact H)
   have hji7w : (IntKind.i64.wrap ((x3_1.length : Int) - 1)) = ji7 := (i64_w _).trans hji7
   by_cases c8 : 0 ≤ (ji7)
   rotate_left
   ·rw [if_neg c8] at H
    exact absurd H (by simp)
   rw [if_pos c8] at H
   have c8b0 : decide (0 ≤ (ji7)) = true := decide_eq_true c8; clear c8
   by_cases c9 : (ji7) < (x3_1.length : Int)
   rotate_left
   ·rw [if_neg c9] at H
    exact absurd H (by simp)
   rw [if_pos c9] at H
   have c9b0 : decide ((ji7) < (x3_1.length : Int)) = true := decide_eq_true c9; clear c9
   by_cases c10 : (rd x3_1 (ji7)) = 0
   ·rw [if_pos c10] at H
    have c10b0 : ((rd x3_1 (ji7)) == 0) = true := beq_iff_eq.mpr c10; have c10b1 : ((rd x3_1 (ji7)) != 0) = false := bne_eq_false_iff_eq.mpr c10; clear c10; have c11b0 := eq_true (of_decide_eq_true (by first | (with_reducible assumption) | assumption) : 0 ≤ (ji7))
    by_cases c12 : (ji7) ≤ (x3_1.length : Int)
    rotate_left
    ·rw [if_neg c12] at H
     exact absurd H (by simp)
    rw [if_pos c12] at H
    have c12b0 := eq_true c12; have c12b1 : decide ((ji7) ≤ (x3_1.length : Int)) = true := decide_eq_true c12; clear c12; obtain ⟨y301, hy301⟩ : ∃ y_ : List Int, y_ = (x3_1.take ((ji7) : Int).toNat) := ⟨_, rfl⟩
    replace H : (cobwebref01_trim.l0 k1 y301 a0_0 l0_1) = some (r1, r2) := by first | (rw [hy301]; with_reducible exact H) | (have H2_ := (Option.bind_some _ _).symm.trans H; rw [hy301]; with_reducible exact H2_) | (have H2_ := (Option.bind_some _ _).symm.trans H; with_reducible exact H2_) | with_reducible exact H | (rw [hy301]; exact H) | exact H
    have Ny301 := Aside0.mk hy301; clear hy301; have H' := Aside0.mk H; clear H; obtain ⟨Ao13, co13, eo13⟩ := Kd.V_slice HO_3.out; subst eo13; have p300 : 0 ≤ ((ji7) : Int) := of_decide_eq_true (by first | (with_reducible assumption) | assumption); have q300 : (ji7) < (x3_1.length : Int) := of_decide_eq_true (by first | (with_reducible assumption) | assumption); obtain ⟨ad300, e300, hx300_0⟩ := Kd.at_int (Kd.V_reads' HO_3.out).2.2 (ji7) p300 q300
    cases e300
    replace p300 := eq_true p300; replace q300 := eq_true q300; have q14 : ((ji7) : Int) ≤ ((x3_1.length : Int) : Int) := of_decide_eq_true (by first | (with_reducible assumption) | assumption); obtain ⟨i014, hi014, _, hsz14, _⟩ := info_parts info3; have hroom14 : x3_1.length ≤ co13 := (Kd.V_reads' HO_3.out).2.1; have hC14 : Kd.F (Kd.int .i64) _ _ (some ad300) x3_1.length x3_1 := (Kd.V_at (base := w.heap.size) HO_3.out).2.2; have hcut14 := cut_to (P := Try.prog) 30 3 .i64 Try.underlying30 hi014 (some ad300) x3_1.length co13 (ji7) (of_decide_eq_true (by first | (with_reducible assumption) | assumption)) q14 hroom14; have hr14 := Kd.F_take (m := ((ji7) : Int).toNat) hC14 (by omega); have hy14 : y301.length = ((ji7) : Int).toNat := (by rw [Ny301.out, List.length_take]; omega)
    rw [← Ny301.out] at hr14
    rw [← hy14] at hcut14
    have HO305 := Aside0.mk (show Kd.V (Kd.int .i64) 3 _ w.heap.size _ (.slice (some ad300) y301.length co13) y301 from Kd.V_mk (by omega) hr14); have HC305 := Aside0.mk (show y301.length ≤ co13 from by omega); clear hr14 hC14 hroom14 hi014 hsz14; have KY14 := Aside0.mk hy14; clear hy14; replace q14 := eq_true q14
    go_wp2
    go_roundg k1
    case measure => have := HK1.out; omega
    case rel => exact ⟨(y301), H', ⟨by have := HK1.out; omega⟩, ⟨by (with_reducible repeat (first | apply Kd.V_alloc | apply Kd.V_drewN | apply Kd.V_drew)); exact HO305.out⟩, ⟨by (with_reducible repeat (first | apply Kd.V_alloc | apply Kd.V_drewN | apply Kd.V_drew)); exact HO_299001.out⟩, ⟨kx BK298⟩, ⟨kx BK299⟩, ⟨ky HB⟩⟩
   rw [if_neg c10] at H
   have c10b0 : ((rd x3_1 (ji7)) == 0) = false := beq_eq_false_iff_ne.mpr c10; have c10b1 : ((rd x3_1 (ji7)) != 0) = true := bne_iff_ne.mpr c10
   by_cases c15 : a0_0 = true
   ·subst c15
    have H1 : (some (true, x3_1)) = some (r1, r2) := by rw [if_pos rfl] at H; exact H
    clear H; have H := H1; clear H1
    simp only [Option.some.injEq, Prod.mk.injEq] at H
    obtain ⟨rfl, rfl⟩ := H; obtain ⟨Ao16, co16, eo16⟩ := Kd.V_slice HO_3.out; subst eo16; have p300 : 0 ≤ ((ji7) : Int) := of_decide_eq_true (by first | (with_reducible assumption) | assumption); have q300 : (ji7) < (x3_1.length : Int) := of_decide_eq_true (by first | (with_reducible assumption) | assumption); obtain ⟨ad300, e300, hx300_0⟩ := Kd.at_int (Kd.V_reads' HO_3.out).2.2 (ji7) p300 q300
    cases e300
    replace p300 := eq_true p300; replace q300 := eq_true q300; have hnb17 := NB298_299.out; have hnc17 := NB299_298.out; obtain ⟨hcz18_0, hcz18_1⟩ := kc2 BK298; obtain ⟨hfz18_0, hfz18_1⟩ := kf2 BK298; obtain ⟨hcz19_0, hcz19_1⟩ := kc2 BK299; obtain ⟨hfz19_0, hfz19_1⟩ := kf2 BK299
    go_wp2
    refine bodyPost_ret (results_cell_row rfl _ _ gb299 32 #[.bool true, .slice (some ad300) x3_1.length co16] (0, 0) _ rfl (by (with_reducible repeat (first | refine zr ?_ _ | refine zw ?_ | refine za ?_ _)); refine blk_put (cs := #[.bool true, .slice none 0 0]) ?_ 1 _ rfl; (with_reducible repeat (first | refine zr ?_ _ | refine zw ?_ | refine za ?_ _)); refine blk_put (cs := #[.bool false, .slice none 0 0]) ?_ 0 _ rfl; (with_reducible repeat (first | refine zr ?_ _ | refine zw ?_ | refine za ?_ _)); exact BK299.out) Try.underlying32 rfl (by kernel_rfl)) rfl ?_; exact ⟨_, by first | rfl | (simp [errW_none, errW_some] <;> rfl) | (simp only [← hji7]; first | rfl | (simp [errW_none, errW_some] <;> rfl)) | (simp [*, errW_none, errW_some] <;> rfl), by (with_reducible repeat (first | apply Kd.V_alloc | apply Kd.V_drewN | apply Kd.V_drew)); exact Kd.V_mono (Kd.V_far (p := ⟨gb299, 1, none⟩) (Kd.V_far (p := ⟨gb299, 0, none⟩) (Kd.V_mono HO_3.out (fun k_ hk => (⟨hk, hk.2.2⟩ : _ ∧ k_ ≠ gb299))) (fun _ hk => hk.2) (.bool true)) (fun _ hk => hk.2) (.slice (some ad300) x3_1.length co16)) (fun _ hk => hk.1.1), ky HB⟩
   replace c15 := Bool.eq_false_iff.mpr c15; subst c15
   have H1 : (some (false, x3_1)) = some (r1, r2) := by rw [if_neg (show ¬ (false = true) by decide)] at H; exact H
   clear H; have H := H1; clear H1
   simp only [Option.some.injEq, Prod.mk.injEq] at H
   obtain ⟨rfl, rfl⟩ := H; obtain ⟨Ao20, co20, eo20⟩ := Kd.V_slice HO_3.out; subst eo20; have p300 : 0 ≤ ((ji7) : Int) := of_decide_eq_true (by first | (with_reducible assumption) | assumption); have q300 : (ji7) < (x3_1.length : Int) := of_decide_eq_true (by first | (with_reducible assumption) | assumption); obtain ⟨ad300, e300, hx300_0⟩ := Kd.at_int (Kd.V_reads' HO_3.out).2.2 (ji7) p300 q300
   cases e300
   replace p300 := eq_true p300; replace q300 := eq_true q300; have hnb21 := NB298_299.out; have hnc21 := NB299_298.out; obtain ⟨hcz22_0, hcz22_1⟩ := kc2 BK298; obtain ⟨hfz22_0, hfz22_1⟩ := kf2 BK298; obtain ⟨hcz23_0, hcz23_1⟩ := kc2 BK299; obtain ⟨hfz23_0, hfz23_1⟩ := kf2 BK299
   go_wp2
   refine bodyPost_ret (results_cell_row rfl _ _ gb299 32 #[.bool false, .slice (some ad300) x3_1.length co20] (0, 0) _ rfl (by (with_reducible repeat (first | refine zr ?_ _ | refine zw ?_ | refine za ?_ _)); refine blk_put (cs := #[.bool false, .slice none 0 0]) ?_ 1 _ rfl; (with_reducible repeat (first | refine zr ?_ _ | refine zw ?_ | refine za ?_ _)); refine blk_put (cs := #[.bool false, .slice none 0 0]) ?_ 0 _ rfl; (with_reducible repeat (first | refine zr ?_ _ | refine zw ?_ | refine za ?_ _)); exact BK299.out) Try.underlying32 rfl (by kernel_rfl)) rfl ?_; exact ⟨_, by first | rfl | (simp [errW_none, errW_some] <;> rfl) | (simp only [← hji7]; first | rfl | (simp [errW_none, errW_some] <;> rfl)) | (simp [*, errW_none, errW_some] <;> rfl), by (with_reducible repeat (first | apply Kd.V_alloc | apply Kd.V_drewN | apply Kd.V_drew)); exact Kd.V_mono (Kd.V_far (p := ⟨gb299, 1, none⟩) (Kd.V_far (p := ⟨gb299, 0, none⟩) (Kd.V_mono HO_3.out (fun k_ hk => (⟨hk, hk.2.2⟩ : _ ∧ k_ ≠ gb299))) (fun _ hk => hk.2) (.bool false)) (fun _ hk => hk.2) (.slice (some ad300) x3_1.length co20)) (fun _ hk => hk.1.1), ky HB⟩
/-! ### cobwebref01_Mul: function 18 -/
mutual
def cobwebref01_Mul.l0 : Nat → List Int → Int → Bool → List Int → Bool → List Int → Option (Bool × List Int)
 | 0, _, _, _, _, _, _ => none
 | k + 1, x5, x6, x307000, x307001, x308000, x308001 => if x6 < (x307001.length : Int) then (cobwebref01_Mul.l1 k x5 x6 0 0 x307000 x307001 x308000 x308001) else ((cobwebref01_trim.f k (!(x307000 == x308000)) x5).bind fun bt312 => (some (bt312.1, bt312.2)))
def cobwebref01_Mul.l1 : Nat → List Int → Int → Int → Int → Bool → List Int → Bool → List Int → Option (Bool × List Int)
 | 0, _, _, _, _, _, _, _, _ => none
 | k + 1, x5, x6, x7, x8, x307000, x307001, x308000, x308001 => if x8 < (x308001.length : Int) then (cobwebref01_Mul.j2 k x5 x6 x7 x8 true x307000 x307001 x308000 x308001) else (cobwebref01_Mul.j2 k x5 x6 x7 x8 (decide (x7 > 0)) x307000 x307001 x308000 x308001)
def cobwebref01_Mul.j2 : Nat → List Int → Int → Int → Int → Bool → Bool → List Int → Bool → List Int → Option (Bool × List Int)
 | 0, _, _, _, _, _, _, _, _, _ => none
 | k + 1, x5, x6, x7, x8, x33, x307000, x307001, x308000, x308001 => if x33 = true then (if 0 ≤ (wrap64 (x6 + x8)) then (if (wrap64 (x6 + x8)) < (x5.length : Int) then (if 0 ≤ x6 then (if x6 < (x307001.length : Int) then ((cobwebref01_digit.f x308001 x8).bind fun t318 => ((cobwebref01_base.f).bind fun t319 => (if t319 = 0 then (none) else ((cobwebref01_base.f).bind fun t321 => (if t321 = 0 then (none) else (cobwebref01_Mul.l1 k (x5.set ((wrap64 (x6 + x8)) : Int).toNat (Int.tmod (wrap64 ((wrap64 (x7 + (rd x5 (wrap64 (x6 + x8))))) + (wrap64 ((rd x307001 x6) * t318)))) t319)) x6 (wrap64 (Int.tdiv (wrap64 ((wrap64 (x7 + (rd x5 (wrap64 (x6 + x8))))) + (wrap64 ((rd x307001 x6) * t318)))) t321)) (wrap64 (x8 + 1)) x307000 x307001 x308000 x308001)))))) else (none)) else (none)) else (none)) else (none)) else (cobwebref01_Mul.l0 k x5 (wrap64 (x6 + 1)) x307000 x307001 x308000 x308001)
end
def cobwebref01_Mul.f (k : Nat) (a0_0 : Bool) (l0_1 : List Int) (a1_0 : Bool) (l1_1 : List Int) : Option (Bool × List Int) := if 0 ≤ (wrap64 ((wrap64 ((l0_1.length : Int) + (l1_1.length : Int))) + 1)) then (if (wrap64 ((wrap64 ((l0_1.length : Int) + (l1_1.length : Int))) + 1) : Int).toNat ≤ 35184372088832 then (cobwebref01_Mul.l0 k (List.replicate (wrap64 ((wrap64 ((l0_1.length : Int) + (l1_1.length : Int))) + 1) : Int).toNat 0) 0 a0_0 l0_1 a1_0 l1_1) else (none)) else (none)
theorem cobwebref01_Mul.mono_l : ∀ k, (∀ y0 y1 y2 y3 y4 y5, LeO (cobwebref01_Mul.l0 k y0 y1 y2 y3 y4 y5) (cobwebref01_Mul.l0 (k + 1) y0 y1 y2 y3 y4 y5)) ∧ (∀ y0 y1 y2 y3 y4 y5 y6 y7, LeO (cobwebref01_Mul.l1 k y0 y1 y2 y3 y4 y5 y6 y7) (cobwebref01_Mul.l1 (k + 1) y0 y1 y2 y3 y4 y5 y6 y7)) ∧ (∀ y0 y1 y2 y3 y4 y5 y6 y7 y8, LeO (cobwebref01_Mul.j2 k y0 y1 y2 y3 y4 y5 y6 y7 y8) (cobwebref01_Mul.j2 (k + 1) y0 y1 y2 y3 y4 y5 y6 y7 y8))
 | 0 => ⟨fun _ _ _ _ _ _ r h => by simp [cobwebref01_Mul.l0] at h, fun _ _ _ _ _ _ _ _ r h => by simp [cobwebref01_Mul.l1] at h, fun _ _ _ _ _ _ _ _ _ r h => by simp [cobwebref01_Mul.j2] at h⟩
 | k + 1 => by
  obtain ⟨ih0, ih1, ih2⟩ := cobwebref01_Mul.mono_l k; refine ⟨?_, ?_, ?_⟩
  ·intro y0 y1 y2 y3 y4 y5
   unfold cobwebref01_Mul.l0
   repeat' first
   | (with_reducible exact ih0 _ _ _ _ _ _)
   | (with_reducible exact ih1 _ _ _ _ _ _ _ _)
   | (with_reducible exact ih2 _ _ _ _ _ _ _ _ _)
   | (with_reducible exact cobwebref01_trim.mono _ _ _)
   | (with_reducible exact LeO.refl _)
   | (with_reducible exact LeO.none _)
   | (with_reducible refine LeO.ite ?_ ?_)
   | (with_reducible refine LeO.bind ?_ (fun _ => ?_))
   | exact ih0 _ _ _ _ _ _
   | exact ih1 _ _ _ _ _ _ _ _
   | exact ih2 _ _ _ _ _ _ _ _ _
   | exact cobwebref01_trim.mono _ _ _
   | exact LeO.none _
   | refine LeO.ite ?_ ?_
   | refine LeO.bind ?_ (fun _ => ?_)
  ·intro y0 y1 y2 y3 y4 y5 y6 y7
   unfold cobwebref01_Mul.l1
   repeat' first
   | (with_reducible exact ih0 _ _ _ _ _ _)
   | (with_reducible exact ih1 _ _ _ _ _ _ _ _)
   | (with_reducible exact ih2 _ _ _ _ _ _ _ _ _)
   | (with_reducible exact cobwebref01_trim.mono _ _ _)
   | (with_reducible exact LeO.refl _)
   | (with_reducible exact LeO.none _)
   | (with_reducible refine LeO.ite ?_ ?_)
   | (with_reducible refine LeO.bind ?_ (fun _ => ?_))
   | exact ih0 _ _ _ _ _ _
   | exact ih1 _ _ _ _ _ _ _ _
   | exact ih2 _ _ _ _ _ _ _ _ _
   | exact cobwebref01_trim.mono _ _ _
   | exact LeO.none _
   | refine LeO.ite ?_ ?_
   | refine LeO.bind ?_ (fun _ => ?_)
  ·intro y0 y1 y2 y3 y4 y5 y6 y7 y8
   unfold cobwebref01_Mul.j2
   repeat' first
   | (with_reducible exact ih0 _ _ _ _ _ _)
   | (with_reducible exact ih1 _ _ _ _ _ _ _ _)
   | (with_reducible exact ih2 _ _ _ _ _ _ _ _ _)
   | (with_reducible exact cobwebref01_trim.mono _ _ _)
   | (with_reducible exact LeO.refl _)
   | (with_reducible exact LeO.none _)
   | (with_reducible refine LeO.ite ?_ ?_)
   | (with_reducible refine LeO.bind ?_ (fun _ => ?_))
   | exact ih0 _ _ _ _ _ _
   | exact ih1 _ _ _ _ _ _ _ _
   | exact ih2 _ _ _ _ _ _ _ _ _
   | exact cobwebref01_trim.mono _ _ _
   | exact LeO.none _
   | refine LeO.ite ?_ ?_
   | refine LeO.bind ?_ (fun _ => ?_)
theorem cobwebref01_Mul.mono : ∀ a0 a1 a2 a3 k, LeO (cobwebref01_Mul.f k a0 a1 a2 a3) (cobwebref01_Mul.f (k + 1) a0 a1 a2 a3) := by
 intro a0 a1 a2 a3 k; obtain ⟨ih0, ih1, ih2⟩ := cobwebref01_Mul.mono_l k
 unfold cobwebref01_Mul.f
 repeat' first
   | (with_reducible exact ih0 _ _ _ _ _ _)
   | (with_reducible exact ih1 _ _ _ _ _ _ _ _)
   | (with_reducible exact ih2 _ _ _ _ _ _ _ _ _)
   | (with_reducible exact cobwebref01_trim.mono _ _ _)
   | (with_reducible exact LeO.refl _)
   | (with_reducible exact LeO.none _)
   | (with_reducible refine LeO.ite ?_ ?_)
   | (with_reducible refine LeO.bind ?_ (fun _ => ?_))
   | exact ih0 _ _ _ _ _ _
   | exact ih1 _ _ _ _ _ _ _ _
   | exact ih2 _ _ _ _ _ _ _ _ _
   | exact cobwebref01_trim.mono _ _ _
   | exact LeO.none _
   | refine LeO.ite ?_ ?_
   | refine LeO.bind ?_ (fun _ => ?_)
set_option maxHeartbeats 8000000 in
set_option maxRecDepth 100000 in
theorem cobwebref01_Mul.calls (k : Nat) (a0_0 : Bool) (A0_1 : Option Addr) (c0_1 : Nat) (l0_1 : List Int) (a1_0 : Bool) (A1_1 : Option Addr) (c1_1 : Nat) (l1_1 : List Int) (r1 : Bool) (r2 : List Int) (w : World) (hr0_1 : Kd.C (Kd.int .i64) w A0_1 l0_1.length l0_1) (hc0_1 : l0_1.length ≤ c0_1) (hr1_1 : Kd.C (Kd.int .i64) w A1_1 l1_1.length l1_1) (hc1_1 : l1_1.length ≤ c1_1) (h : cobwebref01_Mul.f k a0_0 l0_1 a1_0 l1_1 = some (r1, r2)) :
  Calls Try.prog 18 #[.agg #[.bool a0_0, .slice A0_1 l0_1.length c0_1], .agg #[.bool a1_0, .slice A1_1 l1_1.length c1_1]] w fun e w' => ∃ v1_ : Value, e = .returned (.agg #[.bool r1, v1_]) ∧ Kd.V (Kd.int .i64) 3 w' w.heap.size (fun k_ => (w.heap.size ≤ k_)) v1_ r2 ∧ Below w.heap.size w w' := by
 have hu32 := Try.underlying32; have HR0_1 := Aside0.mk hr0_1; have HC0_1 := Aside0.mk hc0_1; clear hr0_1 hc0_1; have HR1_1 := Aside0.mk hr1_1; have HC1_1 := Aside0.mk hc1_1; clear hr1_1 hc1_1; have HB := Aside0.mk (Below.refl w.heap.size w); have H : (if 0 ≤ (wrap64 ((wrap64 ((l0_1.length : Int) + (l1_1.length : Int))) + 1)) then (if (wrap64 ((wrap64 ((l0_1.length : Int) + (l1_1.length : Int))) + 1) : Int).toNat ≤ 35184372088832 then (cobwebref01_Mul.l0 k (List.replicate (wrap64 ((wrap64 ((l0_1.length : Int) + (l1_1.length : Int))) + 1) : Int).toNat 0) 0 a0_0 l0_1 a1_0 l1_1) else (none)) else (none)) = some (r1, r2) := h; clear h; obtain ⟨ji3, hji3⟩ : ∃ j_ : Int, (wrap64 ((wrap64 ((l0_1.length : Int) + (l1_1.length : Int))) + 1)) = j_ := ⟨_, rfl⟩
 replace H : (if 0 ≤ (ji3) then (if (ji3 : Int).toNat ≤ 35184372088832 then (cobwebref01_Mul.l0 k (List.replicate (ji3 : Int).toNat 0) 0 a0_0 l0_1 a1_0 l1_1) else (none)) else (none)) = some (r1, r2) := by first | (rw [hji3] at H; exact H) | (simp only [hji3] at H ⊢; exact H)
 have hji3w : (IntKind.i64.wrap ((wrap64 ((l0_1.length : Int) + (l1_1.length : Int))) + 1)) = ji3 := (i64_w _).trans hji3
 by_cases c4 : 0 ≤ (ji3)
 rotate_left
 ·rw [if_neg c4] at H
  exact absurd H (by simp)

 rw [if_pos c4] at H
 have c4b0 := eq_true c4; have c4b1 : decide (0 ≤ (ji3)) = true := decide_eq_true c4; clear c4
 by_cases c5 : (ji3 : Int).toNat ≤ 35184372088832
 rotate_left
 ·rw [if_neg c5] at H
  exact absurd H (by simp)
 rw [if_pos c5] at H
 have c5b0 := eq_true c5; have c5b1 : decide ((ji3 : Int).toNat ≤ 35184372088832) = true := decide_eq_true c5; clear c5; obtain ⟨y309, hy309⟩ : ∃ y_ : List Int, y_ = (List.replicate (ji3 : Int).toNat 0) := ⟨_, rfl⟩
 replace H : (cobwebref01_Mul.l0 k y309 0 a0_0 l0_1 a1_0 l1_1) = some (r1, r2) := by first | (rw [hy309]; with_reducible exact H) | (have H2_ := (Option.bind_some _ _).symm.trans H; rw [hy309]; with_reducible exact H2_) | (have H2_ := (Option.bind_some _ _).symm.trans H; with_reducible exact H2_) | with_reducible exact H | (rw [hy309]; exact H) | exact H
 have Ny309 := Aside0.mk hy309; clear hy309; have H' := Aside0.mk H; clear H
 go_enter Try.func18, Try.ntmps18
 go_wp2_with (first | ((with_reducible refine gate_dst (N := 2) rfl ?_); refine box_event ?hg (N := 2) ?hd (cs := #[.bool a0_0, .slice A0_1 l0_1.length c0_1]) (t := 32) ?hr ?_; (case hd => rfl); (case hg => rfl); (case hr => first | (go_simp; done) | (go_simp; rfl)); intro gb306 hg w6 hbox hb; have BK306 := Aside0.mk (hbox); have GW306 := kS HB hg; have GE306 := kS HB hg; replace HB := kB HB hb; clear hb hbox hg) | ((with_reducible refine gate_dst (N := 3) rfl ?_); refine box_event ?hg (N := 3) ?hd (cs := #[.bool a1_0, .slice A1_1 l1_1.length c1_1]) (t := 32) ?hr ?_; (case hd => rfl); (case hg => rfl); (case hr => first | (go_simp; done) | (go_simp; rfl)); intro gb307 hg w7 hbox hb; have BK307 := Aside0.mk (hbox); have GW307 := kS HB hg; have GE307 := kS HB hg; have NB306_307 := kN BK306 hg; have NB307_306 := kM BK306 hg; replace BK306 := kb BK306 hb; replace HB := kB HB hb; clear hb hbox hg) | ((with_reducible refine gate_dst (N := 4) rfl ?_); refine box_event ?hg (N := 4) ?hd (cs := #[.bool false, .slice none 0 0]) (t := 32) ?hr ?_; (case hd => rfl); (case hg => rfl); (case hr => first | (go_simp; done) | (go_simp; rfl)); intro gb308 hg w8 hbox hb; have BK308 := Aside0.mk (hbox); have GW308 := kS HB hg; have GE308 := kS HB hg; have NB306_308 := kN BK306 hg; have NB308_306 := kM BK306 hg; have NB307_308 := kN BK307 hg; have NB308_307 := kM BK307 hg; replace BK306 := kb BK306 hb; replace BK307 := kb BK307 hb; replace HB := kB HB hb; clear hb hbox hg; have hnb9 := NB306_307.out; have hnc9 := NB307_306.out; have hnb10 := NB306_308.out; have hnc10 := NB308_306.out; have hcz11_0 : w8.cell? ⟨gb306, 0, none⟩ = some (.bool a0_0) := kc BK306 0; have hcz11_1 : w8.cell? ⟨gb306, 1, none⟩ = some (.slice A0_1 l0_1.length c0_1) := kc BK306 1; have hfz11_0 := blk_frozen BK306.out 0; have hfz11_1 := blk_frozen BK306.out 1; have hnb12 := NB307_308.out; have hnc12 := NB308_307.out; have hcz13_0 : w8.cell? ⟨gb307, 0, none⟩ = some (.bool a1_0) := kc BK307 0; have hcz13_1 : w8.cell? ⟨gb307, 1, none⟩ = some (.slice A1_1 l1_1.length c1_1) := kc BK307 1; have hfz13_0 := blk_frozen BK307.out 0; have hfz13_1 := blk_frozen BK307.out 1) | ((with_reducible refine gate_dst (N := 17) rfl ?_); refine Kd.R_make (Kd.int .i64) _ 3 rfl (N := 17) rfl 30 _ _ rfl ji3 rfl rfl Try.underlying30 (.int .i64 0) 8 info3 rfl (by decide) (by omega) 0 (ok := fun _ => True) (okp := fun _ => True) rfl (fun _ hk => hk) trivial (of_decide_eq_true (by first | (with_reducible assumption) | assumption)) (Nat.le_trans (Nat.mul_le_mul_right _ (of_decide_eq_true (by first | (with_reducible assumption) | assumption) : ji3.toNat ≤ 35184372088832)) (by omega)) (Below.refl _ _) (Nat.le_refl _) ?_; intro v310 w14 ho15 hb hg_ hnew_; clear hg_ hnew_; (first | rw [← Ny309.out] at ho15 | (simp only [Int.reduceToNat] at ho15; rw [← Ny309.out] at ho15)); have HO311 := Aside0.mk (Kd.R_lower (Kd.R_newM (M := fun k_ => (w.heap.size ≤ k_)) ho15 (ko HB) (fun k_ h_ => h_)) (ko HB)); replace BK306 := kb BK306 hb; replace BK307 := kb BK307 hb; replace BK308 := kb BK308 hb; replace HB := kB HB hb; clear hb ho15))
 repeat (go_quiet (first | ((with_reducible refine gate_dst (N := 2) rfl ?_); refine box_event ?hg (N := 2) ?hd (cs := #[.bool a0_0, .slice A0_1 l0_1.length c0_1]) (t := 32) ?hr ?_; (case hd => rfl); (case hg => rfl); (case hr => first | (go_simp; done) | (go_simp; rfl)); intro gb306 hg w6 hbox hb; have BK306 := Aside0.mk (hbox); have GW306 := kS HB hg; have GE306 := kS HB hg; replace HB := kB HB hb; clear hb hbox hg) | ((with_reducible refine gate_dst (N := 3) rfl ?_); refine box_event ?hg (N := 3) ?hd (cs := #[.bool a1_0, .slice A1_1 l1_1.length c1_1]) (t := 32) ?hr ?_; (case hd => rfl); (case hg => rfl); (case hr => first | (go_simp; done) | (go_simp; rfl)); intro gb307 hg w7 hbox hb; have BK307 := Aside0.mk (hbox); have GW307 := kS HB hg; have GE307 := kS HB hg; have NB306_307 := kN BK306 hg; have NB307_306 := kM BK306 hg; replace BK306 := kb BK306 hb; replace HB := kB HB hb; clear hb hbox hg) | ((with_reducible refine gate_dst (N := 4) rfl ?_); refine box_event ?hg (N := 4) ?hd (cs := #[.bool false, .slice none 0 0]) (t := 32) ?hr ?_; (case hd => rfl); (case hg => rfl); (case hr => first | (go_simp; done) | (go_simp; rfl)); intro gb308 hg w8 hbox hb; have BK308 := Aside0.mk (hbox); have GW308 := kS HB hg; have GE308 := kS HB hg; have NB306_308 := kN BK306 hg; have NB308_306 := kM BK306 hg; have NB307_308 := kN BK307 hg; have NB308_307 := kM BK307 hg; replace BK306 := kb BK306 hb; replace BK307 := kb BK307 hb; replace HB := kB HB hb; clear hb hbox hg; have hnb9 := NB306_307.out; have hnc9 := NB307_306.out; have hnb10 := NB306_308.out; have hnc10 := NB308_306.out; have hcz11_0 : w8.cell? ⟨gb306, 0, none⟩ = some (.bool a0_0) := kc BK306 0; have hcz11_1 : w8.cell? ⟨gb306, 1, none⟩ = some (.slice A0_1 l0_1.length c0_1) := kc BK306 1; have hfz11_0 := blk_frozen BK306.out 0; have hfz11_1 := blk_frozen BK306.out 1; have hnb12 := NB307_308.out; have hnc12 := NB308_307.out; have hcz13_0 : w8.cell? ⟨gb307, 0, none⟩ = some (.bool a1_0) := kc BK307 0; have hcz13_1 : w8.cell? ⟨gb307, 1, none⟩ = some (.slice A1_1 l1_1.length c1_1) := kc BK307 1; have hfz13_0 := blk_frozen BK307.out 0; have hfz13_1 := blk_frozen BK307.out 1) | ((with_reducible refine gate_dst (N := 17) rfl ?_); refine Kd.R_make (Kd.int .i64) _ 3 rfl (N := 17) rfl 30 _ _ rfl ji3 rfl rfl Try.underlying30 (.int .i64 0) 8 info3 rfl (by decide) (by omega) 0 (ok := fun _ => True) (okp := fun _ => True) rfl (fun _ hk => hk) trivial (of_decide_eq_true (by first | (with_reducible assumption) | assumption)) (Nat.le_trans (Nat.mul_le_mul_right _ (of_decide_eq_true (by first | (with_reducible assumption) | assumption) : ji3.toNat ≤ 35184372088832)) (by omega)) (Below.refl _ _) (Nat.le_refl _) ?_; intro v310 w14 ho15 hb hg_ hnew_; clear hg_ hnew_; (first | rw [← Ny309.out] at ho15 | (simp only [Int.reduceToNat] at ho15; rw [← Ny309.out] at ho15)); have HO311 := Aside0.mk (Kd.R_lower (Kd.R_newM (M := fun k_ => (w.heap.size ≤ k_)) ho15 (ko HB) (fun k_ h_ => h_)) (ko HB)); replace BK306 := kb BK306 hb; replace BK307 := kb BK307 hb; replace BK308 := kb BK308 hb; replace HB := kB HB hb; clear hb ho15)); try go_wp2_with (first | ((with_reducible refine gate_dst (N := 2) rfl ?_); refine box_event ?hg (N := 2) ?hd (cs := #[.bool a0_0, .slice A0_1 l0_1.length c0_1]) (t := 32) ?hr ?_; (case hd => rfl); (case hg => rfl); (case hr => first | (go_simp; done) | (go_simp; rfl)); intro gb306 hg w6 hbox hb; have BK306 := Aside0.mk (hbox); have GW306 := kS HB hg; have GE306 := kS HB hg; replace HB := kB HB hb; clear hb hbox hg) | ((with_reducible refine gate_dst (N := 3) rfl ?_); refine box_event ?hg (N := 3) ?hd (cs := #[.bool a1_0, .slice A1_1 l1_1.length c1_1]) (t := 32) ?hr ?_; (case hd => rfl); (case hg => rfl); (case hr => first | (go_simp; done) | (go_simp; rfl)); intro gb307 hg w7 hbox hb; have BK307 := Aside0.mk (hbox); have GW307 := kS HB hg; have GE307 := kS HB hg; have NB306_307 := kN BK306 hg; have NB307_306 := kM BK306 hg; replace BK306 := kb BK306 hb; replace HB := kB HB hb; clear hb hbox hg) | ((with_reducible refine gate_dst (N := 4) rfl ?_); refine box_event ?hg (N := 4) ?hd (cs := #[.bool false, .slice none 0 0]) (t := 32) ?hr ?_; (case hd => rfl); (case hg => rfl); (case hr => first | (go_simp; done) | (go_simp; rfl)); intro gb308 hg w8 hbox hb; have BK308 := Aside0.mk (hbox); have GW308 := kS HB hg; have GE308 := kS HB hg; have NB306_308 := kN BK306 hg; have NB308_306 := kM BK306 hg; have NB307_308 := kN BK307 hg; have NB308_307 := kM BK307 hg; replace BK306 := kb BK306 hb; replace BK307 := kb BK307 hb; replace HB := kB HB hb; clear hb hbox hg; have hnb9 := NB306_307.out; have hnc9 := NB307_306.out; have hnb10 := NB306_308.out; have hnc10 := NB308_306.out; have hcz11_0 : w8.cell? ⟨gb306, 0, none⟩ = some (.bool a0_0) := kc BK306 0; have hcz11_1 : w8.cell? ⟨gb306, 1, none⟩ = some (.slice A0_1 l0_1.length c0_1) := kc BK306 1; have hfz11_0 := blk_frozen BK306.out 0; have hfz11_1 := blk_frozen BK306.out 1; have hnb12 := NB307_308.out; have hnc12 := NB308_307.out; have hcz13_0 : w8.cell? ⟨gb307, 0, none⟩ = some (.bool a1_0) := kc BK307 0; have hcz13_1 : w8.cell? ⟨gb307, 1, none⟩ = some (.slice A1_1 l1_1.length c1_1) := kc BK307 1; have hfz13_0 := blk_frozen BK307.out 0; have hfz13_1 := blk_frozen BK307.out 1) | ((with_reducible refine gate_dst (N := 17) rfl ?_); refine Kd.R_make (Kd.int .i64) _ 3 rfl (N := 17) rfl 30 _ _ rfl ji3 rfl rfl Try.underlying30 (.int .i64 0) 8 info3 rfl (by decide) (by omega) 0 (ok := fun _ => True) (okp := fun _ => True) rfl (fun _ hk => hk) trivial (of_decide_eq_true (by first | (with_reducible assumption) | assumption)) (Nat.le_trans (Nat.mul_le_mul_right _ (of_decide_eq_true (by first | (with_reducible assumption) | assumption) : ji3.toNat ≤ 35184372088832)) (by omega)) (Below.refl _ _) (Nat.le_refl _) ?_; intro v310 w14 ho15 hb hg_ hnew_; clear hg_ hnew_; (first | rw [← Ny309.out] at ho15 | (simp only [Int.reduceToNat] at ho15; rw [← Ny309.out] at ho15)); have HO311 := Aside0.mk (Kd.R_lower (Kd.R_newM (M := fun k_ => (w.heap.size ≤ k_)) ho15 (ko HB) (fun k_ h_ => h_)) (ko HB)); replace BK306 := kb BK306 hb; replace BK307 := kb BK307 hb; replace BK308 := kb BK308 hb; replace HB := kB HB hb; clear hb ho15)))
 go_loopg [6] k (fun kq v6 w' => ∃ (x5_1 : List Int) (x6_1 : Int), v6 = .int .i64 x6_1 ∧ Aside0 (cobwebref01_Mul.l0 kq x5_1 x6_1 a0_0 l0_1 a1_0 l1_1 = some (r1, r2)) ∧ Aside0 (kq ≤ k) ∧ Aside0 (Kd.R (Kd.int .i64) 3 w' w.heap.size (fun k_ => (w.heap.size ≤ k_)) v310 x5_1) ∧ Aside0 (w'.heap[gb306]? = some (.cells #[.bool a0_0, (.slice A0_1 l0_1.length c0_1)] 32 (0, 0))) ∧ Aside0 (w'.heap[gb307]? = some (.cells #[.bool a1_0, (.slice A1_1 l1_1.length c1_1)] 32 (0, 0))) ∧ Aside0 (w'.heap[gb308]? = some (.cells #[.bool false, (.slice none 0 0)] 32 (0, 0))) ∧ Aside0 (Below w.heap.size w w'))
 case atStart => exact ⟨(y309), (0), (by first | rfl | (simp; done) | (simp [*]; done)), H', ⟨Nat.le_refl _⟩, ⟨by (with_reducible repeat (first | apply Kd.R_alloc | apply Kd.R_drewN | apply Kd.R_drew)); exact Kd.R_mono HO311.out (fun _ hk => hk.1)⟩, ⟨kx BK306⟩, ⟨kx BK307⟩, ⟨kx BK308⟩, ⟨ky HB⟩⟩
 case round =>
  clear H'
  try clear c1; try clear p2; try clear c4; try clear c4b0; try clear c4b1; try clear c5; try clear c5b0; try clear c5b1; try clear p6; try clear c9; try clear c10; try clear c12; try clear hcz11_0; try clear hcz11_1; try clear hcz13_0; try clear hcz13_1; try clear hfz11_0; try clear hfz11_1; try clear hfz13_0; try clear hfz13_1
  obtain ⟨x5_1, x6_1, rfl, HA, HK1, HO_5, BK306, BK307, BK308, HB⟩ := hrel
  cases gk with
  | zero => exact absurd HA.out (by simp [cobwebref01_Mul.l0])
  | succ k1 =>
   have H := HA.out; clear HA
   simp only [cobwebref01_Mul.l0] at H
   by_cases c16 : x6_1 < (l0_1.length : Int)
   rotate_left
   ·rw [if_neg c16] at H
    have c16b0 : decide (x6_1 < (l0_1.length : Int)) = false := decide_eq_false c16; clear c16; replace H := Option.bind_eq_some_iff.mp H; obtain ⟨⟨t312, t313⟩, A480, H⟩ := H; replace H : (some (t312, t313)) = some (r1, r2) := H; have A48 := Aside0.mk A480; clear A480
    simp only [Option.some.injEq, Prod.mk.injEq] at H
    obtain ⟨rfl, rfl⟩ := H; have hnb49 := NB306_307.out; have hnc49 := NB307_306.out; have hnb50 := NB306_308.out; have hnc50 := NB308_306.out; obtain ⟨hcz51_0, hcz51_1⟩ := kc2 BK306; obtain ⟨hfz51_0, hfz51_1⟩ := kf2 BK306; have hnb52 := NB307_308.out; have hnc52 := NB308_307.out; obtain ⟨hcz53_0, hcz53_1⟩ := kc2 BK307; obtain ⟨hfz53_0, hfz53_1⟩ := kf2 BK307; obtain ⟨Ao54, co54, eo54⟩ := Kd.R_slice HO_5.out; subst eo54
    go_wp2_with (first | (go_at_call 57; (with_reducible refine (cobwebref01_trim.calls k1 (!(a0_0 == a1_0)) (fun k_ => some k_ = (.slice Ao54 x5_1.length co54 : Value).ownBlock) _ _ x5_1 t312 t313 _ ?side1 A48.out).mono ?_); (case side1 => exact Kd.R_V (Kd.R_tight rfl (Kd.R_types (Kd.R_types (Kd.R_types (HO_5.out) BK306.out (by decide)) BK307.out (by decide)) BK308.out (by decide)))); rintro e w55 ⟨v314, rfl, ho0, hb⟩; have HO315 := Aside0.mk (Kd.V_lower (Kd.V_mono (ok' := fun k_ => (w.heap.size ≤ k_) ∧ k_ ≠ gb306 ∧ k_ ≠ gb307 ∧ k_ ≠ gb308) ho0 (fun k_ hk_ => ⟨Or.elim hk_ (fun hs_ => ((Kd.R_types (Kd.R_types (Kd.R_types (HO_5.out) BK306.out (by decide)) BK307.out (by decide)) BK308.out (by decide)).1 k_ hs_.symm).1.1.1) (fun hn_ => (Nat.le_trans (ko HB) hn_)), Or.elim hk_ (fun hs_ => ((Kd.R_types (Kd.R_types (Kd.R_types (HO_5.out) BK306.out (by decide)) BK307.out (by decide)) BK308.out (by decide)).1 k_ hs_.symm).1.1.2) (fun hn_ => (Kd.freshB (g := gb306) (o := .cells #[.bool a0_0, .slice A0_1 l0_1.length c0_1] 32 (0, 0)) (kx BK306) k_ hn_)), Or.elim hk_ (fun hs_ => ((Kd.R_types (Kd.R_types (Kd.R_types (HO_5.out) BK306.out (by decide)) BK307.out (by decide)) BK308.out (by decide)).1 k_ hs_.symm).1.2) (fun hn_ => (Kd.freshB (g := gb307) (o := .cells #[.bool a1_0, .slice A1_1 l1_1.length c1_1] 32 (0, 0)) (kx BK307) k_ hn_)), Or.elim hk_ (fun hs_ => ((Kd.R_types (Kd.R_types (Kd.R_types (HO_5.out) BK306.out (by decide)) BK307.out (by decide)) BK308.out (by decide)).1 k_ hs_.symm).2) (fun hn_ => (Kd.freshB (g := gb308) (o := .cells #[.bool false, .slice none 0 0] 32 (0, 0)) (kx BK308) k_ hn_))⟩)) (ko HB)); replace HO_5 := kR HO_5 hb; replace BK306 := kb BK306 hb; replace BK307 := kb BK307 hb; replace BK308 := kb BK308 hb; replace HB := kB HB hb; (try clear hb); (try clear hb2); (try clear hk); (try clear hi); (try clear ho0); have hcz56_0 : w55.cell? ⟨gb308, 0, none⟩ = some (.bool false) := kc BK308 0; have hcz56_1 : w55.cell? ⟨gb308, 1, none⟩ = some (.slice none 0 0) := kc BK308 1; have hfz56_0 := blk_frozen BK308.out 0; have hfz56_1 := blk_frozen BK308.out 1; obtain ⟨Ao57, co57, eo57⟩ := Kd.V_slice HO315.out; subst eo57))
    repeat (go_quiet (first | (go_at_call 57; (with_reducible refine (cobwebref01_trim.calls k1 (!(a0_0 == a1_0)) (fun k_ => some k_ = (.slice Ao54 x5_1.length co54 : Value).ownBlock) _ _ x5_1 t312 t313 _ ?side1 A48.out).mono ?_); (case side1 => exact Kd.R_V (Kd.R_tight rfl (Kd.R_types (Kd.R_types (Kd.R_types (HO_5.out) BK306.out (by decide)) BK307.out (by decide)) BK308.out (by decide)))); rintro e w55 ⟨v314, rfl, ho0, hb⟩; have HO315 := Aside0.mk (Kd.V_lower (Kd.V_mono (ok' := fun k_ => (w.heap.size ≤ k_) ∧ k_ ≠ gb306 ∧ k_ ≠ gb307 ∧ k_ ≠ gb308) ho0 (fun k_ hk_ => ⟨Or.elim hk_ (fun hs_ => ((Kd.R_types (Kd.R_types (Kd.R_types (HO_5.out) BK306.out (by decide)) BK307.out (by decide)) BK308.out (by decide)).1 k_ hs_.symm).1.1.1) (fun hn_ => (Nat.le_trans (ko HB) hn_)), Or.elim hk_ (fun hs_ => ((Kd.R_types (Kd.R_types (Kd.R_types (HO_5.out) BK306.out (by decide)) BK307.out (by decide)) BK308.out (by decide)).1 k_ hs_.symm).1.1.2) (fun hn_ => (Kd.freshB (g := gb306) (o := .cells #[.bool a0_0, .slice A0_1 l0_1.length c0_1] 32 (0, 0)) (kx BK306) k_ hn_)), Or.elim hk_ (fun hs_ => ((Kd.R_types (Kd.R_types (Kd.R_types (HO_5.out) BK306.out (by decide)) BK307.out (by decide)) BK308.out (by decide)).1 k_ hs_.symm).1.2) (fun hn_ => (Kd.freshB (g := gb307) (o := .cells #[.bool a1_0, .slice A1_1 l1_1.length c1_1] 32 (0, 0)) (kx BK307) k_ hn_)), Or.elim hk_ (fun hs_ => ((Kd.R_types (Kd.R_types (Kd.R_types (HO_5.out) BK306.out (by decide)) BK307.out (by decide)) BK308.out (by decide)).1 k_ hs_.symm).2) (fun hn_ => (Kd.freshB (g := gb308) (o := .cells #[.bool false, .slice none 0 0] 32 (0, 0)) (kx BK308) k_ hn_))⟩)) (ko HB)); replace HO_5 := kR HO_5 hb; replace BK306 := kb BK306 hb; replace BK307 := kb BK307 hb; replace BK308 := kb BK308 hb; replace HB := kB HB hb; (try clear hb); (try clear hb2); (try clear hk); (try clear hi); (try clear ho0); have hcz56_0 : w55.cell? ⟨gb308, 0, none⟩ = some (.bool false) := kc BK308 0; have hcz56_1 : w55.cell? ⟨gb308, 1, none⟩ = some (.slice none 0 0) := kc BK308 1; have hfz56_0 := blk_frozen BK308.out 0; have hfz56_1 := blk_frozen BK308.out 1; obtain ⟨Ao57, co57, eo57⟩ := Kd.V_slice HO315.out; subst eo57)); try go_wp2_with (first | (go_at_call 57; (with_reducible refine (cobwebref01_trim.calls k1 (!(a0_0 == a1_0)) (fun k_ => some k_ = (.slice Ao54 x5_1.length co54 : Value).ownBlock) _ _ x5_1 t312 t313 _ ?side1 A48.out).mono ?_); (case side1 => exact Kd.R_V (Kd.R_tight rfl (Kd.R_types (Kd.R_types (Kd.R_types (HO_5.out) BK306.out (by decide)) BK307.out (by decide)) BK308.out (by decide)))); rintro e w55 ⟨v314, rfl, ho0, hb⟩; have HO315 := Aside0.mk (Kd.V_lower (Kd.V_mono (ok' := fun k_ => (w.heap.size ≤ k_) ∧ k_ ≠ gb306 ∧ k_ ≠ gb307 ∧ k_ ≠ gb308) ho0 (fun k_ hk_ => ⟨Or.elim hk_ (fun hs_ => ((Kd.R_types (Kd.R_types (Kd.R_types (HO_5.out) BK306.out (by decide)) BK307.out (by decide)) BK308.out (by decide)).1 k_ hs_.symm).1.1.1) (fun hn_ => (Nat.le_trans (ko HB) hn_)), Or.elim hk_ (fun hs_ => ((Kd.R_types (Kd.R_types (Kd.R_types (HO_5.out) BK306.out (by decide)) BK307.out (by decide)) BK308.out (by decide)).1 k_ hs_.symm).1.1.2) (fun hn_ => (Kd.freshB (g := gb306) (o := .cells #[.bool a0_0, .slice A0_1 l0_1.length c0_1] 32 (0, 0)) (kx BK306) k_ hn_)), Or.elim hk_ (fun hs_ => ((Kd.R_types (Kd.R_types (Kd.R_types (HO_5.out) BK306.out (by decide)) BK307.out (by decide)) BK308.out (by decide)).1 k_ hs_.symm).1.2) (fun hn_ => (Kd.freshB (g := gb307) (o := .cells #[.bool a1_0, .slice A1_1 l1_1.length c1_1] 32 (0, 0)) (kx BK307) k_ hn_)), Or.elim hk_ (fun hs_ => ((Kd.R_types (Kd.R_types (Kd.R_types (HO_5.out) BK306.out (by decide)) BK307.out (by decide)) BK308.out (by decide)).1 k_ hs_.symm).2) (fun hn_ => (Kd.freshB (g := gb308) (o := .cells #[.bool false, .slice none 0 0] 32 (0, 0)) (kx BK308) k_ hn_))⟩)) (ko HB)); replace HO_5 := kR HO_5 hb; replace BK306 := kb BK306 hb; replace BK307 := kb BK307 hb; replace BK308 := kb BK308 hb; replace HB := kB HB hb; (try clear hb); (try clear hb2); (try clear hk); (try clear hi); (try clear ho0); have hcz56_0 : w55.cell? ⟨gb308, 0, none⟩ = some (.bool false) := kc BK308 0; have hcz56_1 : w55.cell? ⟨gb308, 1, none⟩ = some (.slice none 0 0) := kc BK308 1; have hfz56_0 := blk_frozen BK308.out 0; have hfz56_1 := blk_frozen BK308.out 1; obtain ⟨Ao57, co57, eo57⟩ := Kd.V_slice HO315.out; subst eo57)))
    refine bodyPost_ret (results_cell_row rfl _ _ gb308 32 #[.bool t312, .slice Ao57 t313.length co57] (0, 0) _ rfl (by (with_reducible repeat (first | refine zr ?_ _ | refine zw ?_ | refine za ?_ _)); refine blk_put (cs := #[.bool t312, .slice none 0 0]) ?_ 1 _ rfl; (with_reducible repeat (first | refine zr ?_ _ | refine zw ?_ | refine za ?_ _)); refine blk_put (cs := #[.bool false, .slice none 0 0]) ?_ 0 _ rfl; (with_reducible repeat (first | refine zr ?_ _ | refine zw ?_ | refine za ?_ _)); exact BK308.out) Try.underlying32 rfl (by kernel_rfl)) rfl ?_; exact ⟨_, by first | rfl | (simp [errW_none, errW_some] <;> rfl) | (simp only [← hji3]; first | rfl | (simp [errW_none, errW_some] <;> rfl)) | (simp [*, errW_none, errW_some] <;> rfl), by (with_reducible repeat (first | apply Kd.V_alloc | apply Kd.V_drewN | apply Kd.V_drew)); exact Kd.V_mono (Kd.V_far (p := ⟨gb308, 1, none⟩) (Kd.V_far (p := ⟨gb308, 0, none⟩) (Kd.V_mono HO315.out (fun k_ hk => (⟨hk, hk.2.2.2⟩ : _ ∧ k_ ≠ gb308))) (fun _ hk => hk.2) (.bool t312)) (fun _ hk => hk.2) (.slice Ao57 t313.length co57)) (fun _ hk => hk.1.1), ky HB⟩
   rw [if_pos c16] at H
   have c16b0 : decide (x6_1 < (l0_1.length : Int)) = true := decide_eq_true c16; clear c16; have H' := Aside0.mk H; clear H; have hnb17 := NB306_307.out; have hnc17 := NB307_306.out; have hnb18 := NB306_308.out; have hnc18 := NB308_306.out; obtain ⟨hcz19_0, hcz19_1⟩ := kc2 BK306; obtain ⟨hfz19_0, hfz19_1⟩ := kf2 BK306
   go_wp2
   repeat (go_quiet (fail); try go_wp2)
   go_loopg [7, 8] k1 (fun kq v7 v8 w' => ∃ (x5_2 : List Int) (x7_2 : Int) (x8_2 : Int), v7 = .int .i64 x7_2 ∧ v8 = .int .i64 x8_2 ∧ Aside0 (cobwebref01_Mul.l1 kq x5_2 x6_1 x7_2 x8_2 a0_0 l0_1 a1_0 l1_1 = some (r1, r2)) ∧ Aside0 (kq ≤ k1) ∧ Aside0 (Kd.R (Kd.int .i64) 3 w' w.heap.size (fun k_ => (w.heap.size ≤ k_)) v310 x5_2) ∧ Aside0 (w'.heap[gb306]? = some (.cells #[.bool a0_0, (.slice A0_1 l0_1.length c0_1)] 32 (0, 0))) ∧ Aside0 (w'.heap[gb307]? = some (.cells #[.bool a1_0, (.slice A1_1 l1_1.length c1_1)] 32 (0, 0))) ∧ Aside0 (w'.heap[gb308]? = some (.cells #[.bool false, (.slice none 0 0)] 32 (0, 0))) ∧ Aside0 (Below w.heap.size w w'))
   case atStart => exact ⟨(x5_1), (0), (0), (by first | rfl | (simp; done) | (simp [*]; done)), (by first | rfl | (simp; done) | (simp [*]; done)), H', ⟨Nat.le_refl _⟩, ⟨by (with_reducible repeat (first | apply Kd.R_alloc | apply Kd.R_drewN | apply Kd.R_drew)); exact HO_5.out⟩, ⟨kx BK306⟩, ⟨kx BK307⟩, ⟨kx BK308⟩, ⟨ky HB⟩⟩
   case round =>
    clear H'
    try clear c1; try clear p2; try clear c4; try clear c4b0; try clear c4b1; try clear c5; try clear c5b0; try clear c5b1; try clear p6; try clear c9; try clear c10; try clear c12; try clear c16; try clear c16b0; try clear c17; try clear c18; try clear hcz11_0; try clear hcz11_1; try clear hcz13_0; try clear hcz13_1; try clear hcz19_0; try clear hcz19_1; try clear hfz11_0; try clear hfz11_1; try clear hfz13_0; try clear hfz13_1; try clear hfz19_0; try clear hfz19_1; try clear p2; try clear p6
    obtain ⟨x5_2, x7_2, x8_2, rfl, rfl, HA, HK2, HO_5, BK306, BK307, BK308, HB⟩ := hrel
    cases gk with
    | zero => exact absurd HA.out (by simp [cobwebref01_Mul.l1])
    | succ k2 =>
     have H := HA.out; clear HA
     simp only [cobwebref01_Mul.l1] at H
     have HC20 := Aside0.mk H; clear H
     go_upto_region 7 with (fail)
     repeat (go_quiet (fail); go_upto_region 7 with (fail))
     go_cut [33] (fun v33 wc => ∃ (kq : Nat) (x33_19 : Bool), v33 = .bool x33_19 ∧ Aside0 (cobwebref01_Mul.j2 kq x5_2 x6_1 x7_2 x8_2 x33_19 a0_0 l0_1 a1_0 l1_1 = some (r1, r2)) ∧ Aside0 (kq ≤ k2) ∧ Aside0 (Kd.R (Kd.int .i64) 3 wc w.heap.size (fun k_ => (w.heap.size ≤ k_)) v310 x5_2) ∧ Aside0 (wc.heap[gb306]? = some (.cells #[.bool a0_0, (.slice A0_1 l0_1.length c0_1)] 32 (0, 0))) ∧ Aside0 (wc.heap[gb307]? = some (.cells #[.bool a1_0, (.slice A1_1 l1_1.length c1_1)] 32 (0, 0))) ∧ Aside0 (wc.heap[gb308]? = some (.cells #[.bool false, (.slice none 0 0)] 32 (0, 0))) ∧ Aside0 (Below w.heap.size w wc))
     case first =>
      have H := HC20.out; clear HC20
      by_cases c21 : x8_2 < (l1_1.length : Int)
      ·rw [if_pos c21] at H
       have c21b0 : decide (x8_2 < (l1_1.length : Int)) = true := decide_eq_true c21; clear c21
       (first | rw [c21b0] | (simp only [i64_w, i32_w]; rw [c21b0]) | skip)
       have H' := Aside0.mk H; clear H; have hnb22 := NB307_306.out; have hnc22 := NB306_307.out; have hnb23 := NB307_308.out; have hnc23 := NB308_307.out; obtain ⟨hcz24_0, hcz24_1⟩ := kc2 BK307; obtain ⟨hfz24_0, hfz24_1⟩ := kf2 BK307
       go_wp2
       repeat (go_quiet (fail); try go_wp2)
       go_meet
       case rel => exact ⟨_, (true), (by first | rfl | (simp; done) | (simp [*]; done)), H', ⟨by have := HK1.out; have := HK2.out; first | omega | exact Nat.le_refl _⟩, ⟨by (with_reducible repeat (first | apply Kd.R_alloc | apply Kd.R_drewN | apply Kd.R_drew)); exact HO_5.out⟩, ⟨kx BK306⟩, ⟨kx BK307⟩, ⟨kx BK308⟩, ⟨ky HB⟩⟩
      rw [if_neg c21] at H
      have c21b0 : decide (x8_2 < (l1_1.length : Int)) = false := decide_eq_false c21; clear c21
      (first | rw [c21b0] | (simp only [i64_w, i32_w]; rw [c21b0]) | skip)
      have H' := Aside0.mk H; clear H; have hnb25 := NB307_306.out; have hnc25 := NB306_307.out; have hnb26 := NB307_308.out; have hnc26 := NB308_307.out; obtain ⟨hcz27_0, hcz27_1⟩ := kc2 BK307; obtain ⟨hfz27_0, hfz27_1⟩ := kf2 BK307
      go_wp2
      repeat (go_quiet (fail); try go_wp2)
      go_meet
      case rel => exact ⟨_, (decide (x7_2 > 0)), (by first | rfl | (simp; done) | (simp [*]; done)), H', ⟨by have := HK1.out; have := HK2.out; first | omega | exact Nat.le_refl _⟩, ⟨by (with_reducible repeat (first | apply Kd.R_alloc | apply Kd.R_drewN | apply Kd.R_drew)); exact HO_5.out⟩, ⟨kx BK306⟩, ⟨kx BK307⟩, ⟨kx BK308⟩, ⟨ky HB⟩⟩
     case rest =>
      clear HC20; try clear c1; try clear c2; try clear p2; try clear c4; try clear c4b0; try clear c4b1; try clear c5; try clear c5b0; try clear c5b1; try clear p6; try clear c9; try clear c10; try clear c12; try clear c16; try clear c16b0; try clear c17; try clear c18; try clear c21; try clear c21b0; try clear c22; try clear c23; try clear c25; try clear c26; try clear hcz11_0; try clear hcz11_1; try clear hcz13_0; try clear hcz13_1; try clear hcz19_0; try clear hcz19_1; try clear hcz24_0; try clear hcz24_1; try clear hcz27_0; try clear hcz27_1; try clear hfz11_0; try clear hfz11_1; try clear hfz13_0; try clear hfz13_1; try clear hfz19_0; try clear hfz19_1; try clear hfz24_0; try clear hfz24_1; try clear hfz27_0; try clear hfz27_1; try clear p2; try clear p6
      obtain ⟨kq, x33_19, rfl, HA, HJ19, HO_5, BK306, BK307, BK308, HB⟩ := hcut
      cases kq with
      | zero => exact absurd HA.out (by simp [cobwebref01_Mul.j2])
      | succ kj19 =>
       have H := HA.out; clear HA
       simp only [cobwebref01_Mul.j2] at H
       by_cases c28 : x33_19 = true
       rotate_left
       ·replace c28 := Bool.eq_false_iff.mpr c28; subst c28
        have H1 : (cobwebref01_Mul.l0 kj19 x5_2 (wrap64 (x6_1 + 1)) a0_0 l0_1 a1_0 l1_1) = some (r1, r2) := by rw [if_neg (show ¬ (false = true) by decide)] at H; exact H
        clear H; have H := H1; clear H1; have H' := Aside0.mk H; clear H
        go_wp2
        repeat (go_quiet (fail); try go_wp2)
        go_roundg kj19
        case measure => have := HK1.out; have := HK2.out; have := HJ19.out; omega
        case rel => exact ⟨(x5_2), (wrap64 (x6_1 + 1)), (by first | rfl | (simp; done) | (simp [*]; done)), H', ⟨by have := HK1.out; have := HK2.out; have := HJ19.out; omega⟩, ⟨by (with_reducible repeat (first | apply Kd.R_alloc | apply Kd.R_drewN | apply Kd.R_drew)); exact HO_5.out⟩, ⟨kx BK306⟩, ⟨kx BK307⟩, ⟨kx BK308⟩, ⟨ky HB⟩⟩
       subst c28
       have H1 : (if 0 ≤ (wrap64 (x6_1 + x8_2)) then (if (wrap64 (x6_1 + x8_2)) < (x5_2.length : Int) then (if 0 ≤ x6_1 then (if x6_1 < (l0_1.length : Int) then ((cobwebref01_digit.f l1_1 x8_2).bind fun t318 => ((cobwebref01_base.f).bind fun t319 => (if t319 = 0 then (none) else ((cobwebref01_base.f).bind fun t321 => (if t321 = 0 then (none) else (cobwebref01_Mul.l1 kj19 (x5_2.set ((wrap64 (x6_1 + x8_2)) : Int).toNat (Int.tmod (wrap64 ((wrap64 (x7_2 + (rd x5_2 (wrap64 (x6_1 + x8_2))))) + (wrap64 ((rd l0_1 x6_1) * t318)))) t319)) x6_1 (wrap64 (Int.tdiv (wrap64 ((wrap64 (x7_2 + (rd x5_2 (wrap64 (x6_1 + x8_2))))) + (wrap64 ((rd l0_1 x6_1) * t318)))) t321)) (wrap64 (x8_2 + 1)) a0_0 l0_1 a1_0 l1_1)))))) else (none)) else (none)) else (none)) else (none)) = some (r1, r2) := by rw [if_pos rfl] at H; exact H
       clear H; have H := H1; clear H1; obtain ⟨ji29, hji29⟩ : ∃ j_ : Int, (wrap64 (x6_1 + x8_2)) = j_ := ⟨_, rfl⟩
       replace H : (if 0 ≤ (ji29) then (if (ji29) < (x5_2.length : Int) then (if 0 ≤ x6_1 then (if x6_1 < (l0_1.length : Int) then ((cobwebref01_digit.f l1_1 x8_2).bind fun t318 => ((cobwebref01_base.f).bind fun t319 => (if t319 = 0 then (none) else ((cobwebref01_base.f).bind fun t321 => (if t321 = 0 then (none) else (cobwebref01_Mul.l1 kj19 (x5_2.set ((ji29) : Int).toNat (Int.tmod (wrap64 ((wrap64 (x7_2 + (rd x5_2 (ji29)))) + (wrap64 ((rd l0_1 x6_1) * t318)))) t319)) x6_1 (wrap64 (Int.tdiv (wrap64 ((wrap64 (x7_2 + (rd x5_2 (ji29)))) + (wrap64 ((rd l0_1 x6_1) * t318)))) t321)) (wrap64 (x8_2 + 1)) a0_0 l0_1 a1_0 l1_1)))))) else (none)) else (none)) else (none)) else (none)) = some (r1, r2) := by first | (rw [hji29] at H; exact H) | (simp only [hji29] at H ⊢; exact H)
       have hji29w : (IntKind.i64.wrap (x6_1 + x8_2)) = ji29 := (i64_w _).trans hji29
       by_cases c30 : 0 ≤ (ji29)
       rotate_left
       ·rw [if_neg c30] at H
        exact absurd H (by simp)
       rw [if_pos c30] at H
       have c30b0 : decide (0 ≤ (ji29)) = true := decide_eq_true c30; clear c30
       by_cases c31 : (ji29) < (x5_2.length : Int)
       rotate_left
       ·rw [if_neg c31] at H
        exact absurd H (by simp)
       rw [if_pos c31] at H
       have c31b0 : decide ((ji29) < (x5_2.length : Int)) = true := decide_eq_true c31; clear c31
       by_cases c32 : 0 ≤ x6_1
       rotate_left
       ·rw [if_neg c32] at H
        exact absurd H (by simp)
       rw [if_pos c32] at H
       have c32b0 : decide (0 ≤ x6_1) = true := decide_eq_true c32; clear c32
       by_cases c33 : x6_1 < (l0_1.length : Int)
       rotate_left
       ·rw [if_neg c33] at H
        exact absurd H (by simp)
       rw [if_pos c33] at H
       have c33b0 : decide (x6_1 < (l0_1.length : Int)) = true := decide_eq_true c33; clear c33; replace H := Option.bind_eq_some_iff.mp H; obtain ⟨t318, A340, H⟩ := H; replace H : ((cobwebref01_base.f).bind fun t319 => (if t319 = 0 then (none) else ((cobwebref01_base.f).bind fun t321 => (if t321 = 0 then (none) else (cobwebref01_Mul.l1 kj19 (x5_2.set ((ji29) : Int).toNat (Int.tmod (wrap64 ((wrap64 (x7_2 + (rd x5_2 (ji29)))) + (wrap64 ((rd l0_1 x6_1) * t318)))) t319)) x6_1 (wrap64 (Int.tdiv (wrap64 ((wrap64 (x7_2 + (rd x5_2 (ji29)))) + (wrap64 ((rd l0_1 x6_1) * t318)))) t321)) (wrap64 (x8_2 + 1)) a0_0 l0_1 a1_0 l1_1))))) = some (r1, r2) := H; have A34 := Aside0.mk A340; clear A340; replace H := Option.bind_eq_some_iff.mp H; obtain ⟨t319, A350, H⟩ := H; replace H : (if t319 = 0 then (none) else ((cobwebref01_base.f).bind fun t321 => (if t321 = 0 then (none) else (cobwebref01_Mul.l1 kj19 (x5_2.set ((ji29) : Int).toNat (Int.tmod (wrap64 ((wrap64 (x7_2 + (rd x5_2 (ji29)))) + (wrap64 ((rd l0_1 x6_1) * t318)))) t319)) x6_1 (wrap64 (Int.tdiv (wrap64 ((wrap64 (x7_2 + (rd x5_2 (ji29)))) + (wrap64 ((rd l0_1 x6_1) * t318)))) t321)) (wrap64 (x8_2 + 1)) a0_0 l0_1 a1_0 l1_1)))) = some (r1, r2) := H; have A35 := Aside0.mk A350; clear A350
       by_cases c36 : t319 = 0
       ·rw [if_pos c36] at H
        exact absurd H (by simp)
       rw [if_neg c36] at H
       have c36b0 : (t319 == 0) = false := beq_eq_false_iff_ne.mpr c36; have c36b1 : (t319 != 0) = true := bne_iff_ne.mpr c36; obtain ⟨y320, hy320⟩ : ∃ y_ : List Int, y_ = (x5_2.set ((ji29) : Int).toNat (Int.tmod (wrap64 ((wrap64 (x7_2 + (rd x5_2 (ji29)))) + (wrap64 ((rd l0_1 x6_1) * t318)))) t319)) := ⟨_, rfl⟩
       replace H : ((cobwebref01_base.f).bind fun t321 => (if t321 = 0 then (none) else (cobwebref01_Mul.l1 kj19 y320 x6_1 (wrap64 (Int.tdiv (wrap64 ((wrap64 (x7_2 + (rd x5_2 (ji29)))) + (wrap64 ((rd l0_1 x6_1) * t318)))) t321)) (wrap64 (x8_2 + 1)) a0_0 l0_1 a1_0 l1_1))) = some (r1, r2) := by first | (rw [hy320]; with_reducible exact H) | (have H2_ := (Option.bind_some _ _).symm.trans H; rw [hy320]; with_reducible exact H2_) | (have H2_ := (Option.bind_some _ _).symm.trans H; with_reducible exact H2_) | with_reducible exact H | (rw [hy320]; exact H) | exact H
       have Ny320 := Aside0.mk hy320; clear hy320; replace H := Option.bind_eq_some_iff.mp H; obtain ⟨t321, A380, H⟩ := H; replace H : (if t321 = 0 then (none) else (cobwebref01_Mul.l1 kj19 y320 x6_1 (wrap64 (Int.tdiv (wrap64 ((wrap64 (x7_2 + (rd x5_2 (ji29)))) + (wrap64 ((rd l0_1 x6_1) * t318)))) t321)) (wrap64 (x8_2 + 1)) a0_0 l0_1 a1_0 l1_1)) = some (r1, r2) := H; have A38 := Aside0.mk A380; clear A380
       by_cases c39 : t321 = 0
       ·rw [if_pos c39] at H
        exact absurd H (by simp)
       rw [if_neg c39] at H
       have c39b0 : (t321 == 0) = false := beq_eq_false_iff_ne.mpr c39; have c39b1 : (t321 != 0) = true := bne_iff_ne.mpr c39; have H' := Aside0.mk H; clear H; obtain ⟨Ao40, co40, eo40⟩ := Kd.R_slice HO_5.out; subst eo40; have p316 : 0 ≤ ((ji29) : Int) := of_decide_eq_true (by first | (with_reducible assumption) | assumption); have q316 : (ji29) < (x5_2.length : Int) := of_decide_eq_true (by first | (with_reducible assumption) | assumption); obtain ⟨ad316, e316, hx316_0⟩ := Kd.at_int (Kd.R_reads' HO_5.out).2.2 (ji29) p316 q316
       cases e316
       replace p316 := eq_true p316; replace q316 := eq_true q316; have hnb41 := NB306_307.out; have hnc41 := NB307_306.out; have hnb42 := NB306_308.out; have hnc42 := NB308_306.out; obtain ⟨hcz43_0, hcz43_1⟩ := kc2 BK306; obtain ⟨hfz43_0, hfz43_1⟩ := kf2 BK306; have p317 : 0 ≤ (x6_1 : Int) := of_decide_eq_true (by first | (with_reducible assumption) | assumption); have q317 : x6_1 < (l0_1.length : Int) := of_decide_eq_true (by first | (with_reducible assumption) | assumption); obtain ⟨ad317, e317, hx317_0⟩ := Kd.at_int HR0_1.out x6_1 p317 q317
       cases e317
       replace hx317_0 := (HB.out.cell (World.block_lt_of_cell? w _ hx317_0)).trans hx317_0; replace p317 := eq_true p317; replace q317 := eq_true q317; have hnb44 := NB307_308.out; have hnc44 := NB308_307.out; obtain ⟨hcz45_0, hcz45_1⟩ := kc2 BK307; obtain ⟨hfz45_0, hfz45_1⟩ := kf2 BK307
       go_wp2_with (first | (go_at_call 55; (with_reducible refine (cobwebref01_digit.calls _ _ l1_1 x8_2 t318 _ ?side1 ?side2 A34.out).mono ?_); (case side1 => repeat (first | exact (Kd.C_below HR1_1.out HB.out) | (with_reducible refine Kd.C_alloc ?_ _) | (with_reducible refine Kd.C_drewN ?_ _) | (with_reducible refine Kd.C_drew ?_))); (case side2 => exact HC1_1.out); rintro e w' ⟨rfl, ⟨nd, rfl⟩⟩; (try first | exact ⟨rfl, _, World.drewN_drewN _ _ _⟩ | exact ⟨rfl, _, Eq.trans (World.drewN_drewN _ _ _) (congrArg (World.drewN _) (Nat.add_assoc _ _ _))⟩)) | (go_at_call 56; (with_reducible refine (cobwebref01_base.calls  t319 _ A35.out).mono ?_); rintro e w' ⟨rfl, ⟨nd, rfl⟩⟩; (try first | exact ⟨rfl, _, World.drewN_drewN _ _ _⟩ | exact ⟨rfl, _, Eq.trans (World.drewN_drewN _ _ _) (congrArg (World.drewN _) (Nat.add_assoc _ _ _))⟩); have p37 : 0 ≤ ((ji29) : Int) := of_decide_eq_true (by first | (with_reducible assumption) | assumption); have q37 : ((ji29) : Int) < ((x5_2.length : Int) : Int) := of_decide_eq_true (by first | (with_reducible assumption) | assumption); obtain ⟨go37, co37, eo37, gb37, gl37, cl37, HG37⟩ := Kd.R_form HO_5.out (by omega); (first | cases eo37 | (injection eo37 with ea_ en_ ec_; (first | subst ea_ | (injection ea_ with ea_; subst ea_)); subst ec_; clear en_)); have GB37 := Aside0.mk gb37; have GG37 := Aside0.mk HG37; clear gb37 gl37 HG37; (first | simp only [add_plain] at hx316_0 | skip); obtain ⟨hx37_0, hf37_0⟩ := Kd.R_celln 0 HO_5.out ((ji29) : Int) p37 q37; replace p37 := eq_true p37; replace q37 := eq_true q37; obtain ⟨hy46_, hz46_⟩ := Kd.R_celln 0 HO_5.out ((ji29) : Int) (of_decide_eq_true (by first | (with_reducible assumption) | assumption)) (of_decide_eq_true (by first | (with_reducible assumption) | assumption)); have HP46 := Kd.R_putg HO_5.out ((ji29) : Int) (Int.tmod (wrap64 ((wrap64 (x7_2 + (rd x5_2 (ji29)))) + (wrap64 ((rd l0_1 x6_1) * t318)))) t319)) | ((with_reducible refine gate_store (t := 3) (p := 62) rfl ?_); (try (rw [drewN_self wc]; generalize hq_ : World.drewN wc _ = wc; have n0_ := Aside0.mk (Kd.R_at hq_ HO_5.out); have n1_ := Aside0.mk (blk_at hq_ BK306.out); have n2_ := Aside0.mk (blk_at hq_ BK307.out); have n3_ := Aside0.mk (blk_at hq_ BK308.out); have n4_ := Aside0.mk (below_at hq_ HB.out); clear hq_ HO_5 BK306 BK307 BK308 HB; have HO_5 := n0_; have BK306 := n1_; have BK307 := n2_; have BK308 := n3_; have HB := n4_; clear n0_ n1_ n2_ n3_ n4_; (try (obtain ⟨hy46_, hz46_⟩ := Kd.R_celln 0 HO_5.out ((ji29) : Int) (of_decide_eq_true (by first | (with_reducible assumption) | assumption)) (of_decide_eq_true (by first | (with_reducible assumption) | assumption)))); (try (have HP46 := Kd.R_putg HO_5.out ((ji29) : Int) (Int.tmod (wrap64 ((wrap64 (x7_2 + (rd x5_2 (ji29)))) + (wrap64 ((rd l0_1 x6_1) * t318)))) t319))))); refine store_event (t := 3) (p := 62) (v := ?vo_w47) (w1 := (wc.setCell ⟨go37, ((ji29) : Int).toNat, none⟩ (.int .i64 (Int.tmod (wrap64 ((wrap64 (x7_2 + (rd x5_2 (ji29)))) + (wrap64 ((rd l0_1 x6_1) * t318)))) t319)))) ?hg ?ho ?hn ?hr ?_; (case ho => rfl); (case hg => rfl); (case hn => rfl); (case hr => first | (go_simp; done) | (go_simp; rfl)); intro w47 hw; have hg : wc.grownBy w47 (some go37) := (by rw [hw]; exact HP46.2); have hp_ : Kd.R (Kd.int .i64) 3 w47 w.heap.size (fun k_ => (w.heap.size ≤ k_)) (.slice (some ⟨go37, 0, none⟩) x5_2.length co40) y320 := (by rw [hw, Ny320.out]; exact HP46.1); clear HP46; have n0_ := Aside0.mk (hp_); have n1_ := Aside0.mk (blk_grown (g := gb306) (o := .cells #[.bool a0_0, .slice (some ad317) l0_1.length c0_1] 32 (0, 0)) (kx BK306) hg (Kd.R_ne HO_5.out BK306.out (by decide))); have n2_ := Aside0.mk (blk_grown (g := gb307) (o := .cells #[.bool a1_0, .slice A1_1 l1_1.length c1_1] 32 (0, 0)) (kx BK307) hg (Kd.R_ne HO_5.out BK307.out (by decide))); have n3_ := Aside0.mk (blk_grown (g := gb308) (o := .cells #[.bool false, .slice none 0 0] 32 (0, 0)) (kx BK308) hg (Kd.R_ne HO_5.out BK308.out (by decide))); have n4_ := Aside0.mk ((by rw [hw]; exact below_set (HB.out) GB37.out : Below w.heap.size w w47)); clear HO_5; clear BK306; clear BK307; clear BK308; clear HB; have HO_5 := n0_; have BK306 := n1_; have BK307 := n2_; have BK308 := n3_; have HB := n4_; clear n0_ n1_ n2_ n3_ n4_; clear hg hw hp_) | (go_at_call 56; (with_reducible refine (cobwebref01_base.calls  t321 _ A38.out).mono ?_); rintro e w' ⟨rfl, ⟨nd, rfl⟩⟩; (try first | exact ⟨rfl, _, World.drewN_drewN _ _ _⟩ | exact ⟨rfl, _, Eq.trans (World.drewN_drewN _ _ _) (congrArg (World.drewN _) (Nat.add_assoc _ _ _))⟩)))
       repeat (go_quiet (first | (go_at_call 55; (with_reducible refine (cobwebref01_digit.calls _ _ l1_1 x8_2 t318 _ ?side1 ?side2 A34.out).mono ?_); (case side1 => repeat (first | exact (Kd.C_below HR1_1.out HB.out) | (with_reducible refine Kd.C_alloc ?_ _) | (with_reducible refine Kd.C_drewN ?_ _) | (with_reducible refine Kd.C_drew ?_))); (case side2 => exact HC1_1.out); rintro e w' ⟨rfl, ⟨nd, rfl⟩⟩; (try first | exact ⟨rfl, _, World.drewN_drewN _ _ _⟩ | exact ⟨rfl, _, Eq.trans (World.drewN_drewN _ _ _) (congrArg (World.drewN _) (Nat.add_assoc _ _ _))⟩)) | (go_at_call 56; (with_reducible refine (cobwebref01_base.calls  t319 _ A35.out).mono ?_); rintro e w' ⟨rfl, ⟨nd, rfl⟩⟩; (try first | exact ⟨rfl, _, World.drewN_drewN _ _ _⟩ | exact ⟨rfl, _, Eq.trans (World.drewN_drewN _ _ _) (congrArg (World.drewN _) (Nat.add_assoc _ _ _))⟩); have p37 : 0 ≤ ((ji29) : Int) := of_decide_eq_true (by first | (with_reducible assumption) | assumption); have q37 : ((ji29) : Int) < ((x5_2.length : Int) : Int) := of_decide_eq_true (by first | (with_reducible assumption) | assumption); obtain ⟨go37, co37, eo37, gb37, gl37, cl37, HG37⟩ := Kd.R_form HO_5.out (by omega); (first | cases eo37 | (injection eo37 with ea_ en_ ec_; (first | subst ea_ | (injection ea_ with ea_; subst ea_)); subst ec_; clear en_)); have GB37 := Aside0.mk gb37; have GG37 := Aside0.mk HG37; clear gb37 gl37 HG37; (first | simp only [add_plain] at hx316_0 | skip); obtain ⟨hx37_0, hf37_0⟩ := Kd.R_celln 0 HO_5.out ((ji29) : Int) p37 q37; replace p37 := eq_true p37; replace q37 := eq_true q37; obtain ⟨hy46_, hz46_⟩ := Kd.R_celln 0 HO_5.out ((ji29) : Int) (of_decide_eq_true (by first | (with_reducible assumption) | assumption)) (of_decide_eq_true (by first | (with_reducible assumption) | assumption)); have HP46 := Kd.R_putg HO_5.out ((ji29) : Int) (Int.tmod (wrap64 ((wrap64 (x7_2 + (rd x5_2 (ji29)))) + (wrap64 ((rd l0_1 x6_1) * t318)))) t319)) | ((with_reducible refine gate_store (t := 3) (p := 62) rfl ?_); (try (rw [drewN_self wc]; generalize hq_ : World.drewN wc _ = wc; have n0_ := Aside0.mk (Kd.R_at hq_ HO_5.out); have n1_ := Aside0.mk (blk_at hq_ BK306.out); have n2_ := Aside0.mk (blk_at hq_ BK307.out); have n3_ := Aside0.mk (blk_at hq_ BK308.out); have n4_ := Aside0.mk (below_at hq_ HB.out); clear hq_ HO_5 BK306 BK307 BK308 HB; have HO_5 := n0_; have BK306 := n1_; have BK307 := n2_; have BK308 := n3_; have HB := n4_; clear n0_ n1_ n2_ n3_ n4_; (try (obtain ⟨hy46_, hz46_⟩ := Kd.R_celln 0 HO_5.out ((ji29) : Int) (of_decide_eq_true (by first | (with_reducible assumption) | assumption)) (of_decide_eq_true (by first | (with_reducible assumption) | assumption)))); (try (have HP46 := Kd.R_putg HO_5.out ((ji29) : Int) (Int.tmod (wrap64 ((wrap64 (x7_2 + (rd x5_2 (ji29)))) + (wrap64 ((rd l0_1 x6_1) * t318)))) t319))))); refine store_event (t := 3) (p := 62) (v := ?vo_w47) (w1 := (wc.setCell ⟨go37, ((ji29) : Int).toNat, none⟩ (.int .i64 (Int.tmod (wrap64 ((wrap64 (x7_2 + (rd x5_2 (ji29)))) + (wrap64 ((rd l0_1 x6_1) * t318)))) t319)))) ?hg ?ho ?hn ?hr ?_; (case ho => rfl); (case hg => rfl); (case hn => rfl); (case hr => first | (go_simp; done) | (go_simp; rfl)); intro w47 hw; have hg : wc.grownBy w47 (some go37) := (by rw [hw]; exact HP46.2); have hp_ : Kd.R (Kd.int .i64) 3 w47 w.heap.size (fun k_ => (w.heap.size ≤ k_)) (.slice (some ⟨go37, 0, none⟩) x5_2.length co40) y320 := (by rw [hw, Ny320.out]; exact HP46.1); clear HP46; have n0_ := Aside0.mk (hp_); have n1_ := Aside0.mk (blk_grown (g := gb306) (o := .cells #[.bool a0_0, .slice (some ad317) l0_1.length c0_1] 32 (0, 0)) (kx BK306) hg (Kd.R_ne HO_5.out BK306.out (by decide))); have n2_ := Aside0.mk (blk_grown (g := gb307) (o := .cells #[.bool a1_0, .slice A1_1 l1_1.length c1_1] 32 (0, 0)) (kx BK307) hg (Kd.R_ne HO_5.out BK307.out (by decide))); have n3_ := Aside0.mk (blk_grown (g := gb308) (o := .cells #[.bool false, .slice none 0 0] 32 (0, 0)) (kx BK308) hg (Kd.R_ne HO_5.out BK308.out (by decide))); have n4_ := Aside0.mk ((by rw [hw]; exact below_set (HB.out) GB37.out : Below w.heap.size w w47)); clear HO_5; clear BK306; clear BK307; clear BK308; clear HB; have HO_5 := n0_; have BK306 := n1_; have BK307 := n2_; have BK308 := n3_; have HB := n4_; clear n0_ n1_ n2_ n3_ n4_; clear hg hw hp_) | (go_at_call 56; (with_reducible refine (cobwebref01_base.calls  t321 _ A38.out).mono ?_); rintro e w' ⟨rfl, ⟨nd, rfl⟩⟩; (try first | exact ⟨rfl, _, World.drewN_drewN _ _ _⟩ | exact ⟨rfl, _, Eq.trans (World.drewN_drewN _ _ _) (congrArg (World.drewN _) (Nat.add_assoc _ _ _))⟩))); try go_wp2_with (first | (go_at_call 55; (with_reducible refine (cobwebref01_digit.calls _ _ l1_1 x8_2 t318 _ ?side1 ?side2 A34.out).mono ?_); (case side1 => repeat (first | exact (Kd.C_below HR1_1.out HB.out) | (with_reducible refine Kd.C_alloc ?_ _) | (with_reducible refine Kd.C_drewN ?_ _) | (with_reducible refine Kd.C_drew ?_))); (case side2 => exact HC1_1.out); rintro e w' ⟨rfl, ⟨nd, rfl⟩⟩; (try first | exact ⟨rfl, _, World.drewN_drewN _ _ _⟩ | exact ⟨rfl, _, Eq.trans (World.drewN_drewN _ _ _) (congrArg (World.drewN _) (Nat.add_assoc _ _ _))⟩)) | (go_at_call 56; (with_reducible refine (cobwebref01_base.calls  t319 _ A35.out).mono ?_); rintro e w' ⟨rfl, ⟨nd, rfl⟩⟩; (try first | exact ⟨rfl, _, World.drewN_drewN _ _ _⟩ | exact ⟨rfl, _, Eq.trans (World.drewN_drewN _ _ _) (congrArg (World.drewN _) (Nat.add_assoc _ _ _))⟩); have p37 : 0 ≤ ((ji29) : Int) := of_decide_eq_true (by first | (with_reducible assumption) | assumption); have q37 : ((ji29) : Int) < ((x5_2.length : Int) : Int) := of_decide_eq_true (by first | (with_reducible assumption) | assumption); obtain ⟨go37, co37, eo37, gb37, gl37, cl37, HG37⟩ := Kd.R_form HO_5.out (by omega); (first | cases eo37 | (injection eo37 with ea_ en_ ec_; (first | subst ea_ | (injection ea_ with ea_; subst ea_)); subst ec_; clear en_)); have GB37 := Aside0.mk gb37; have GG37 := Aside0.mk HG37; clear gb37 gl37 HG37; (first | simp only [add_plain] at hx316_0 | skip); obtain ⟨hx37_0, hf37_0⟩ := Kd.R_celln 0 HO_5.out ((ji29) : Int) p37 q37; replace p37 := eq_true p37; replace q37 := eq_true q37; obtain ⟨hy46_, hz46_⟩ := Kd.R_celln 0 HO_5.out ((ji29) : Int) (of_decide_eq_true (by first | (with_reducible assumption) | assumption)) (of_decide_eq_true (by first | (with_reducible assumption) | assumption)); have HP46 := Kd.R_putg HO_5.out ((ji29) : Int) (Int.tmod (wrap64 ((wrap64 (x7_2 + (rd x5_2 (ji29)))) + (wrap64 ((rd l0_1 x6_1) * t318)))) t319)) | ((with_reducible refine gate_store (t := 3) (p := 62) rfl ?_); (try (rw [drewN_self wc]; generalize hq_ : World.drewN wc _ = wc; have n0_ := Aside0.mk (Kd.R_at hq_ HO_5.out); have n1_ := Aside0.mk (blk_at hq_ BK306.out); have n2_ := Aside0.mk (blk_at hq_ BK307.out); have n3_ := Aside0.mk (blk_at hq_ BK308.out); have n4_ := Aside0.mk (below_at hq_ HB.out); clear hq_ HO_5 BK306 BK307 BK308 HB; have HO_5 := n0_; have BK306 := n1_; have BK307 := n2_; have BK308 := n3_; have HB := n4_; clear n0_ n1_ n2_ n3_ n4_; (try (obtain ⟨hy46_, hz46_⟩ := Kd.R_celln 0 HO_5.out ((ji29) : Int) (of_decide_eq_true (by first | (with_reducible assumption) | assumption)) (of_decide_eq_true (by first | (with_reducible assumption) | assumption)))); (try (have HP46 := Kd.R_putg HO_5.out ((ji29) : Int) (Int.tmod (wrap64 ((wrap64 (x7_2 + (rd x5_2 (ji29)))) + (wrap64 ((rd l0_1 x6_1) * t318)))) t319))))); refine store_event (t := 3) (p := 62) (v := ?vo_w47) (w1 := (wc.setCell ⟨go37, ((ji29) : Int).toNat, none⟩ (.int .i64 (Int.tmod (wrap64 ((wrap64 (x7_2 + (rd x5_2 (ji29)))) + (wrap64 ((rd l0_1 x6_1) * t318)))) t319)))) ?hg ?ho ?hn ?hr ?_; (case ho => rfl); (case hg => rfl); (case hn => rfl); (case hr => first | (go_simp; done) | (go_simp; rfl)); intro w47 hw; have hg : wc.grownBy w47 (some go37) := (by rw [hw]; exact HP46.2); have hp_ : Kd.R (Kd.int .i64) 3 w47 w.heap.size (fun k_ => (w.heap.size ≤ k_)) (.slice (some ⟨go37, 0, none⟩) x5_2.length co40) y320 := (by rw [hw, Ny320.out]; exact HP46.1); clear HP46; have n0_ := Aside0.mk (hp_); have n1_ := Aside0.mk (blk_grown (g := gb306) (o := .cells #[.bool a0_0, .slice (some ad317) l0_1.length c0_1] 32 (0, 0)) (kx BK306) hg (Kd.R_ne HO_5.out BK306.out (by decide))); have n2_ := Aside0.mk (blk_grown (g := gb307) (o := .cells #[.bool a1_0, .slice A1_1 l1_1.length c1_1] 32 (0, 0)) (kx BK307) hg (Kd.R_ne HO_5.out BK307.out (by decide))); have n3_ := Aside0.mk (blk_grown (g := gb308) (o := .cells #[.bool false, .slice none 0 0] 32 (0, 0)) (kx BK308) hg (Kd.R_ne HO_5.out BK308.out (by decide))); have n4_ := Aside0.mk ((by rw [hw]; exact below_set (HB.out) GB37.out : Below w.heap.size w w47)); clear HO_5; clear BK306; clear BK307; clear BK308; clear HB; have HO_5 := n0_; have BK306 := n1_; have BK307 := n2_; have BK308 := n3_; have HB := n4_; clear n0_ n1_ n2_ n3_ n4_; clear hg hw hp_) | (go_at_call 56; (with_reducible refine (cobwebref01_base.calls  t321 _ A38.out).mono ?_); rintro e w' ⟨rfl, ⟨nd, rfl⟩⟩; (try first | exact ⟨rfl, _, World.drewN_drewN _ _ _⟩ | exact ⟨rfl, _, Eq.trans (World.drewN_drewN _ _ _) (congrArg (World.drewN _) (Nat.add_assoc _ _ _))⟩))))
       go_roundg kj19
       case measure => have := HK1.out; have := HK2.out; have := HJ19.out; omega
       case rel => exact ⟨(y320), (wrap64 (Int.tdiv (wrap64 ((wrap64 (x7_2 + (rd x5_2 (ji29)))) + (wrap64 ((rd l0_1 x6_1) * t318)))) t321)), (wrap64 (x8_2 + 1)), (by first | rfl | (simp; done) | (simp only [← hji29] <;> (first | rfl | simp)) | (simp [*]; done)), (by first | rfl | (simp; done) | (simp [*]; done)), H', ⟨by have := HK1.out; have := HK2.out; have := HJ19.out; omega⟩, ⟨by (with_reducible repeat (first | apply Kd.R_alloc | apply Kd.R_drewN | apply Kd.R_drew)); exact HO_5.out⟩, ⟨kx BK306⟩, ⟨kx BK307⟩, ⟨kx BK308⟩, ⟨ky HB⟩⟩
/-! ### cobwebref01_Of: function 21 -/
def cobwebref01_Of.l0 : Nat → Int → Bool → List Int → Option (Bool × List Int)
 | 0, _, _, _ => none
 | k + 1, x0, x324000, x324001 => if x0 = 0 then (some (x324000, x324001)) else (if (Int.tmod x0 10000) < 0 then (if x324001.length < 17592186044416 then (cobwebref01_Of.l0 k (wrap64 (Int.tdiv x0 10000)) x324000 (x324001 ++ [wrap64 (-(Int.tmod x0 10000))])) else (none)) else (if x324001.length < 17592186044416 then (cobwebref01_Of.l0 k (wrap64 (Int.tdiv x0 10000)) x324000 (x324001 ++ [Int.tmod x0 10000])) else (none)))
def cobwebref01_Of.f (k : Nat) (a0 : Int) : Option (Bool × List Int) := cobwebref01_Of.l0 k a0 (decide (a0 < 0)) ([] : List Int)
theorem cobwebref01_Of.mono_l : ∀ k, (∀ y0 y1 y2, LeO (cobwebref01_Of.l0 k y0 y1 y2) (cobwebref01_Of.l0 (k + 1) y0 y1 y2))
 | 0 => fun _ _ _ r h => by simp [cobwebref01_Of.l0] at h
 | k + 1 => by
  have ih0 := cobwebref01_Of.mono_l k
  ·intro y0 y1 y2
   unfold cobwebref01_Of.l0
   repeat' first
   | (with_reducible exact ih0 _ _ _)
   | (with_reducible exact LeO.refl _)
   | (with_reducible exact LeO.none _)
   | (with_reducible refine LeO.ite ?_ ?_)
   | (with_reducible refine LeO.bind ?_ (fun _ => ?_))
   | exact ih0 _ _ _
   | exact LeO.none _
   | refine LeO.ite ?_ ?_
   | refine LeO.bind ?_ (fun _ => ?_)
theorem cobwebref01_Of.mono : ∀ a0 k, LeO (cobwebref01_Of.f k a0) (cobwebref01_Of.f (k + 1) a0) := by
 intro a0 k; have ih0 := cobwebref01_Of.mono_l k
 unfold cobwebref01_Of.f
 repeat' first
   | (with_reducible exact ih0 _ _ _)
   | (with_reducible exact LeO.refl _)
   | (with_reducible exact LeO.none _)
   | (with_reducible refine LeO.ite ?_ ?_)
   | (with_reducible refine LeO.bind ?_ (fun _ => ?_))
   | exact ih0 _ _ _
   | exact LeO.none _
   | refine LeO.ite ?_ ?_
   | refine LeO.bind ?_ (fun _ => ?_)
set_option maxHeartbeats 8000000 in
set_option maxRecDepth 100000 in
theorem cobwebref01_Of.calls (k : Nat) (a0 : Int) (r1 : Bool) (r2 : List Int) (w : World) (h : cobwebref01_Of.f k a0 = some (r1, r2)) :
  Calls Try.prog 21 #[.int .i64 a0] w fun e w' => ∃ v1_ : Value, e = .returned (.agg #[.bool r1, v1_]) ∧ Kd.R (Kd.int .i64) 3 w' w.heap.size (fun _ => True) v1_ r2 ∧ Below w.heap.size w w' := by
 have hu32 := Try.underlying32; have HB := Aside0.mk (Below.refl w.heap.size w); have H : (cobwebref01_Of.l0 k a0 (decide (a0 < 0)) ([] : List Int)) = some (r1, r2) := h; clear h; have H' := Aside0.mk H; clear H
 go_enter Try.func21, Try.ntmps21
 go_wp2_with (first | ((with_reducible refine gate_dst (N := 2) rfl ?_); refine box_event ?hg (N := 2) ?hd (cs := #[.bool false, .slice none 0 0]) (t := 32) ?hr ?_; (case hd => rfl); (case hg => rfl); (case hr => first | (go_simp; done) | (go_simp; rfl)); intro gb322 hg w2 hbox hb; have BK322 := Aside0.mk (hbox); have GW322 := kS HB hg; have GE322 := kS HB hg; replace HB := kB HB hb; clear hb hbox hg) | ((with_reducible refine gate_dst (N := 3) rfl ?_); refine box_event ?hg (N := 3) ?hd (cs := #[.bool false, .slice none 0 0]) (t := 32) ?hr ?_; (case hd => rfl); (case hg => rfl); (case hr => first | (go_simp; done) | (go_simp; rfl)); intro gb323 hg w3 hbox hb; have BK323 := Aside0.mk (hbox); have GW323 := kS HB hg; have GE323 := kS HB hg; have NB322_323 := kN BK322 hg; have NB323_322 := kM BK322 hg; replace BK322 := kb BK322 hb; replace HB := kB HB hb; clear hb hbox hg; have hnb4 := NB323_322.out; have hnc4 := NB322_323.out; have hcz5_0 : w3.cell? ⟨gb323, 0, none⟩ = some (.bool false) := kc BK323 0; have hcz5_1 : w3.cell? ⟨gb323, 1, none⟩ = some (.slice none 0 0) := kc BK323 1; have hfz5_0 := blk_frozen BK323.out 0; have hfz5_1 := blk_frozen BK323.out 1))
 go_loopg [0] k (fun kq v0 w' => ∃ (x0_1 : Int) (x324001_1 : List Int) (u324001 : Value), v0 = .int .i64 x0_1 ∧ Aside0 (cobwebref01_Of.l0 kq x0_1 (decide (a0 < 0)) x324001_1 = some (r1, r2)) ∧ Aside0 (kq ≤ k) ∧ Aside0 (Kd.R (Kd.int .i64) 3 w' w.heap.size (fun _ => True) u324001 x324001_1) ∧ Aside0 (w'.heap[gb322]? = some (.cells #[.bool false, (.slice none 0 0)] 32 (0, 0))) ∧ Aside0 (w'.heap[gb323]? = some (.cells #[.bool (decide (a0 < 0)), u324001] 32 (0, 0))) ∧ Aside0 (Below w.heap.size w w'))
 case atStart => exact ⟨(a0), (([] : List Int)), (.slice none 0 0), (by first | rfl | (simp; done) | (simp [*]; done)), H', ⟨Nat.le_refl _⟩, ⟨by first | exact Kd.R_nil _ _ _ _ _ | exact Kd.N_nil _ _ _ _ _ | exact Kd.V_nil _ _ _ _ _ | exact Kd.Q_nil _ _ _ _ _ | exact Kd.S_nil _ _ _ _ _⟩, ⟨kx BK322⟩, ⟨by (with_reducible repeat (first | refine zr ?_ _ | refine zw ?_ | refine za ?_ _)); refine blk_put (cs := #[.bool (decide (a0 < 0)), .slice none 0 0]) ?_ 1 _ rfl; (with_reducible repeat (first | refine zr ?_ _ | refine zw ?_ | refine za ?_ _)); refine blk_put (cs := #[.bool false, .slice none 0 0]) ?_ 0 _ rfl; (with_reducible repeat (first | refine zr ?_ _ | refine zw ?_ | refine za ?_ _)); exact BK323.out⟩, ⟨ky HB⟩⟩
 case round =>
  clear H'
  try clear c2; try clear p2; try clear c4; try clear hcz5_0; try clear hcz5_1; try clear hfz5_0; try clear hfz5_1
  obtain ⟨x0_1, x324001_1, u324001, rfl, HA, HK1, HO_324001, BK322, BK323, HB⟩ := hrel
  cases gk with
  | zero => exact absurd HA.out (by simp [cobwebref01_Of.l0])
  | succ k1 =>
   have H := HA.out; clear HA
   simp only [cobwebref01_Of.l0] at H
   by_cases c6 : x0_1 = 0
   ·rw [if_pos c6] at H
    have c6b0 : (x0_1 == 0) = true := beq_iff_eq.mpr c6; have c6b1 : (x0_1 != 0) = false := bne_eq_false_iff_eq.mpr c6; clear c6
    simp only [Option.some.injEq, Prod.mk.injEq] at H
    obtain ⟨rfl, rfl⟩ := H; have hnb7 := NB323_322.out; have hnc7 := NB322_323.out; obtain ⟨hcz8_0, hcz8_1⟩ := kc2 BK323; obtain ⟨hfz8_0, hfz8_1⟩ := kf2 BK323; obtain ⟨hcz9_0, hcz9_1⟩ := kc2 BK322; obtain ⟨hfz9_0, hfz9_1⟩ := kf2 BK322; obtain ⟨Ao10, co10, eo10⟩ := Kd.R_slice HO_324001.out; subst eo10
    go_wp2
    refine bodyPost_ret (results_cell_row rfl _ _ gb322 32 #[.bool (decide (a0 < 0)), .slice Ao10 x324001_1.length co10] (0, 0) _ rfl (by (with_reducible repeat (first | refine zr ?_ _ | refine zw ?_ | refine za ?_ _)); refine blk_put (cs := #[.bool (decide (a0 < 0)), .slice none 0 0]) ?_ 1 _ rfl; (with_reducible repeat (first | refine zr ?_ _ | refine zw ?_ | refine za ?_ _)); refine blk_put (cs := #[.bool false, .slice none 0 0]) ?_ 0 _ rfl; (with_reducible repeat (first | refine zr ?_ _ | refine zw ?_ | refine za ?_ _)); exact BK322.out) Try.underlying32 rfl (by kernel_rfl)) rfl ?_; exact ⟨_, by first | rfl | (simp [errW_none, errW_some] <;> rfl) | (simp [*, errW_none, errW_some] <;> rfl), by (with_reducible repeat (first | apply Kd.R_alloc | apply Kd.R_drewN | apply Kd.R_drew)); exact Kd.R_mono (Kd.R_far (p := ⟨gb322, 1, none⟩) (Kd.R_far (p := ⟨gb322, 0, none⟩) (Kd.R_types HO_324001.out BK322.out (by decide)) (fun _ hk => hk.2) (.bool (decide (a0 < 0)))) (fun _ hk => hk.2) (.slice Ao10 x324001_1.length co10)) (fun _ hk => trivial), ky HB⟩
   rw [if_neg c6] at H
   have c6b0 : (x0_1 == 0) = false := beq_eq_false_iff_ne.mpr c6; have c6b1 : (x0_1 != 0) = true := bne_iff_ne.mpr c6
   by_cases c11 : (Int.tmod x0_1 10000) < 0
   rotate_left
   ·rw [if_neg c11] at H
    have c11b0 : decide ((Int.tmod x0_1 10000) < 0) = false := decide_eq_false c11; clear c11
    by_cases c18 : x324001_1.length < 17592186044416
    rotate_left
    ·rw [if_neg c18] at H
     exact absurd H (by simp)

    rw [if_pos c18] at H
    have LMc18 := Aside0.mk c18; clear c18; obtain ⟨y327, hy327⟩ : ∃ y_ : List Int, y_ = (x324001_1 ++ [Int.tmod x0_1 10000]) := ⟨_, rfl⟩
    replace H : (cobwebref01_Of.l0 k1 (wrap64 (Int.tdiv x0_1 10000)) (decide (a0 < 0)) y327) = some (r1, r2) := by first | (rw [hy327]; with_reducible exact H) | (have H2_ := (Option.bind_some _ _).symm.trans H; rw [hy327]; with_reducible exact H2_) | (have H2_ := (Option.bind_some _ _).symm.trans H; with_reducible exact H2_) | with_reducible exact H | (rw [hy327]; exact H) | exact H
    have Ny327 := Aside0.mk hy327; clear hy327; have H' := Aside0.mk H; clear H; have hnb19 := NB323_322.out; have hnc19 := NB322_323.out; obtain ⟨hcz20_0, hcz20_1⟩ := kc2 BK323; obtain ⟨hfz20_0, hfz20_1⟩ := kf2 BK323
    go_wp2_with (first | ((with_reducible refine gate_builtin (b := .append) (xs := #[.tmp 17, .tmp 19]) rfl ?_); at_builtin; refine Kd.R_append (Kd.int .i64) (w0 := w) w.heap.size rfl (.tmp 17) (.tmp 19) 30 3 (.int .i64 0) 8 rfl Try.underlying30 info3 rfl (by decide) (by omega) u324001 x324001_1 (Int.tmod x0_1 10000) [.int .i64 (Int.tmod x0_1 10000)] (fun _ => True) (fun _ => False) rfl rfl ?aP (fun _ hk => hk.elim) ?aF ?aO ?aB ?aS ?aL ?_; (case aP => exact rfl); (case aB => exact (ky HB)); (case aF => exact (fun _ _ => trivial)); (case aO => exact (kr HO_324001)); (case aS => exact (ko HB)); (case aL => have := LMc18.out; omega); intro v328 w21 ho hb hg hat; rw [← Ny327.out] at ho; have n0_ := Aside0.mk (blk_grown (g := gb322) (o := .cells #[.bool false, .slice none 0 0] 32 (0, 0)) (kx BK322) hg (Kd.R_ne HO_324001.out BK322.out (by decide))); have n1_ := Aside0.mk (blk_grown (g := gb323) (o := .cells #[.bool (decide (a0 < 0)), u324001] 32 (0, 0)) (kx BK323) hg (Kd.R_ne HO_324001.out BK323.out (by decide))); have n2_ := Aside0.mk (hb); have n3_ := Aside0.mk (ho); clear BK322; clear BK323; clear HB; clear HO_324001; have BK322 := n0_; have BK323 := n1_; have HB := n2_; have HO329 := n3_; clear n0_ n1_ n2_ n3_; clear ho hb hg hat; obtain ⟨Ao22, co22, eo22⟩ := Kd.R_slice HO329.out; subst eo22; have hcz23_0 : w21.cell? ⟨gb323, 0, none⟩ = some (.bool (decide (a0 < 0))) := kc BK323 0; have hcz23_1 : w21.cell? ⟨gb323, 1, none⟩ = some (u324001) := kc BK323 1; have hfz23_0 := blk_frozen BK323.out 0; have hfz23_1 := blk_frozen BK323.out 1))
    go_roundg k1
    case measure => have := HK1.out; omega
    case rel => exact ⟨(wrap64 (Int.tdiv x0_1 10000)), (y327), (.slice Ao22 y327.length co22), (by first | rfl | (simp; done) | (simp [*]; done)), H', ⟨by have := HK1.out; omega⟩, ⟨by (with_reducible repeat (first | apply Kd.R_alloc | apply Kd.R_drewN | apply Kd.R_drew)); exact Kd.R_mono (Kd.R_far (p := ⟨gb323, 1, none⟩) (Kd.R_types HO329.out BK323.out (by decide)) (fun _ hk => hk.2) (.slice Ao22 y327.length co22)) (fun _ hk => trivial)⟩, ⟨kx BK322⟩, ⟨by (with_reducible repeat (first | refine zr ?_ _ | refine zw ?_ | refine za ?_ _)); refine blk_put (cs := #[.bool (decide (a0 < 0)), u324001]) ?_ 1 _ rfl; (with_reducible repeat (first | refine zr ?_ _ | refine zw ?_ | refine za ?_ _)); exact BK323.out⟩, ⟨ky HB⟩⟩
   rw [if_pos c11] at H
   have c11b0 : decide ((Int.tmod x0_1 10000) < 0) = true := decide_eq_true c11; clear c11
   by_cases c12 : x324001_1.length < 17592186044416
   rotate_left
   ·rw [if_neg c12] at H
    exact absurd H (by simp)
   rw [if_pos c12] at H
   have LMc12 := Aside0.mk c12; clear c12; obtain ⟨y324, hy324⟩ : ∃ y_ : List Int, y_ = (x324001_1 ++ [wrap64 (-(Int.tmod x0_1 10000))]) := ⟨_, rfl⟩
   replace H : (cobwebref01_Of.l0 k1 (wrap64 (Int.tdiv x0_1 10000)) (decide (a0 < 0)) y324) = some (r1, r2) := by first | (rw [hy324]; with_reducible exact H) | (have H2_ := (Option.bind_some _ _).symm.trans H; rw [hy324]; with_reducible exact H2_) | (have H2_ := (Option.bind_some _ _).symm.trans H; with_reducible exact H2_) | with_reducible exact H | (rw [hy324]; exact H) | exact H
   have Ny324 := Aside0.mk hy324; clear hy324; have H' := Aside0.mk H; clear H; have hnb13 := NB323_322.out; have hnc13 := NB322_323.out; obtain ⟨hcz14_0, hcz14_1⟩ := kc2 BK323; obtain ⟨hfz14_0, hfz14_1⟩ := kf2 BK323
   go_wp2_with (first | ((with_reducible refine gate_builtin (b := .append) (xs := #[.tmp 17, .tmp 19]) rfl ?_); at_builtin; refine Kd.R_append (Kd.int .i64) (w0 := w) w.heap.size rfl (.tmp 17) (.tmp 19) 30 3 (.int .i64 0) 8 rfl Try.underlying30 info3 rfl (by decide) (by omega) u324001 x324001_1 (wrap64 (-(Int.tmod x0_1 10000))) [.int .i64 (wrap64 (-(Int.tmod x0_1 10000)))] (fun _ => True) (fun _ => False) rfl rfl ?aP (fun _ hk => hk.elim) ?aF ?aO ?aB ?aS ?aL ?_; (case aP => exact rfl); (case aB => exact (ky HB)); (case aF => exact (fun _ _ => trivial)); (case aO => exact (kr HO_324001)); (case aS => exact (ko HB)); (case aL => have := LMc12.out; omega); intro v325 w15 ho hb hg hat; rw [← Ny324.out] at ho; have n0_ := Aside0.mk (blk_grown (g := gb322) (o := .cells #[.bool false, .slice none 0 0] 32 (0, 0)) (kx BK322) hg (Kd.R_ne HO_324001.out BK322.out (by decide))); have n1_ := Aside0.mk (blk_grown (g := gb323) (o := .cells #[.bool (decide (a0 < 0)), u324001] 32 (0, 0)) (kx BK323) hg (Kd.R_ne HO_324001.out BK323.out (by decide))); have n2_ := Aside0.mk (hb); have n3_ := Aside0.mk (ho); clear BK322; clear BK323; clear HB; clear HO_324001; have BK322 := n0_; have BK323 := n1_; have HB := n2_; have HO326 := n3_; clear n0_ n1_ n2_ n3_; clear ho hb hg hat; obtain ⟨Ao16, co16, eo16⟩ := Kd.R_slice HO326.out; subst eo16; have hcz17_0 : w15.cell? ⟨gb323, 0, none⟩ = some (.bool (decide (a0 < 0))) := kc BK323 0; have hcz17_1 : w15.cell? ⟨gb323, 1, none⟩ = some (u324001) := kc BK323 1; have hfz17_0 := blk_frozen BK323.out 0; have hfz17_1 := blk_frozen BK323.out 1))
   go_roundg k1
   case measure => have := HK1.out; omega
   case rel => exact ⟨(wrap64 (Int.tdiv x0_1 10000)), (y324), (.slice Ao16 y324.length co16), (by first | rfl | (simp; done) | (simp [*]; done)), H', ⟨by have := HK1.out; omega⟩, ⟨by (with_reducible repeat (first | apply Kd.R_alloc | apply Kd.R_drewN | apply Kd.R_drew)); exact Kd.R_mono (Kd.R_far (p := ⟨gb323, 1, none⟩) (Kd.R_types HO326.out BK323.out (by decide)) (fun _ hk => hk.2) (.slice Ao16 y324.length co16)) (fun _ hk => trivial)⟩, ⟨kx BK322⟩, ⟨by (with_reducible repeat (first | refine zr ?_ _ | refine zw ?_ | refine za ?_ _)); refine blk_put (cs := #[.bool (decide (a0 < 0)), u324001]) ?_ 1 _ rfl; (with_reducible repeat (first | refine zr ?_ _ | refine zw ?_ | refine za ?_ _)); exact BK323.out⟩, ⟨ky HB⟩⟩
/-! ### cobwebref01_size: function 63 -/
def cobwebref01_size.l0 : Nat → List Int → List Int → Int → Option (Int)
 | 0, _, _, _ => none
 | k + 1, x0, x1, x5 => if x5 ≥ 0 then ((cobwebref01_digit.f x0 x5).bind fun t330 => ((cobwebref01_digit.f x1 x5).bind fun t331 => (if t330 < t331 then (some (-1)) else ((cobwebref01_digit.f x0 x5).bind fun t332 => ((cobwebref01_digit.f x1 x5).bind fun t333 => (if t332 > t333 then (some 1) else (cobwebref01_size.l0 k x0 x1 (wrap64 (x5 - 1))))))))) else (some 0)
def cobwebref01_size.f (k : Nat) (l0 : List Int) (l1 : List Int) : Option (Int) := cobwebref01_size.l0 k l0 l1 (wrap64 ((mx (l0.length : Int) (l1.length : Int)) - 1))
theorem cobwebref01_size.mono_l : ∀ k, (∀ y0 y1 y2, LeO (cobwebref01_size.l0 k y0 y1 y2) (cobwebref01_size.l0 (k + 1) y0 y1 y2))
 | 0 => fun _ _ _ r h => by simp [cobwebref01_size.l0] at h
 | k + 1 => by
  have ih0 := cobwebref01_size.mono_l k
  ·intro y0 y1 y2
   unfold cobwebref01_size.l0
   repeat' first
   | (with_reducible exact ih0 _ _ _)
   | (with_reducible exact LeO.refl _)
   | (with_reducible exact LeO.none _)
   | (with_reducible refine LeO.ite ?_ ?_)
   | (with_reducible refine LeO.bind ?_ (fun _ => ?_))
   | exact ih0 _ _ _
   | exact LeO.none _
   | refine LeO.ite ?_ ?_
   | refine LeO.bind ?_ (fun _ => ?_)
theorem cobwebref01_size.mono : ∀ a0 a1 k, LeO (cobwebref01_size.f k a0 a1) (cobwebref01_size.f (k + 1) a0 a1) := by
 intro a0 a1 k; have ih0 := cobwebref01_size.mono_l k
 unfold cobwebref01_size.f
 repeat' first
   | (with_reducible exact ih0 _ _ _)
   | (with_reducible exact LeO.refl _)
   | (with_reducible exact LeO.none _)
   | (with_reducible refine LeO.ite ?_ ?_)
   | (with_reducible refine LeO.bind ?_ (fun _ => ?_))
   | exact ih0 _ _ _
   | exact LeO.none _
   | refine LeO.ite ?_ ?_
   | refine LeO.bind ?_ (fun _ => ?_)
set_option maxHeartbeats 8000000 in
set_option maxRecDepth 100000 in
theorem cobwebref01_size.calls (k : Nat) (A0 : Option Addr) (c0 : Nat) (l0 : List Int) (A1 : Option Addr) (c1 : Nat) (l1 : List Int) (r : Int) (w : World) (hr0 : Kd.C (Kd.int .i64) w A0 l0.length l0) (hc0 : l0.length ≤ c0) (hr1 : Kd.C (Kd.int .i64) w A1 l1.length l1) (hc1 : l1.length ≤ c1) (h : cobwebref01_size.f k l0 l1 = some r) :
  Calls Try.prog 63 #[.slice A0 l0.length c0, .slice A1 l1.length c1] w fun e w' => e = .returned (.int .i64 r) ∧ Below w.heap.size w w' := by
 have HR0 := Aside0.mk hr0; have HC0 := Aside0.mk hc0; clear hr0 hc0; have HR1 := Aside0.mk hr1; have HC1 := Aside0.mk hc1; clear hr1 hc1; have HB := Aside0.mk (Below.refl w.heap.size w); have H : (cobwebref01_size.l0 k l0 l1 (wrap64 ((mx (l0.length : Int) (l1.length : Int)) - 1))) = some r := h; clear h; obtain ⟨ji3, hji3⟩ : ∃ j_ : Int, (mx (l0.length : Int) (l1.length : Int)) = j_ := ⟨_, rfl⟩
 replace H : (cobwebref01_size.l0 k l0 l1 (wrap64 ((ji3) - 1))) = some r := by first | (rw [hji3] at H; exact H) | (simp only [hji3] at H ⊢; exact H)
 (try (have hji3l : 0 ≤ ji3 := by (rw [← hji3]; unfold mx; (repeat' split) <;> omega)))
 (try (have hji3m : 0 ≤ ji3 := by omega))
 have hji3n_ : (if l0.length < l1.length then (l1.length : Int) else (l0.length : Int)) = ji3 := by (simp only [← Int.ofNat_lt]; exact hji3)
 have hji3_ : (if (l0.length : Int) < (l1.length : Int) then (l1.length : Int) else (l0.length : Int)) = ji3 := hji3; have H' := Aside0.mk H; clear H
 go_enter Try.func63, Try.ntmps63
 go_wp2
 go_loopg [5] k (fun kq v5 w' => ∃ (x5_1 : Int), v5 = .int .i64 x5_1 ∧ Aside0 (cobwebref01_size.l0 kq l0 l1 x5_1 = some r) ∧ Aside0 (kq ≤ k) ∧ Aside0 (Below w.heap.size w w'))
 case atStart => exact ⟨(wrap64 ((ji3) - 1)), (by first | rfl | (simp; done) | (simp only [← hji3] <;> (first | rfl | simp)) | (simp [*]; done)), H', ⟨Nat.le_refl _⟩, ⟨ky HB⟩⟩
 case round =>
  clear H'
  try clear c1; try clear p2
  obtain ⟨x5_1, rfl, HA, HK1, HB⟩ := hrel
  cases gk with
  | zero => exact absurd HA.out (by simp [cobwebref01_size.l0])
  | succ k1 =>
   have H := HA.out; clear HA
   simp only [cobwebref01_size.l0] at H
   by_cases c4 : x5_1 ≥ 0
   rotate_left
   ·rw [if_neg c4] at H
    have c4b0 : decide (0 ≤ x5_1) = false := decide_eq_false c4; clear c4; obtain rfl := Option.some.inj H
    go_wp2
    go_ret
    exact ⟨by first | rfl | (simp [errW_none, errW_some] <;> rfl) | (simp only [← hji3]; first | rfl | (simp [errW_none, errW_some] <;> rfl)) | (simp [*, errW_none, errW_some] <;> rfl), ky HB⟩

   rw [if_pos c4] at H
   have c4b0 : decide (0 ≤ x5_1) = true := decide_eq_true c4; clear c4; replace H := Option.bind_eq_some_iff.mp H; obtain ⟨t330, A50, H⟩ := H; replace H : ((cobwebref01_digit.f l1 x5_1).bind fun t331 => (if t330 < t331 then (some (-1)) else ((cobwebref01_digit.f l0 x5_1).bind fun t332 => ((cobwebref01_digit.f l1 x5_1).bind fun t333 => (if t332 > t333 then (some 1) else (cobwebref01_size.l0 k1 l0 l1 (wrap64 (x5_1 - 1)))))))) = some r := H; have A5 := Aside0.mk A50; clear A50; replace H := Option.bind_eq_some_iff.mp H; obtain ⟨t331, A60, H⟩ := H; replace H : (if t330 < t331 then (some (-1)) else ((cobwebref01_digit.f l0 x5_1).bind fun t332 => ((cobwebref01_digit.f l1 x5_1).bind fun t333 => (if t332 > t333 then (some 1) else (cobwebref01_size.l0 k1 l0 l1 (wrap64 (x5_1 - 1))))))) = some r := H; have A6 := Aside0.mk A60; clear A60
   by_cases c7 : t330 < t331
   ·rw [if_pos c7] at H
    have c7b0 : decide (t330 < t331) = true := decide_eq_true c7; clear c7; obtain rfl := Option.some.inj H
    go_wp2_with (first | ((with_reducible refine gate_callee (f := 55) rfl ?_); refine goesL_ (some 18) rfl rfl Try.func55 (by kernel_rfl) rfl #[.slice A0 l0.length c0, .int .i64 x5_1] rfl (by (try simp only [zm, zc, zn]); first | done | rfl | (simp only [zd, zt]; rfl)) ?_; (with_reducible refine (cobwebref01_digit.calls _ _ l0 x5_1 t330 _ ?side1 ?side2 A5.out).mono ?_); (case side1 => repeat (first | exact (Kd.C_below HR0.out HB.out) | (with_reducible refine Kd.C_alloc ?_ _) | (with_reducible refine Kd.C_drewN ?_ _) | (with_reducible refine Kd.C_drew ?_))); (case side2 => exact HC0.out); rintro e w' ⟨rfl, ⟨nd, rfl⟩⟩; refine ⟨_, rfl, ?_⟩) | ((with_reducible refine gate_callee (f := 55) rfl ?_); refine goesL_ (some 21) rfl rfl Try.func55 (by kernel_rfl) rfl #[.slice A1 l1.length c1, .int .i64 x5_1] rfl (by (try simp only [zm, zc, zn]); first | done | rfl | (simp only [zd, zt]; rfl)) ?_; (with_reducible refine (cobwebref01_digit.calls _ _ l1 x5_1 t331 _ ?side1 ?side2 A6.out).mono ?_); (case side1 => repeat (first | exact (Kd.C_below HR1.out (ky HB)) | (with_reducible refine Kd.C_alloc ?_ _) | (with_reducible refine Kd.C_drewN ?_ _) | (with_reducible refine Kd.C_drew ?_))); (case side2 => exact HC1.out); rintro e w' ⟨rfl, ⟨nd, rfl⟩⟩; refine ⟨_, rfl, ?_⟩))
    go_ret
    exact ⟨by first | rfl | (simp [errW_none, errW_some] <;> rfl) | (simp only [← hji3]; first | rfl | (simp [errW_none, errW_some] <;> rfl)) | (simp [*, errW_none, errW_some] <;> rfl), ky HB⟩
   rw [if_neg c7] at H
   have c7b0 : decide (t330 < t331) = false := decide_eq_false c7; clear c7; replace H := Option.bind_eq_some_iff.mp H; obtain ⟨t332, A80, H⟩ := H; replace H : ((cobwebref01_digit.f l1 x5_1).bind fun t333 => (if t332 > t333 then (some 1) else (cobwebref01_size.l0 k1 l0 l1 (wrap64 (x5_1 - 1))))) = some r := H; have A8 := Aside0.mk A80; clear A80; replace H := Option.bind_eq_some_iff.mp H; obtain ⟨t333, A90, H⟩ := H; replace H : (if t332 > t333 then (some 1) else (cobwebref01_size.l0 k1 l0 l1 (wrap64 (x5_1 - 1)))) = some r := H; have A9 := Aside0.mk A90; clear A90
   by_cases c10 : t332 > t333
   ·rw [if_pos c10] at H
    have c10b0 : decide (t333 < t332) = true := decide_eq_true c10; clear c10; obtain rfl := Option.some.inj H
    go_wp2_with (first | ((with_reducible refine gate_callee (f := 55) rfl ?_); refine goesL_ (some 18) rfl rfl Try.func55 (by kernel_rfl) rfl #[.slice A0 l0.length c0, .int .i64 x5_1] rfl (by (try simp only [zm, zc, zn]); first | done | rfl | (simp only [zd, zt]; rfl)) ?_; (with_reducible refine (cobwebref01_digit.calls _ _ l0 x5_1 t330 _ ?side1 ?side2 A5.out).mono ?_); (case side1 => repeat (first | exact (Kd.C_below HR0.out HB.out) | (with_reducible refine Kd.C_alloc ?_ _) | (with_reducible refine Kd.C_drewN ?_ _) | (with_reducible refine Kd.C_drew ?_))); (case side2 => exact HC0.out); rintro e w' ⟨rfl, ⟨nd, rfl⟩⟩; refine ⟨_, rfl, ?_⟩) | ((with_reducible refine gate_callee (f := 55) rfl ?_); refine goesL_ (some 21) rfl rfl Try.func55 (by kernel_rfl) rfl #[.slice A1 l1.length c1, .int .i64 x5_1] rfl (by (try simp only [zm, zc, zn]); first | done | rfl | (simp only [zd, zt]; rfl)) ?_; (with_reducible refine (cobwebref01_digit.calls _ _ l1 x5_1 t331 _ ?side1 ?side2 A6.out).mono ?_); (case side1 => repeat (first | exact (Kd.C_below HR1.out (ky HB)) | (with_reducible refine Kd.C_alloc ?_ _) | (with_reducible refine Kd.C_drewN ?_ _) | (with_reducible refine Kd.C_drew ?_))); (case side2 => exact HC1.out); rintro e w' ⟨rfl, ⟨nd, rfl⟩⟩; refine ⟨_, rfl, ?_⟩) | ((with_reducible refine gate_callee (f := 55) rfl ?_); refine goesL_ (some 25) rfl rfl Try.func55 (by kernel_rfl) rfl #[.slice A0 l0.length c0, .int .i64 x5_1] rfl (by (try simp only [zm, zc, zn]); first | done | rfl | (simp only [zd, zt]; rfl)) ?_; (with_reducible refine (cobwebref01_digit.calls _ _ l0 x5_1 t332 _ ?side1 ?side2 A8.out).mono ?_); (case side1 => repeat (first | exact (Kd.C_below HR0.out (ky HB)) | (with_reducible refine Kd.C_alloc ?_ _) | (with_reducible refine Kd.C_drewN ?_ _) | (with_reducible refine Kd.C_drew ?_))); (case side2 => exact HC0.out); rintro e w' ⟨rfl, ⟨nd, rfl⟩⟩; refine ⟨_, rfl, ?_⟩) | ((with_reducible refine gate_callee (f := 55) rfl ?_); refine goesL_ (some 28) rfl rfl Try.func55 (by kernel_rfl) rfl #[.slice A1 l1.length c1, .int .i64 x5_1] rfl (by (try simp only [zm, zc, zn]); first | done | rfl | (simp only [zd, zt]; rfl)) ?_; (with_reducible refine (cobwebref01_digit.calls _ _ l1 x5_1 t333 _ ?side1 ?side2 A9.out).mono ?_); (case side1 => repeat (first | exact (Kd.C_below HR1.out (ky HB)) | (with_reducible refine Kd.C_alloc ?_ _) | (with_reducible refine Kd.C_drewN ?_ _) | (with_reducible refine Kd.C_drew ?_))); (case side2 => exact HC1.out); rintro e w' ⟨rfl, ⟨nd, rfl⟩⟩; refine ⟨_, rfl, ?_⟩))
    go_ret
    exact ⟨by first | rfl | (simp [errW_none, errW_some] <;> rfl) | (simp only [← hji3]; first | rfl | (simp [errW_none, errW_some] <;> rfl)) | (simp [*, errW_none, errW_some] <;> rfl), ky HB⟩
   rw [if_neg c10] at H
   have c10b0 : decide (t333 < t332) = false := decide_eq_false c10; clear c10; have H' := Aside0.mk H; clear H
   go_wp2_with (first | ((with_reducible refine gate_callee (f := 55) rfl ?_); refine goesL_ (some 18) rfl rfl Try.func55 (by kernel_rfl) rfl #[.slice A0 l0.length c0, .int .i64 x5_1] rfl (by (try simp only [zm, zc, zn]); first | done | rfl | (simp only [zd, zt]; rfl)) ?_; (with_reducible refine (cobwebref01_digit.calls _ _ l0 x5_1 t330 _ ?side1 ?side2 A5.out).mono ?_); (case side1 => repeat (first | exact (Kd.C_below HR0.out HB.out) | (with_reducible refine Kd.C_alloc ?_ _) | (with_reducible refine Kd.C_drewN ?_ _) | (with_reducible refine Kd.C_drew ?_))); (case side2 => exact HC0.out); rintro e w' ⟨rfl, ⟨nd, rfl⟩⟩; refine ⟨_, rfl, ?_⟩) | ((with_reducible refine gate_callee (f := 55) rfl ?_); refine goesL_ (some 21) rfl rfl Try.func55 (by kernel_rfl) rfl #[.slice A1 l1.length c1, .int .i64 x5_1] rfl (by (try simp only [zm, zc, zn]); first | done | rfl | (simp only [zd, zt]; rfl)) ?_; (with_reducible refine (cobwebref01_digit.calls _ _ l1 x5_1 t331 _ ?side1 ?side2 A6.out).mono ?_); (case side1 => repeat (first | exact (Kd.C_below HR1.out (ky HB)) | (with_reducible refine Kd.C_alloc ?_ _) | (with_reducible refine Kd.C_drewN ?_ _) | (with_reducible refine Kd.C_drew ?_))); (case side2 => exact HC1.out); rintro e w' ⟨rfl, ⟨nd, rfl⟩⟩; refine ⟨_, rfl, ?_⟩) | ((with_reducible refine gate_callee (f := 55) rfl ?_); refine goesL_ (some 25) rfl rfl Try.func55 (by kernel_rfl) rfl #[.slice A0 l0.length c0, .int .i64 x5_1] rfl (by (try simp only [zm, zc, zn]); first | done | rfl | (simp only [zd, zt]; rfl)) ?_; (with_reducible refine (cobwebref01_digit.calls _ _ l0 x5_1 t332 _ ?side1 ?side2 A8.out).mono ?_); (case side1 => repeat (first | exact (Kd.C_below HR0.out (ky HB)) | (with_reducible refine Kd.C_alloc ?_ _) | (with_reducible refine Kd.C_drewN ?_ _) | (with_reducible refine Kd.C_drew ?_))); (case side2 => exact HC0.out); rintro e w' ⟨rfl, ⟨nd, rfl⟩⟩; refine ⟨_, rfl, ?_⟩) | ((with_reducible refine gate_callee (f := 55) rfl ?_); refine goesL_ (some 28) rfl rfl Try.func55 (by kernel_rfl) rfl #[.slice A1 l1.length c1, .int .i64 x5_1] rfl (by (try simp only [zm, zc, zn]); first | done | rfl | (simp only [zd, zt]; rfl)) ?_; (with_reducible refine (cobwebref01_digit.calls _ _ l1 x5_1 t333 _ ?side1 ?side2 A9.out).mono ?_); (case side1 => repeat (first | exact (Kd.C_below HR1.out (ky HB)) | (with_reducible refine Kd.C_alloc ?_ _) | (with_reducible refine Kd.C_drewN ?_ _) | (with_reducible refine Kd.C_drew ?_))); (case side2 => exact HC1.out); rintro e w' ⟨rfl, ⟨nd, rfl⟩⟩; refine ⟨_, rfl, ?_⟩))
   go_roundg k1
   case measure => have := HK1.out; omega
   case rel => exact ⟨(wrap64 (x5_1 - 1)), (by first | rfl | (simp; done) | (simp [*]; done)), H', ⟨by have := HK1.out; omega⟩, ⟨ky HB⟩⟩
end Go.Proofs.Ytpjbniihdndlmaa.Q
