-- Printed by wip/pp.sh (a session's own turning of the kit's print) for this seat.
import Derived.Test.YtpjbniihdndlmaaQx0
import Derived.Test.YtpjbniihdndlmaaQx11
namespace Go.Proofs.Ytpjbniihdndlmaa.Q
open Go.RowKit Go.Proofs.YtpjbniihdndlmaaW.PrintWords Go.Proofs.YtpjbniihdndlmaaW.PrintLast Go.Proofs.YtpjbniihdndlmaaW.PrintMore
open Go.Proofs.Ytpjbniihdndlmaa.H
attribute [local go_sem] hq_add64 hq_sub64 hq_not64 add64c_nn sub64c_nn sub64c_le
attribute [local go_sem] max2_int min2_int max_two min_two max_three min_three max_four min_four   -- for this text's walks alone
set_option linter.unusedVariables false
set_option linter.unusedSimpArgs false

/-! ### cobwebref01_Cmp: function 25 -/
def cobwebref01_Cmp.f (k : Nat) (a0_0 : Bool) (l0_1 : List Int) (a1_0 : Bool) (l1_1 : List Int) : Option (Int) := if (a0_0 != a1_0) = true then (if a0_0 = true then (some (-1)) else (some 1)) else (if a0_0 = true then ((cobwebref01_size.f k l1_1 l0_1).bind fun t419 => (some t419)) else ((cobwebref01_size.f k l0_1 l1_1).bind fun t420 => (some t420)))
theorem cobwebref01_Cmp.mono : ∀ a0 a1 a2 a3 k, LeO (cobwebref01_Cmp.f k a0 a1 a2 a3) (cobwebref01_Cmp.f (k + 1) a0 a1 a2 a3) := by
 intro a0 a1 a2 a3 k
 unfold cobwebref01_Cmp.f
 repeat' first
   | (with_reducible exact cobwebref01_size.mono _ _ _)
   | (with_reducible exact LeO.refl _)
   | (with_reducible exact LeO.none _)
   | (with_reducible refine LeO.ite ?_ ?_)
   | (with_reducible refine LeO.bind ?_ (fun _ => ?_))
   | exact cobwebref01_size.mono _ _ _
   | exact LeO.none _
   | refine LeO.ite ?_ ?_
   | refine LeO.bind ?_ (fun _ => ?_)
set_option maxHeartbeats 8000000 in
set_option maxRecDepth 100000 in
theorem cobwebref01_Cmp.calls (k : Nat) (a0_0 : Bool) (A0_1 : Option Addr) (c0_1 : Nat) (l0_1 : List Int) (a1_0 : Bool) (A1_1 : Option Addr) (c1_1 : Nat) (l1_1 : List Int) (r : Int) (w : World) (hr0_1 : Kd.C (Kd.int .i64) w A0_1 l0_1.length l0_1) (hc0_1 : l0_1.length ≤ c0_1) (hr1_1 : Kd.C (Kd.int .i64) w A1_1 l1_1.length l1_1) (hc1_1 : l1_1.length ≤ c1_1) (h : cobwebref01_Cmp.f k a0_0 l0_1 a1_0 l1_1 = some r) :
  Calls Try.prog 25 #[.agg #[.bool a0_0, .slice A0_1 l0_1.length c0_1], .agg #[.bool a1_0, .slice A1_1 l1_1.length c1_1]] w fun e w' => e = .returned (.int .i64 r) ∧ Below w.heap.size w w' := by
 have hu32 := Try.underlying32; have HR0_1 := Aside0.mk hr0_1; have HC0_1 := Aside0.mk hc0_1; clear hr0_1 hc0_1; have HR1_1 := Aside0.mk hr1_1; have HC1_1 := Aside0.mk hc1_1; clear hr1_1 hc1_1; have HB := Aside0.mk (Below.refl w.heap.size w); have H : (if (a0_0 != a1_0) = true then (if a0_0 = true then (some (-1)) else (some 1)) else (if a0_0 = true then ((cobwebref01_size.f k l1_1 l0_1).bind fun t419 => (some t419)) else ((cobwebref01_size.f k l0_1 l1_1).bind fun t420 => (some t420)))) = some r := h; clear h
 by_cases c3 : (a0_0 != a1_0) = true
 ·rw [if_pos c3] at H
  have c3b0 : (a0_0 != a1_0) = true := c3
  (try (have c3b1 : decide (a0_0 = a1_0) = false := by simpa using c3))
  (try (have c3b2 : (a0_0 == a1_0) = false := by simpa using c3))
  (try (have c3b3 : ¬ (a0_0 = a1_0) := by simpa using c3))
  clear c3
  by_cases c4 : a0_0 = true
  ·subst c4
   have H1 : (some (-1)) = some r := by rw [if_pos rfl] at H; exact H
   clear H; have H := H1; clear H1; obtain rfl := Option.some.inj H
   go_enter Try.func25, Try.ntmps25
   go_wp2_with (first | ((with_reducible refine gate_dst (N := 2) rfl ?_); refine box_event ?hg (N := 2) ?hd (cs := #[.bool true, .slice A0_1 l0_1.length c0_1]) (t := 32) ?hr ?_; (case hd => rfl); (case hg => rfl); (case hr => first | (go_simp; done) | (go_simp; rfl)); intro gb417 hg w5 hbox hb; have BK417 := Aside0.mk (hbox); have GW417 := kS HB hg; have GE417 := kS HB hg; replace HB := kB HB hb; clear hb hbox hg) | ((with_reducible refine gate_dst (N := 3) rfl ?_); refine box_event ?hg (N := 3) ?hd (cs := #[.bool a1_0, .slice A1_1 l1_1.length c1_1]) (t := 32) ?hr ?_; (case hd => rfl); (case hg => rfl); (case hr => first | (go_simp; done) | (go_simp; rfl)); intro gb418 hg w6 hbox hb; have BK418 := Aside0.mk (hbox); have GW418 := kS HB hg; have GE418 := kS HB hg; have NB417_418 := kN BK417 hg; have NB418_417 := kM BK417 hg; replace BK417 := kb BK417 hb; replace HB := kB HB hb; clear hb hbox hg; have hnb7 := NB417_418.out; have hnc7 := NB418_417.out; have hcz8_0 : w6.cell? ⟨gb417, 0, none⟩ = some (.bool true) := kc BK417 0; have hcz8_1 : w6.cell? ⟨gb417, 1, none⟩ = some (.slice A0_1 l0_1.length c0_1) := kc BK417 1; have hfz8_0 := blk_frozen BK417.out 0; have hfz8_1 := blk_frozen BK417.out 1; have hcz9_0 : w6.cell? ⟨gb418, 0, none⟩ = some (.bool a1_0) := kc BK418 0; have hcz9_1 : w6.cell? ⟨gb418, 1, none⟩ = some (.slice A1_1 l1_1.length c1_1) := kc BK418 1; have hfz9_0 := blk_frozen BK418.out 0; have hfz9_1 := blk_frozen BK418.out 1))
   go_ret
   exact ⟨by first | rfl | (simp [errW_none, errW_some] <;> rfl) | (simp [*, errW_none, errW_some] <;> rfl), ky HB⟩
  replace c4 := Bool.eq_false_iff.mpr c4; subst c4
  have H1 : (some 1) = some r := by rw [if_neg (show ¬ (false = true) by decide)] at H; exact H
  clear H; have H := H1; clear H1; obtain rfl := Option.some.inj H
  go_enter Try.func25, Try.ntmps25
  go_wp2_with (first | ((with_reducible refine gate_dst (N := 2) rfl ?_); refine box_event ?hg (N := 2) ?hd (cs := #[.bool false, .slice A0_1 l0_1.length c0_1]) (t := 32) ?hr ?_; (case hd => rfl); (case hg => rfl); (case hr => first | (go_simp; done) | (go_simp; rfl)); intro gb417 hg w10 hbox hb; have BK417 := Aside0.mk (hbox); have GW417 := kS HB hg; have GE417 := kS HB hg; replace HB := kB HB hb; clear hb hbox hg) | ((with_reducible refine gate_dst (N := 3) rfl ?_); refine box_event ?hg (N := 3) ?hd (cs := #[.bool a1_0, .slice A1_1 l1_1.length c1_1]) (t := 32) ?hr ?_; (case hd => rfl); (case hg => rfl); (case hr => first | (go_simp; done) | (go_simp; rfl)); intro gb418 hg w11 hbox hb; have BK418 := Aside0.mk (hbox); have GW418 := kS HB hg; have GE418 := kS HB hg; have NB417_418 := kN BK417 hg; have NB418_417 := kM BK417 hg; replace BK417 := kb BK417 hb; replace HB := kB HB hb; clear hb hbox hg; have hnb12 := NB417_418.out; have hnc12 := NB418_417.out; have hcz13_0 : w11.cell? ⟨gb417, 0, none⟩ = some (.bool false) := kc BK417 0; have hcz13_1 : w11.cell? ⟨gb417, 1, none⟩ = some (.slice A0_1 l0_1.length c0_1) := kc BK417 1; have hfz13_0 := blk_frozen BK417.out 0; have hfz13_1 := blk_frozen BK417.out 1; have hcz14_0 : w11.cell? ⟨gb418, 0, none⟩ = some (.bool a1_0) := kc BK418 0; have hcz14_1 : w11.cell? ⟨gb418, 1, none⟩ = some (.slice A1_1 l1_1.length c1_1) := kc BK418 1; have hfz14_0 := blk_frozen BK418.out 0; have hfz14_1 := blk_frozen BK418.out 1))
  go_ret
  exact ⟨by first | rfl | (simp [errW_none, errW_some] <;> rfl) | (simp [*, errW_none, errW_some] <;> rfl), ky HB⟩
 rw [if_neg c3] at H
 have c3b0 : (a0_0 != a1_0) = false := by simpa using c3
 (try (have c3b1 : decide (a0_0 = a1_0) = true := by simpa using c3))
 (try (have c3b2 : (a0_0 == a1_0) = true := by simpa using c3))
 clear c3
 by_cases c15 : a0_0 = true
 ·subst c15
  have H1 : ((cobwebref01_size.f k l1_1 l0_1).bind fun t419 => (some t419)) = some r := by rw [if_pos rfl] at H; exact H
  clear H; have H := H1; clear H1; replace H := Option.bind_eq_some_iff.mp H; obtain ⟨t419, A160, H⟩ := H; replace H : (some t419) = some r := H; have A16 := Aside0.mk A160; clear A160; obtain rfl := Option.some.inj H
  go_enter Try.func25, Try.ntmps25
  go_wp2_with (first | ((with_reducible refine gate_dst (N := 2) rfl ?_); refine box_event ?hg (N := 2) ?hd (cs := #[.bool true, .slice A0_1 l0_1.length c0_1]) (t := 32) ?hr ?_; (case hd => rfl); (case hg => rfl); (case hr => first | (go_simp; done) | (go_simp; rfl)); intro gb417 hg w17 hbox hb; have BK417 := Aside0.mk (hbox); have GW417 := kS HB hg; have GE417 := kS HB hg; replace HB := kB HB hb; clear hb hbox hg) | ((with_reducible refine gate_dst (N := 3) rfl ?_); refine box_event ?hg (N := 3) ?hd (cs := #[.bool a1_0, .slice A1_1 l1_1.length c1_1]) (t := 32) ?hr ?_; (case hd => rfl); (case hg => rfl); (case hr => first | (go_simp; done) | (go_simp; rfl)); intro gb418 hg w18 hbox hb; have BK418 := Aside0.mk (hbox); have GW418 := kS HB hg; have GE418 := kS HB hg; have NB417_418 := kN BK417 hg; have NB418_417 := kM BK417 hg; replace BK417 := kb BK417 hb; replace HB := kB HB hb; clear hb hbox hg; have hnb19 := NB417_418.out; have hnc19 := NB418_417.out; have hcz20_0 : w18.cell? ⟨gb417, 0, none⟩ = some (.bool true) := kc BK417 0; have hcz20_1 : w18.cell? ⟨gb417, 1, none⟩ = some (.slice A0_1 l0_1.length c0_1) := kc BK417 1; have hfz20_0 := blk_frozen BK417.out 0; have hfz20_1 := blk_frozen BK417.out 1; have hcz21_0 : w18.cell? ⟨gb418, 0, none⟩ = some (.bool a1_0) := kc BK418 0; have hcz21_1 : w18.cell? ⟨gb418, 1, none⟩ = some (.slice A1_1 l1_1.length c1_1) := kc BK418 1; have hfz21_0 := blk_frozen BK418.out 0; have hfz21_1 := blk_frozen BK418.out 1) | ((with_reducible refine gate_callee (f := 63) rfl ?_); refine goesL_ (some 18) rfl rfl Try.func63 (by kernel_rfl) rfl #[.slice A1_1 l1_1.length c1_1, .slice A0_1 l0_1.length c0_1] rfl (by (try simp only [zm, zc, zn]); first | done | rfl | (simp only [zd, zt]; rfl)) ?_; (with_reducible refine (cobwebref01_size.calls k _ _ l1_1 _ _ l0_1 t419 _ ?side1 ?side2 ?side3 ?side4 A16.out).mono ?_); (case side1 => repeat (first | exact (Kd.C_below HR1_1.out HB.out) | (with_reducible refine Kd.C_alloc ?_ _) | (with_reducible refine Kd.C_drewN ?_ _) | (with_reducible refine Kd.C_drew ?_))); (case side2 => exact HC1_1.out); (case side3 => repeat (first | exact (Kd.C_below HR0_1.out HB.out) | (with_reducible refine Kd.C_alloc ?_ _) | (with_reducible refine Kd.C_drewN ?_ _) | (with_reducible refine Kd.C_drew ?_))); (case side4 => exact HC0_1.out); rintro e w22 ⟨rfl, hb⟩; refine ⟨_, rfl, ?_⟩; replace BK417 := kb BK417 hb; replace BK418 := kb BK418 hb; replace HB := kB HB hb; (try clear hb); (try clear hb2); (try clear hk); (try clear hi)))
  go_ret
  exact ⟨by first | rfl | (simp [errW_none, errW_some] <;> rfl) | (simp [*, errW_none, errW_some] <;> rfl), ky HB⟩
 replace c15 := Bool.eq_false_iff.mpr c15; subst c15
 have H1 : ((cobwebref01_size.f k l0_1 l1_1).bind fun t420 => (some t420)) = some r := by rw [if_neg (show ¬ (false = true) by decide)] at H; exact H
 clear H; have H := H1; clear H1; replace H := Option.bind_eq_some_iff.mp H; obtain ⟨t420, A230, H⟩ := H; replace H : (some t420) = some r := H; have A23 := Aside0.mk A230; clear A230; obtain rfl := Option.some.inj H
 go_enter Try.func25, Try.ntmps25
 go_wp2_with (first | ((with_reducible refine gate_dst (N := 2) rfl ?_); refine box_event ?hg (N := 2) ?hd (cs := #[.bool false, .slice A0_1 l0_1.length c0_1]) (t := 32) ?hr ?_; (case hd => rfl); (case hg => rfl); (case hr => first | (go_simp; done) | (go_simp; rfl)); intro gb417 hg w24 hbox hb; have BK417 := Aside0.mk (hbox); have GW417 := kS HB hg; have GE417 := kS HB hg; replace HB := kB HB hb; clear hb hbox hg) | ((with_reducible refine gate_dst (N := 3) rfl ?_); refine box_event ?hg (N := 3) ?hd (cs := #[.bool a1_0, .slice A1_1 l1_1.length c1_1]) (t := 32) ?hr ?_; (case hd => rfl); (case hg => rfl); (case hr => first | (go_simp; done) | (go_simp; rfl)); intro gb418 hg w25 hbox hb; have BK418 := Aside0.mk (hbox); have GW418 := kS HB hg; have GE418 := kS HB hg; have NB417_418 := kN BK417 hg; have NB418_417 := kM BK417 hg; replace BK417 := kb BK417 hb; replace HB := kB HB hb; clear hb hbox hg; have hnb26 := NB417_418.out; have hnc26 := NB418_417.out; have hcz27_0 : w25.cell? ⟨gb417, 0, none⟩ = some (.bool false) := kc BK417 0; have hcz27_1 : w25.cell? ⟨gb417, 1, none⟩ = some (.slice A0_1 l0_1.length c0_1) := kc BK417 1; have hfz27_0 := blk_frozen BK417.out 0; have hfz27_1 := blk_frozen BK417.out 1; have hcz28_0 : w25.cell? ⟨gb418, 0, none⟩ = some (.bool a1_0) := kc BK418 0; have hcz28_1 : w25.cell? ⟨gb418, 1, none⟩ = some (.slice A1_1 l1_1.length c1_1) := kc BK418 1; have hfz28_0 := blk_frozen BK418.out 0; have hfz28_1 := blk_frozen BK418.out 1) | ((with_reducible refine gate_callee (f := 63) rfl ?_); refine goesL_ (some 23) rfl rfl Try.func63 (by kernel_rfl) rfl #[.slice A0_1 l0_1.length c0_1, .slice A1_1 l1_1.length c1_1] rfl (by (try simp only [zm, zc, zn]); first | done | rfl | (simp only [zd, zt]; rfl)) ?_; (with_reducible refine (cobwebref01_size.calls k _ _ l0_1 _ _ l1_1 t420 _ ?side1 ?side2 ?side3 ?side4 A23.out).mono ?_); (case side1 => repeat (first | exact (Kd.C_below HR0_1.out HB.out) | (with_reducible refine Kd.C_alloc ?_ _) | (with_reducible refine Kd.C_drewN ?_ _) | (with_reducible refine Kd.C_drew ?_))); (case side2 => exact HC0_1.out); (case side3 => repeat (first | exact (Kd.C_below HR1_1.out HB.out) | (with_reducible refine Kd.C_alloc ?_ _) | (with_reducible refine Kd.C_drewN ?_ _) | (with_reducible refine Kd.C_drew ?_))); (case side4 => exact HC1_1.out); rintro e w29 ⟨rfl, hb⟩; refine ⟨_, rfl, ?_⟩; replace BK417 := kb BK417 hb; replace BK418 := kb BK418 hb; replace HB := kB HB hb; (try clear hb); (try clear hb2); (try clear hk); (try clear hi)))
 go_ret
 exact ⟨by first | rfl | (simp [errW_none, errW_some] <;> rfl) | (simp [*, errW_none, errW_some] <;> rfl), ky HB⟩

end Go.Proofs.Ytpjbniihdndlmaa.Q
