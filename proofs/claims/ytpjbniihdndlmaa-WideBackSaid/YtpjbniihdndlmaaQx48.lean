-- Printed by wip/pp.sh (a session's own turning of the kit's print) for this seat.
import Derived.Test.YtpjbniihdndlmaaQx0
import Derived.Test.YtpjbniihdndlmaaQx1
import Derived.Test.YtpjbniihdndlmaaQx12
import Derived.Test.YtpjbniihdndlmaaQx13
import Derived.Test.YtpjbniihdndlmaaQx19
import Derived.Test.YtpjbniihdndlmaaQx30
import Derived.Test.YtpjbniihdndlmaaQx43
namespace Go.Proofs.Ytpjbniihdndlmaa.Q
open Go.RowKit Go.Proofs.YtpjbniihdndlmaaW.PrintWords Go.Proofs.YtpjbniihdndlmaaW.PrintLast Go.Proofs.YtpjbniihdndlmaaW.PrintMore
open Go.Proofs.Ytpjbniihdndlmaa.H
attribute [local go_sem] hq_add64 hq_sub64 hq_not64 add64c_nn sub64c_nn sub64c_le
attribute [local go_sem] max2_int min2_int max_two min_two max_three min_three max_four min_four   -- for this text's walks alone
set_option linter.unusedVariables false
set_option linter.unusedSimpArgs false

attribute [local go_sem high] eqA24
/-! ### cobweblaw01_WideBack: function 13 -/
def cobweblaw01_WideBack.j0 : Nat → Int → Int → Option (Bool)
  | 0, _, _ => none
  | k + 1, x1052000, x1052001 => (wide_Neg.f x1052000 x1052001).bind fun bt1061 => (if bt1061.2.2 = true then ((wide_Neg.f bt1061.1 bt1061.2.1).bind fun bt1065 => (if bt1065.2.2 = true then (if (!(bt1065.1 == x1052000) || (!(bt1065.2.1 == x1052001))) = true then (some false) else ((cobweblaw01_alive.f k).bind fun t1069 => (some t1069))) else (some false))) else ((cobweblaw01_alive.f k).bind fun t1070 => (some t1070)))
def cobweblaw01_WideBack.f (k : Nat) (a0_0 : Int) (a0_1 : Int) (a1_0 : Int) (a1_1 : Int) : Option (Bool) := (wide_Add.f a0_0 a0_1 a1_0 a1_1).bind fun bt1053 => (if bt1053.2.2 = true then ((wide_Sub.f bt1053.1 bt1053.2.1 a1_0 a1_1).bind fun bt1057 => (if bt1057.2.2 = true then (if (!(bt1057.1 == a0_0) || (!(bt1057.2.1 == a0_1))) = true then (some false) else (cobweblaw01_WideBack.j0 k a0_0 a0_1)) else (some false))) else (cobweblaw01_WideBack.j0 k a0_0 a0_1))
theorem cobweblaw01_WideBack.mono_l : ∀ k, (∀ y0 y1, LeO (cobweblaw01_WideBack.j0 k y0 y1) (cobweblaw01_WideBack.j0 (k + 1) y0 y1))
  | 0 => fun _ _ r h => by simp [cobweblaw01_WideBack.j0] at h
  | k + 1 => by
    have ih0 := cobweblaw01_WideBack.mono_l k
    · intro y0 y1
      unfold cobweblaw01_WideBack.j0
      repeat' first
      | (with_reducible exact ih0 _ _)
      | (with_reducible exact cobweblaw01_alive.mono _)
      | (with_reducible exact LeO.refl _)
      | (with_reducible exact LeO.none _)
      | (with_reducible refine LeO.ite ?_ ?_)
      | (with_reducible refine LeO.bind ?_ (fun _ => ?_))
      | exact ih0 _ _
      | exact cobweblaw01_alive.mono _
      | exact LeO.none _
      | refine LeO.ite ?_ ?_
      | refine LeO.bind ?_ (fun _ => ?_)
theorem cobweblaw01_WideBack.mono : ∀ a0 a1 a2 a3 k, LeO (cobweblaw01_WideBack.f k a0 a1 a2 a3) (cobweblaw01_WideBack.f (k + 1) a0 a1 a2 a3) := by
  intro a0 a1 a2 a3 k
  have ih0 := cobweblaw01_WideBack.mono_l k
  unfold cobweblaw01_WideBack.f
  repeat' first
      | (with_reducible exact ih0 _ _)
      | (with_reducible exact cobweblaw01_alive.mono _)
      | (with_reducible exact LeO.refl _)
      | (with_reducible exact LeO.none _)
      | (with_reducible refine LeO.ite ?_ ?_)
      | (with_reducible refine LeO.bind ?_ (fun _ => ?_))
      | exact ih0 _ _
      | exact cobweblaw01_alive.mono _
      | exact LeO.none _
      | refine LeO.ite ?_ ?_
      | refine LeO.bind ?_ (fun _ => ?_)
set_option maxHeartbeats 8000000 in
set_option maxRecDepth 100000 in
theorem cobweblaw01_WideBack.calls (k : Nat) (a0_0 : Int) (a0_1 : Int) (a1_0 : Int) (a1_1 : Int) (r : Bool) (w : World) (h : cobweblaw01_WideBack.f k a0_0 a0_1 a1_0 a1_1 = some r) :
    Calls Try.prog 13 #[.agg #[.int .i64 a0_0, .int .u64 a0_1], .agg #[.int .i64 a1_0, .int .u64 a1_1]] w fun e w' => e = .returned (.bool r) ∧ Below w.heap.size w w' := by
  have hu24 := Try.underlying24
  have HB := Aside0.mk (Below.refl w.heap.size w)
  have H : ((wide_Add.f a0_0 a0_1 a1_0 a1_1).bind fun bt1053 => (if bt1053.2.2 = true then ((wide_Sub.f bt1053.1 bt1053.2.1 a1_0 a1_1).bind fun bt1057 => (if bt1057.2.2 = true then (if (!(bt1057.1 == a0_0) || (!(bt1057.2.1 == a0_1))) = true then (some false) else (cobweblaw01_WideBack.j0 k a0_0 a0_1)) else (some false))) else (cobweblaw01_WideBack.j0 k a0_0 a0_1))) = some r := h
  clear h
  replace H := Option.bind_eq_some_iff.mp H
  obtain ⟨⟨t1053, t1054, t1055⟩, A30, H⟩ := H
  replace H : (if t1055 = true then ((wide_Sub.f t1053 t1054 a1_0 a1_1).bind fun bt1057 => (if bt1057.2.2 = true then (if (!(bt1057.1 == a0_0) || (!(bt1057.2.1 == a0_1))) = true then (some false) else (cobweblaw01_WideBack.j0 k a0_0 a0_1)) else (some false))) else (cobweblaw01_WideBack.j0 k a0_0 a0_1)) = some r := H
  have A3 := Aside0.mk A30
  clear A30
  have HC4 := Aside0.mk H
  clear H
  go_enter Try.func13, Try.ntmps13
  go_upto_if 19 with (first | ((with_reducible refine gate_dst (N := 2) rfl ?_); refine box_event ?hg (N := 2) ?hd (cs := #[.int .i64 a0_0, .int .u64 a0_1]) (t := 24) ?hr ?_; (case hd => rfl); (case hg => rfl); (case hr => first | (go_simp; done) | (go_simp; rfl)); intro gb1051 hg w5 hbox hb; have BK1051 := Aside0.mk (hbox); have GW1051 := kS HB hg; have GE1051 := kS HB hg; replace HB := kB HB hb; clear hb hbox hg) | ((with_reducible refine gate_dst (N := 3) rfl ?_); refine box_event ?hg (N := 3) ?hd (cs := #[.int .i64 a1_0, .int .u64 a1_1]) (t := 24) ?hr ?_; (case hd => rfl); (case hg => rfl); (case hr => first | (go_simp; done) | (go_simp; rfl)); intro gb1052 hg w6 hbox hb; have BK1052 := Aside0.mk (hbox); have GW1052 := kS HB hg; have GE1052 := kS HB hg; have NB1051_1052 := kN BK1051 hg; have NB1052_1051 := kM BK1051 hg; replace BK1051 := kb BK1051 hb; replace HB := kB HB hb; clear hb hbox hg; have hnb7 := NB1051_1052.out; have hnc7 := NB1052_1051.out; have hcz8_0 : w6.cell? ⟨gb1051, 0, none⟩ = some (.int .i64 a0_0) := kc BK1051 0; have hcz8_1 : w6.cell? ⟨gb1051, 1, none⟩ = some (.int .u64 a0_1) := kc BK1051 1; have hfz8_0 := blk_frozen BK1051.out 0; have hfz8_1 := blk_frozen BK1051.out 1; have hcz9_0 : w6.cell? ⟨gb1052, 0, none⟩ = some (.int .i64 a1_0) := kc BK1052 0; have hcz9_1 : w6.cell? ⟨gb1052, 1, none⟩ = some (.int .u64 a1_1) := kc BK1052 1; have hfz9_0 := blk_frozen BK1052.out 0; have hfz9_1 := blk_frozen BK1052.out 1) | ((with_reducible refine gate_callee (f := 29) rfl ?_); refine goesL_ (some 16) rfl rfl Try.func29 (by kernel_rfl) rfl #[.agg #[.int .i64 a0_0, .int .u64 a0_1], .agg #[.int .i64 a1_0, .int .u64 a1_1]] rfl (by (try simp only [List.map_toArray, List.map_cons, List.map_nil]); first | done | rfl | (simp only [List.length_drop, List.length_take]; rfl)) ?_; (with_reducible refine (wide_Add.calls a0_0 a0_1 a1_0 a1_1 t1053 t1054 t1055 _ A3.out).mono ?_); rintro e w10 ⟨rfl, hb⟩; refine ⟨_, rfl, ?_⟩; replace BK1051 := kb BK1051 hb; replace BK1052 := kb BK1052 hb; replace HB := kB HB hb; (try clear hb); (try clear hb2); (try clear hk); (try clear hi)) | ((with_reducible refine gate_dst (N := 5) rfl ?_); refine box_event ?hg (N := 5) ?hd (cs := #[.int .i64 0, .int .u64 0]) (t := 24) ?hr ?_; (case hd => rfl); (case hg => rfl); (case hr => first | (go_simp; done) | (go_simp; rfl)); intro gb1056 hg w11 hbox hb; have BK1056 := Aside0.mk (hbox); have GW1056 := kS HB hg; have GE1056 := kS HB hg; have NB1051_1056 := kN BK1051 hg; have NB1056_1051 := kM BK1051 hg; have NB1052_1056 := kN BK1052 hg; have NB1056_1052 := kM BK1052 hg; replace BK1051 := kb BK1051 hb; replace BK1052 := kb BK1052 hb; replace HB := kB HB hb; clear hb hbox hg; have hnb12 := NB1056_1051.out; have hnc12 := NB1051_1056.out; have hnb13 := NB1056_1052.out; have hnc13 := NB1052_1056.out; have hcz14_0 : w11.cell? ⟨gb1056, 0, none⟩ = some (.int .i64 0) := kc BK1056 0; have hcz14_1 : w11.cell? ⟨gb1056, 1, none⟩ = some (.int .u64 0) := kc BK1056 1; have hfz14_0 := blk_frozen BK1056.out 0; have hfz14_1 := blk_frozen BK1056.out 1))
  (try simp only [Act.put, List.setIfInBounds_toArray, List.set_cons_zero, List.set_cons_succ])
  go_cut [] (fun wc => ∃ (kq : Nat), Aside0 (cobweblaw01_WideBack.j0 kq a0_0 a0_1 = some r) ∧ Aside0 (kq ≤ k) ∧ Aside0 (wc.heap[gb1051]? = some (.cells #[.int .i64 a0_0, .int .u64 a0_1] 24 (0, 0))) ∧ Aside0 (wc.heap[gb1052]? = some (.cells #[.int .i64 a1_0, .int .u64 a1_1] 24 (0, 0))) ∧ Aside0 (wc.heap[gb1056]? = some (.cells #[.int .i64 t1053, .int .u64 t1054] 24 (0, 0))) ∧ Aside0 (Below w.heap.size w wc))
  case first =>
    have H := HC4.out; clear HC4
    by_cases c15 : t1055 = true
    rotate_left
    · replace c15 := Bool.eq_false_iff.mpr c15
      subst c15
      have H1 : (cobweblaw01_WideBack.j0 k a0_0 a0_1) = some r := by rw [if_neg (show ¬ (false = true) by decide)] at H; exact H
      clear H; have H := H1; clear H1
      have H' := Aside0.mk H
      clear H
      go_wp2
      go_meet
      case rel => exact ⟨_, H', ⟨by first | omega | exact Nat.le_refl _⟩, ⟨kx BK1051⟩, ⟨kx BK1052⟩, ⟨by (with_reducible repeat (first | refine blk_drewN ?_ _ | refine blk_drew ?_ | refine blk_alloc ?_ _)); refine blk_put (cs := #[.int .i64 t1053, .int .u64 0]) ?_ 1 _ rfl; (with_reducible repeat (first | refine blk_drewN ?_ _ | refine blk_drew ?_ | refine blk_alloc ?_ _)); refine blk_put (cs := #[.int .i64 0, .int .u64 0]) ?_ 0 _ rfl; (with_reducible repeat (first | refine blk_drewN ?_ _ | refine blk_drew ?_ | refine blk_alloc ?_ _)); exact BK1056.out⟩, ⟨ky HB⟩⟩
    subst c15
    have H1 : ((wide_Sub.f t1053 t1054 a1_0 a1_1).bind fun bt1057 => (if bt1057.2.2 = true then (if (!(bt1057.1 == a0_0) || (!(bt1057.2.1 == a0_1))) = true then (some false) else (cobweblaw01_WideBack.j0 k a0_0 a0_1)) else (some false))) = some r := by rw [if_pos rfl] at H; exact H
    clear H; have H := H1; clear H1
    replace H := Option.bind_eq_some_iff.mp H
    obtain ⟨⟨t1057, t1058, t1059⟩, A160, H⟩ := H
    replace H : (if t1059 = true then (if (!(t1057 == a0_0) || (!(t1058 == a0_1))) = true then (some false) else (cobweblaw01_WideBack.j0 k a0_0 a0_1)) else (some false)) = some r := H
    have A16 := Aside0.mk A160
    clear A160
    by_cases c17 : t1059 = true
    rotate_left
    · replace c17 := Bool.eq_false_iff.mpr c17
      subst c17
      have H1 : (some false) = some r := by rw [if_neg (show ¬ (false = true) by decide)] at H; exact H
      clear H; have H := H1; clear H1
      obtain rfl := Option.some.inj H
      have hnb43 := NB1056_1051.out; have hnc43 := NB1051_1056.out; have hnb44 := NB1056_1052.out; have hnc44 := NB1052_1056.out
      have hcz45_0 : w11.cell? ⟨gb1056, 0, none⟩ = some (.int .i64 0) := kc BK1056 0
      have hcz45_1 : w11.cell? ⟨gb1056, 1, none⟩ = some (.int .u64 0) := kc BK1056 1
      have hfz45_0 := blk_frozen BK1056.out 0
      have hfz45_1 := blk_frozen BK1056.out 1
      have hnb46 := NB1052_1051.out; have hnc46 := NB1051_1052.out
      have hcz47_0 : w11.cell? ⟨gb1052, 0, none⟩ = some (.int .i64 a1_0) := kc BK1052 0
      have hcz47_1 : w11.cell? ⟨gb1052, 1, none⟩ = some (.int .u64 a1_1) := kc BK1052 1
      have hfz47_0 := blk_frozen BK1052.out 0
      have hfz47_1 := blk_frozen BK1052.out 1
      go_wp2_with (first | ((with_reducible refine gate_callee (f := 43) rfl ?_); refine goesL_ (some 23) rfl rfl Try.func43 (by kernel_rfl) rfl #[.agg #[.int .i64 t1053, .int .u64 t1054], .agg #[.int .i64 a1_0, .int .u64 a1_1]] rfl (by (try simp only [List.map_toArray, List.map_cons, List.map_nil]); first | done | rfl | (simp only [List.length_drop, List.length_take]; rfl)) ?_; (with_reducible refine (wide_Sub.calls t1053 t1054 a1_0 a1_1 t1057 t1058 false _ A16.out).mono ?_); rintro e w48 ⟨rfl, hb⟩; refine ⟨_, rfl, ?_⟩; have n0_ := kb BK1051 hb; have n1_ := kb BK1052 hb; have n2_ := Aside0.mk (blk_below (g := gb1056) (o := .cells #[.int .i64 t1053, .int .u64 t1054] 24 (0, 0)) (by (with_reducible repeat (first | refine blk_drewN ?_ _ | refine blk_drew ?_ | refine blk_alloc ?_ _)); refine blk_put (cs := #[.int .i64 t1053, .int .u64 0]) ?_ 1 _ rfl; (with_reducible repeat (first | refine blk_drewN ?_ _ | refine blk_drew ?_ | refine blk_alloc ?_ _)); refine blk_put (cs := #[.int .i64 0, .int .u64 0]) ?_ 0 _ rfl; (with_reducible repeat (first | refine blk_drewN ?_ _ | refine blk_drew ?_ | refine blk_alloc ?_ _)); exact BK1056.out) hb); have n3_ := kB HB hb; clear BK1051; clear BK1052; clear BK1056; clear HB; have BK1051 := n0_; have BK1052 := n1_; have BK1056 := n2_; have HB := n3_; clear n0_ n1_ n2_ n3_; (try clear hb); (try clear hb2); (try clear hk); (try clear hi)) | ((with_reducible refine gate_dst (N := 7) rfl ?_); refine box_event ?hg (N := 7) ?hd (cs := #[.int .i64 0, .int .u64 0]) (t := 24) ?hr ?_; (case hd => rfl); (case hg => rfl); (case hr => first | (go_simp; done) | (go_simp; rfl)); intro gb1060 hg w49 hbox hb; have BK1060 := Aside0.mk (hbox); have GW1060 := kS HB hg; have GE1060 := kS HB hg; have NB1051_1060 := kN BK1051 hg; have NB1060_1051 := kM BK1051 hg; have NB1052_1060 := kN BK1052 hg; have NB1060_1052 := kM BK1052 hg; have NB1056_1060 := kN BK1056 hg; have NB1060_1056 := kM BK1056 hg; replace BK1051 := kb BK1051 hb; replace BK1052 := kb BK1052 hb; replace BK1056 := kb BK1056 hb; replace HB := kB HB hb; clear hb hbox hg; have hnb50 := NB1060_1051.out; have hnc50 := NB1051_1060.out; have hnb51 := NB1060_1052.out; have hnc51 := NB1052_1060.out; have hnb52 := NB1060_1056.out; have hnc52 := NB1056_1060.out; have hcz53_0 : w49.cell? ⟨gb1060, 0, none⟩ = some (.int .i64 0) := kc BK1060 0; have hcz53_1 : w49.cell? ⟨gb1060, 1, none⟩ = some (.int .u64 0) := kc BK1060 1; have hfz53_0 := blk_frozen BK1060.out 0; have hfz53_1 := blk_frozen BK1060.out 1))
      go_ret
      exact ⟨by first | rfl | (simp [errW_none, errW_some] <;> rfl) | (simp [*, errW_none, errW_some] <;> rfl), ky HB⟩
    subst c17
    have H1 : (if (!(t1057 == a0_0) || (!(t1058 == a0_1))) = true then (some false) else (cobweblaw01_WideBack.j0 k a0_0 a0_1)) = some r := by rw [if_pos rfl] at H; exact H
    clear H; have H := H1; clear H1
    by_cases c18 : (!(t1057 == a0_0) || (!(t1058 == a0_1))) = true
    · rw [if_pos c18] at H
      have c18b0 : (!(t1057 == a0_0) || (!(t1058 == a0_1))) = true := c18
      clear c18
      (first | rw [c18b0] | (simp only [i64_w, i32_w]; rw [c18b0]) | skip)
      obtain rfl := Option.some.inj H
      have hnb19 := NB1056_1051.out; have hnc19 := NB1051_1056.out; have hnb20 := NB1056_1052.out; have hnc20 := NB1052_1056.out
      have hcz21_0 : w11.cell? ⟨gb1056, 0, none⟩ = some (.int .i64 0) := kc BK1056 0
      have hcz21_1 : w11.cell? ⟨gb1056, 1, none⟩ = some (.int .u64 0) := kc BK1056 1
      have hfz21_0 := blk_frozen BK1056.out 0
      have hfz21_1 := blk_frozen BK1056.out 1
      have hnb22 := NB1052_1051.out; have hnc22 := NB1051_1052.out
      have hcz23_0 : w11.cell? ⟨gb1052, 0, none⟩ = some (.int .i64 a1_0) := kc BK1052 0
      have hcz23_1 : w11.cell? ⟨gb1052, 1, none⟩ = some (.int .u64 a1_1) := kc BK1052 1
      have hfz23_0 := blk_frozen BK1052.out 0
      have hfz23_1 := blk_frozen BK1052.out 1
      go_wp2_with (first | ((with_reducible refine gate_callee (f := 43) rfl ?_); refine goesL_ (some 23) rfl rfl Try.func43 (by kernel_rfl) rfl #[.agg #[.int .i64 t1053, .int .u64 t1054], .agg #[.int .i64 a1_0, .int .u64 a1_1]] rfl (by (try simp only [List.map_toArray, List.map_cons, List.map_nil]); first | done | rfl | (simp only [List.length_drop, List.length_take]; rfl)) ?_; (with_reducible refine (wide_Sub.calls t1053 t1054 a1_0 a1_1 t1057 t1058 true _ A16.out).mono ?_); rintro e w24 ⟨rfl, hb⟩; refine ⟨_, rfl, ?_⟩; have n0_ := kb BK1051 hb; have n1_ := kb BK1052 hb; have n2_ := Aside0.mk (blk_below (g := gb1056) (o := .cells #[.int .i64 t1053, .int .u64 t1054] 24 (0, 0)) (by (with_reducible repeat (first | refine blk_drewN ?_ _ | refine blk_drew ?_ | refine blk_alloc ?_ _)); refine blk_put (cs := #[.int .i64 t1053, .int .u64 0]) ?_ 1 _ rfl; (with_reducible repeat (first | refine blk_drewN ?_ _ | refine blk_drew ?_ | refine blk_alloc ?_ _)); refine blk_put (cs := #[.int .i64 0, .int .u64 0]) ?_ 0 _ rfl; (with_reducible repeat (first | refine blk_drewN ?_ _ | refine blk_drew ?_ | refine blk_alloc ?_ _)); exact BK1056.out) hb); have n3_ := kB HB hb; clear BK1051; clear BK1052; clear BK1056; clear HB; have BK1051 := n0_; have BK1052 := n1_; have BK1056 := n2_; have HB := n3_; clear n0_ n1_ n2_ n3_; (try clear hb); (try clear hb2); (try clear hk); (try clear hi)) | ((with_reducible refine gate_dst (N := 7) rfl ?_); refine box_event ?hg (N := 7) ?hd (cs := #[.int .i64 0, .int .u64 0]) (t := 24) ?hr ?_; (case hd => rfl); (case hg => rfl); (case hr => first | (go_simp; done) | (go_simp; rfl)); intro gb1060 hg w25 hbox hb; have BK1060 := Aside0.mk (hbox); have GW1060 := kS HB hg; have GE1060 := kS HB hg; have NB1051_1060 := kN BK1051 hg; have NB1060_1051 := kM BK1051 hg; have NB1052_1060 := kN BK1052 hg; have NB1060_1052 := kM BK1052 hg; have NB1056_1060 := kN BK1056 hg; have NB1060_1056 := kM BK1056 hg; replace BK1051 := kb BK1051 hb; replace BK1052 := kb BK1052 hb; replace BK1056 := kb BK1056 hb; replace HB := kB HB hb; clear hb hbox hg; have hnb26 := NB1060_1051.out; have hnc26 := NB1051_1060.out; have hnb27 := NB1060_1052.out; have hnc27 := NB1052_1060.out; have hnb28 := NB1060_1056.out; have hnc28 := NB1056_1060.out; have hcz29_0 : w25.cell? ⟨gb1060, 0, none⟩ = some (.int .i64 0) := kc BK1060 0; have hcz29_1 : w25.cell? ⟨gb1060, 1, none⟩ = some (.int .u64 0) := kc BK1060 1; have hfz29_0 := blk_frozen BK1060.out 0; have hfz29_1 := blk_frozen BK1060.out 1; have hcz30_0 : w25.cell? ⟨gb1051, 0, none⟩ = some (.int .i64 a0_0) := kc BK1051 0; have hcz30_1 : w25.cell? ⟨gb1051, 1, none⟩ = some (.int .u64 a0_1) := kc BK1051 1; have hfz30_0 := blk_frozen BK1051.out 0; have hfz30_1 := blk_frozen BK1051.out 1))
      go_ret
      exact ⟨by first | rfl | (simp [errW_none, errW_some] <;> rfl) | (simp [*, errW_none, errW_some] <;> rfl), ky HB⟩
    rw [if_neg c18] at H
    have c18b0 : (!(t1057 == a0_0) || (!(t1058 == a0_1))) = false := by simpa using c18
    clear c18
    (first | rw [c18b0] | (simp only [i64_w, i32_w]; rw [c18b0]) | skip)
    have H' := Aside0.mk H
    clear H; have hnb31 := NB1056_1051.out; have hnc31 := NB1051_1056.out; have hnb32 := NB1056_1052.out; have hnc32 := NB1052_1056.out
    have hcz33_0 : w11.cell? ⟨gb1056, 0, none⟩ = some (.int .i64 0) := kc BK1056 0
    have hcz33_1 : w11.cell? ⟨gb1056, 1, none⟩ = some (.int .u64 0) := kc BK1056 1
    have hfz33_0 := blk_frozen BK1056.out 0
    have hfz33_1 := blk_frozen BK1056.out 1
    have hnb34 := NB1052_1051.out; have hnc34 := NB1051_1052.out
    have hcz35_0 : w11.cell? ⟨gb1052, 0, none⟩ = some (.int .i64 a1_0) := kc BK1052 0
    have hcz35_1 : w11.cell? ⟨gb1052, 1, none⟩ = some (.int .u64 a1_1) := kc BK1052 1
    have hfz35_0 := blk_frozen BK1052.out 0
    have hfz35_1 := blk_frozen BK1052.out 1
    go_wp2_with (first | ((with_reducible refine gate_callee (f := 43) rfl ?_); refine goesL_ (some 23) rfl rfl Try.func43 (by kernel_rfl) rfl #[.agg #[.int .i64 t1053, .int .u64 t1054], .agg #[.int .i64 a1_0, .int .u64 a1_1]] rfl (by (try simp only [List.map_toArray, List.map_cons, List.map_nil]); first | done | rfl | (simp only [List.length_drop, List.length_take]; rfl)) ?_; (with_reducible refine (wide_Sub.calls t1053 t1054 a1_0 a1_1 t1057 t1058 true _ A16.out).mono ?_); rintro e w36 ⟨rfl, hb⟩; refine ⟨_, rfl, ?_⟩; have n0_ := kb BK1051 hb; have n1_ := kb BK1052 hb; have n2_ := Aside0.mk (blk_below (g := gb1056) (o := .cells #[.int .i64 t1053, .int .u64 t1054] 24 (0, 0)) (by (with_reducible repeat (first | refine blk_drewN ?_ _ | refine blk_drew ?_ | refine blk_alloc ?_ _)); refine blk_put (cs := #[.int .i64 t1053, .int .u64 0]) ?_ 1 _ rfl; (with_reducible repeat (first | refine blk_drewN ?_ _ | refine blk_drew ?_ | refine blk_alloc ?_ _)); refine blk_put (cs := #[.int .i64 0, .int .u64 0]) ?_ 0 _ rfl; (with_reducible repeat (first | refine blk_drewN ?_ _ | refine blk_drew ?_ | refine blk_alloc ?_ _)); exact BK1056.out) hb); have n3_ := kB HB hb; clear BK1051; clear BK1052; clear BK1056; clear HB; have BK1051 := n0_; have BK1052 := n1_; have BK1056 := n2_; have HB := n3_; clear n0_ n1_ n2_ n3_; (try clear hb); (try clear hb2); (try clear hk); (try clear hi)) | ((with_reducible refine gate_dst (N := 7) rfl ?_); refine box_event ?hg (N := 7) ?hd (cs := #[.int .i64 0, .int .u64 0]) (t := 24) ?hr ?_; (case hd => rfl); (case hg => rfl); (case hr => first | (go_simp; done) | (go_simp; rfl)); intro gb1060 hg w37 hbox hb; have BK1060 := Aside0.mk (hbox); have GW1060 := kS HB hg; have GE1060 := kS HB hg; have NB1051_1060 := kN BK1051 hg; have NB1060_1051 := kM BK1051 hg; have NB1052_1060 := kN BK1052 hg; have NB1060_1052 := kM BK1052 hg; have NB1056_1060 := kN BK1056 hg; have NB1060_1056 := kM BK1056 hg; replace BK1051 := kb BK1051 hb; replace BK1052 := kb BK1052 hb; replace BK1056 := kb BK1056 hb; replace HB := kB HB hb; clear hb hbox hg; have hnb38 := NB1060_1051.out; have hnc38 := NB1051_1060.out; have hnb39 := NB1060_1052.out; have hnc39 := NB1052_1060.out; have hnb40 := NB1060_1056.out; have hnc40 := NB1056_1060.out; have hcz41_0 : w37.cell? ⟨gb1060, 0, none⟩ = some (.int .i64 0) := kc BK1060 0; have hcz41_1 : w37.cell? ⟨gb1060, 1, none⟩ = some (.int .u64 0) := kc BK1060 1; have hfz41_0 := blk_frozen BK1060.out 0; have hfz41_1 := blk_frozen BK1060.out 1; have hcz42_0 : w37.cell? ⟨gb1051, 0, none⟩ = some (.int .i64 a0_0) := kc BK1051 0; have hcz42_1 : w37.cell? ⟨gb1051, 1, none⟩ = some (.int .u64 a0_1) := kc BK1051 1; have hfz42_0 := blk_frozen BK1051.out 0; have hfz42_1 := blk_frozen BK1051.out 1))
    go_meet
    case rel => exact ⟨_, H', ⟨by first | omega | exact Nat.le_refl _⟩, ⟨kx BK1051⟩, ⟨kx BK1052⟩, ⟨kx BK1056⟩, ⟨ky HB⟩⟩
  case rest =>
    clear HC4; try clear c1; try clear c2; try clear p2; try clear c3; try clear c4; try clear c5; try clear c7; try clear c12; try clear c13; try clear c15; try clear c17; try clear c18; try clear c18b0; try clear c19; try clear c20; try clear c22; try clear c26; try clear c27; try clear c28; try clear c29; try clear c31; try clear c32; try clear c34; try clear c38; try clear c39; try clear c40; try clear c43; try clear c44; try clear c46; try clear c50; try clear c51; try clear c52; try clear hcz14_0; try clear hcz14_1; try clear hcz21_0; try clear hcz21_1; try clear hcz23_0; try clear hcz23_1; try clear hcz29_0; try clear hcz29_1; try clear hcz30_0; try clear hcz30_1; try clear hcz33_0; try clear hcz33_1; try clear hcz35_0; try clear hcz35_1; try clear hcz41_0; try clear hcz41_1; try clear hcz42_0; try clear hcz42_1; try clear hcz45_0; try clear hcz45_1; try clear hcz47_0; try clear hcz47_1; try clear hcz53_0; try clear hcz53_1; try clear hcz8_0; try clear hcz8_1; try clear hcz9_0; try clear hcz9_1; try clear hfz14_0; try clear hfz14_1; try clear hfz21_0; try clear hfz21_1; try clear hfz23_0; try clear hfz23_1; try clear hfz29_0; try clear hfz29_1; try clear hfz30_0; try clear hfz30_1; try clear hfz33_0; try clear hfz33_1; try clear hfz35_0; try clear hfz35_1; try clear hfz41_0; try clear hfz41_1; try clear hfz42_0; try clear hfz42_1; try clear hfz45_0; try clear hfz45_1; try clear hfz47_0; try clear hfz47_1; try clear hfz53_0; try clear hfz53_1; try clear hfz8_0; try clear hfz8_1; try clear hfz9_0; try clear hfz9_1
    obtain ⟨kq, HA, HJ3, BK1051, BK1052, BK1056, HB⟩ := hcut
    cases kq with
    | zero => exact absurd HA.out (by simp [cobweblaw01_WideBack.j0])
    | succ kj3 =>
      have H := HA.out; clear HA
      simp only [cobweblaw01_WideBack.j0] at H
      replace H := Option.bind_eq_some_iff.mp H
      obtain ⟨⟨t1061, t1062, t1063⟩, A540, H⟩ := H
      replace H : (if t1063 = true then ((wide_Neg.f t1061 t1062).bind fun bt1065 => (if bt1065.2.2 = true then (if (!(bt1065.1 == a0_0) || (!(bt1065.2.1 == a0_1))) = true then (some false) else ((cobweblaw01_alive.f kj3).bind fun t1069 => (some t1069))) else (some false))) else ((cobweblaw01_alive.f kj3).bind fun t1070 => (some t1070))) = some r := H
      have A54 := Aside0.mk A540
      clear A540
      by_cases c55 : t1063 = true
      rotate_left
      · replace c55 := Bool.eq_false_iff.mpr c55
        subst c55
        have H1 : ((cobweblaw01_alive.f kj3).bind fun t1070 => (some t1070)) = some r := by rw [if_neg (show ¬ (false = true) by decide)] at H; exact H
        clear H; have H := H1; clear H1
        replace H := Option.bind_eq_some_iff.mp H
        obtain ⟨t1070, A1110, H⟩ := H
        replace H : (some t1070) = some r := H
        have A111 := Aside0.mk A1110
        clear A1110
        obtain rfl := Option.some.inj H
        have hnb112 := NB1051_1052.out; have hnc112 := NB1052_1051.out; have hnb113 := NB1051_1056.out; have hnc113 := NB1056_1051.out
        have hcz114_0 : wc.cell? ⟨gb1051, 0, none⟩ = some (.int .i64 a0_0) := kc BK1051 0
        have hcz114_1 : wc.cell? ⟨gb1051, 1, none⟩ = some (.int .u64 a0_1) := kc BK1051 1
        have hfz114_0 := blk_frozen BK1051.out 0
        have hfz114_1 := blk_frozen BK1051.out 1
        go_wp2_with (first | ((with_reducible refine gate_callee (f := 44) rfl ?_); refine goesL_ (some 35) rfl rfl Try.func44 (by kernel_rfl) rfl #[.agg #[.int .i64 a0_0, .int .u64 a0_1]] rfl (by (try simp only [List.map_toArray, List.map_cons, List.map_nil]); first | done | rfl | (simp only [List.length_drop, List.length_take]; rfl)) ?_; (with_reducible refine (wide_Neg.calls a0_0 a0_1 t1061 t1062 false _ A54.out).mono ?_); rintro e w115 ⟨rfl, hb⟩; refine ⟨_, rfl, ?_⟩; replace BK1051 := kb BK1051 hb; replace BK1052 := kb BK1052 hb; replace BK1056 := kb BK1056 hb; replace HB := kB HB hb; (try clear hb); (try clear hb2); (try clear hk); (try clear hi)) | ((with_reducible refine gate_dst (N := 9) rfl ?_); refine box_event ?hg (N := 9) ?hd (cs := #[.int .i64 0, .int .u64 0]) (t := 24) ?hr ?_; (case hd => rfl); (case hg => rfl); (case hr => first | (go_simp; done) | (go_simp; rfl)); intro gb1064 hg w116 hbox hb; have BK1064 := Aside0.mk (hbox); have GW1064 := kS HB hg; have GE1064 := kS HB hg; have NB1051_1064 := kN BK1051 hg; have NB1064_1051 := kM BK1051 hg; have NB1052_1064 := kN BK1052 hg; have NB1064_1052 := kM BK1052 hg; have NB1056_1064 := kN BK1056 hg; have NB1064_1056 := kM BK1056 hg; replace BK1051 := kb BK1051 hb; replace BK1052 := kb BK1052 hb; replace BK1056 := kb BK1056 hb; replace HB := kB HB hb; clear hb hbox hg; have hnb117 := NB1064_1051.out; have hnc117 := NB1051_1064.out; have hnb118 := NB1064_1052.out; have hnc118 := NB1052_1064.out; have hnb119 := NB1064_1056.out; have hnc119 := NB1056_1064.out; have hcz120_0 : w116.cell? ⟨gb1064, 0, none⟩ = some (.int .i64 0) := kc BK1064 0; have hcz120_1 : w116.cell? ⟨gb1064, 1, none⟩ = some (.int .u64 0) := kc BK1064 1; have hfz120_0 := blk_frozen BK1064.out 0; have hfz120_1 := blk_frozen BK1064.out 1) | ((with_reducible refine gate_callee (f := 16) rfl ?_); refine goesL_ (some 51) rfl rfl Try.func16 (by kernel_rfl) rfl #[] rfl (by (try simp only [List.map_toArray, List.map_cons, List.map_nil]); first | done | rfl | (simp only [List.length_drop, List.length_take]; rfl)) ?_; (with_reducible refine (cobweblaw01_alive.calls kj3  t1070 _ A111.out).mono ?_); rintro e w121 ⟨rfl, hb⟩; refine ⟨_, rfl, ?_⟩; have n0_ := kb BK1051 hb; have n1_ := kb BK1052 hb; have n2_ := kb BK1056 hb; have n3_ := Aside0.mk (blk_below (g := gb1064) (o := .cells #[.int .i64 t1061, .int .u64 t1062] 24 (0, 0)) (by (with_reducible repeat (first | refine blk_drewN ?_ _ | refine blk_drew ?_ | refine blk_alloc ?_ _)); refine blk_put (cs := #[.int .i64 t1061, .int .u64 0]) ?_ 1 _ rfl; (with_reducible repeat (first | refine blk_drewN ?_ _ | refine blk_drew ?_ | refine blk_alloc ?_ _)); refine blk_put (cs := #[.int .i64 0, .int .u64 0]) ?_ 0 _ rfl; (with_reducible repeat (first | refine blk_drewN ?_ _ | refine blk_drew ?_ | refine blk_alloc ?_ _)); exact BK1064.out) hb); have n4_ := kB HB hb; clear BK1051; clear BK1052; clear BK1056; clear BK1064; clear HB; have BK1051 := n0_; have BK1052 := n1_; have BK1056 := n2_; have BK1064 := n3_; have HB := n4_; clear n0_ n1_ n2_ n3_ n4_; (try clear hb); (try clear hb2); (try clear hk); (try clear hi)))
        go_ret
        exact ⟨by first | rfl | (simp [errW_none, errW_some] <;> rfl) | (simp [*, errW_none, errW_some] <;> rfl), ky HB⟩

      subst c55
      have H1 : ((wide_Neg.f t1061 t1062).bind fun bt1065 => (if bt1065.2.2 = true then (if (!(bt1065.1 == a0_0) || (!(bt1065.2.1 == a0_1))) = true then (some false) else ((cobweblaw01_alive.f kj3).bind fun t1069 => (some t1069))) else (some false))) = some r := by rw [if_pos rfl] at H; exact H
      clear H; have H := H1; clear H1
      replace H := Option.bind_eq_some_iff.mp H
      obtain ⟨⟨t1065, t1066, t1067⟩, A560, H⟩ := H
      replace H : (if t1067 = true then (if (!(t1065 == a0_0) || (!(t1066 == a0_1))) = true then (some false) else ((cobweblaw01_alive.f kj3).bind fun t1069 => (some t1069))) else (some false)) = some r := H
      have A56 := Aside0.mk A560
      clear A560
      by_cases c57 : t1067 = true
      rotate_left
      · replace c57 := Bool.eq_false_iff.mpr c57
        subst c57
        have H1 : (some false) = some r := by rw [if_neg (show ¬ (false = true) by decide)] at H; exact H
        clear H; have H := H1; clear H1
        obtain rfl := Option.some.inj H
        have hnb95 := NB1051_1052.out; have hnc95 := NB1052_1051.out; have hnb96 := NB1051_1056.out; have hnc96 := NB1056_1051.out
        have hcz97_0 : wc.cell? ⟨gb1051, 0, none⟩ = some (.int .i64 a0_0) := kc BK1051 0
        have hcz97_1 : wc.cell? ⟨gb1051, 1, none⟩ = some (.int .u64 a0_1) := kc BK1051 1
        have hfz97_0 := blk_frozen BK1051.out 0
        have hfz97_1 := blk_frozen BK1051.out 1
        go_wp2_with (first | ((with_reducible refine gate_callee (f := 44) rfl ?_); refine goesL_ (some 35) rfl rfl Try.func44 (by kernel_rfl) rfl #[.agg #[.int .i64 a0_0, .int .u64 a0_1]] rfl (by (try simp only [List.map_toArray, List.map_cons, List.map_nil]); first | done | rfl | (simp only [List.length_drop, List.length_take]; rfl)) ?_; (with_reducible refine (wide_Neg.calls a0_0 a0_1 t1061 t1062 true _ A54.out).mono ?_); rintro e w98 ⟨rfl, hb⟩; refine ⟨_, rfl, ?_⟩; replace BK1051 := kb BK1051 hb; replace BK1052 := kb BK1052 hb; replace BK1056 := kb BK1056 hb; replace HB := kB HB hb; (try clear hb); (try clear hb2); (try clear hk); (try clear hi)) | ((with_reducible refine gate_dst (N := 9) rfl ?_); refine box_event ?hg (N := 9) ?hd (cs := #[.int .i64 0, .int .u64 0]) (t := 24) ?hr ?_; (case hd => rfl); (case hg => rfl); (case hr => first | (go_simp; done) | (go_simp; rfl)); intro gb1064 hg w99 hbox hb; have BK1064 := Aside0.mk (hbox); have GW1064 := kS HB hg; have GE1064 := kS HB hg; have NB1051_1064 := kN BK1051 hg; have NB1064_1051 := kM BK1051 hg; have NB1052_1064 := kN BK1052 hg; have NB1064_1052 := kM BK1052 hg; have NB1056_1064 := kN BK1056 hg; have NB1064_1056 := kM BK1056 hg; replace BK1051 := kb BK1051 hb; replace BK1052 := kb BK1052 hb; replace BK1056 := kb BK1056 hb; replace HB := kB HB hb; clear hb hbox hg; have hnb100 := NB1064_1051.out; have hnc100 := NB1051_1064.out; have hnb101 := NB1064_1052.out; have hnc101 := NB1052_1064.out; have hnb102 := NB1064_1056.out; have hnc102 := NB1056_1064.out; have hcz103_0 : w99.cell? ⟨gb1064, 0, none⟩ = some (.int .i64 0) := kc BK1064 0; have hcz103_1 : w99.cell? ⟨gb1064, 1, none⟩ = some (.int .u64 0) := kc BK1064 1; have hfz103_0 := blk_frozen BK1064.out 0; have hfz103_1 := blk_frozen BK1064.out 1) | ((with_reducible refine gate_callee (f := 44) rfl ?_); refine goesL_ (some 41) rfl rfl Try.func44 (by kernel_rfl) rfl #[.agg #[.int .i64 t1061, .int .u64 t1062]] rfl (by (try simp only [List.map_toArray, List.map_cons, List.map_nil]); first | done | rfl | (simp only [List.length_drop, List.length_take]; rfl)) ?_; (with_reducible refine (wide_Neg.calls t1061 t1062 t1065 t1066 false _ A56.out).mono ?_); rintro e w104 ⟨rfl, hb⟩; refine ⟨_, rfl, ?_⟩; have n0_ := kb BK1051 hb; have n1_ := kb BK1052 hb; have n2_ := kb BK1056 hb; have n3_ := Aside0.mk (blk_below (g := gb1064) (o := .cells #[.int .i64 t1061, .int .u64 t1062] 24 (0, 0)) (by (with_reducible repeat (first | refine blk_drewN ?_ _ | refine blk_drew ?_ | refine blk_alloc ?_ _)); refine blk_put (cs := #[.int .i64 t1061, .int .u64 0]) ?_ 1 _ rfl; (with_reducible repeat (first | refine blk_drewN ?_ _ | refine blk_drew ?_ | refine blk_alloc ?_ _)); refine blk_put (cs := #[.int .i64 0, .int .u64 0]) ?_ 0 _ rfl; (with_reducible repeat (first | refine blk_drewN ?_ _ | refine blk_drew ?_ | refine blk_alloc ?_ _)); exact BK1064.out) hb); have n4_ := kB HB hb; clear BK1051; clear BK1052; clear BK1056; clear BK1064; clear HB; have BK1051 := n0_; have BK1052 := n1_; have BK1056 := n2_; have BK1064 := n3_; have HB := n4_; clear n0_ n1_ n2_ n3_ n4_; (try clear hb); (try clear hb2); (try clear hk); (try clear hi)) | ((with_reducible refine gate_dst (N := 11) rfl ?_); refine box_event ?hg (N := 11) ?hd (cs := #[.int .i64 0, .int .u64 0]) (t := 24) ?hr ?_; (case hd => rfl); (case hg => rfl); (case hr => first | (go_simp; done) | (go_simp; rfl)); intro gb1068 hg w105 hbox hb; have BK1068 := Aside0.mk (hbox); have GW1068 := kS HB hg; have GE1068 := kS HB hg; have NB1051_1068 := kN BK1051 hg; have NB1068_1051 := kM BK1051 hg; have NB1052_1068 := kN BK1052 hg; have NB1068_1052 := kM BK1052 hg; have NB1056_1068 := kN BK1056 hg; have NB1068_1056 := kM BK1056 hg; have NB1064_1068 := kN BK1064 hg; have NB1068_1064 := kM BK1064 hg; replace BK1051 := kb BK1051 hb; replace BK1052 := kb BK1052 hb; replace BK1056 := kb BK1056 hb; replace BK1064 := kb BK1064 hb; replace HB := kB HB hb; clear hb hbox hg; have hnb106 := NB1068_1051.out; have hnc106 := NB1051_1068.out; have hnb107 := NB1068_1052.out; have hnc107 := NB1052_1068.out; have hnb108 := NB1068_1056.out; have hnc108 := NB1056_1068.out; have hnb109 := NB1068_1064.out; have hnc109 := NB1064_1068.out; have hcz110_0 : w105.cell? ⟨gb1068, 0, none⟩ = some (.int .i64 0) := kc BK1068 0; have hcz110_1 : w105.cell? ⟨gb1068, 1, none⟩ = some (.int .u64 0) := kc BK1068 1; have hfz110_0 := blk_frozen BK1068.out 0; have hfz110_1 := blk_frozen BK1068.out 1))
        go_ret
        exact ⟨by first | rfl | (simp [errW_none, errW_some] <;> rfl) | (simp [*, errW_none, errW_some] <;> rfl), ky HB⟩
      subst c57
      have H1 : (if (!(t1065 == a0_0) || (!(t1066 == a0_1))) = true then (some false) else ((cobweblaw01_alive.f kj3).bind fun t1069 => (some t1069))) = some r := by rw [if_pos rfl] at H; exact H
      clear H; have H := H1; clear H1
      by_cases c58 : (!(t1065 == a0_0) || (!(t1066 == a0_1))) = true
      · rw [if_pos c58] at H
        have c58b0 : (!(t1065 == a0_0) || (!(t1066 == a0_1))) = true := c58
        clear c58
        obtain rfl := Option.some.inj H
        have hnb59 := NB1051_1052.out; have hnc59 := NB1052_1051.out; have hnb60 := NB1051_1056.out; have hnc60 := NB1056_1051.out
        have hcz61_0 : wc.cell? ⟨gb1051, 0, none⟩ = some (.int .i64 a0_0) := kc BK1051 0
        have hcz61_1 : wc.cell? ⟨gb1051, 1, none⟩ = some (.int .u64 a0_1) := kc BK1051 1
        have hfz61_0 := blk_frozen BK1051.out 0
        have hfz61_1 := blk_frozen BK1051.out 1
        go_wp2_with (first | ((with_reducible refine gate_callee (f := 44) rfl ?_); refine goesL_ (some 35) rfl rfl Try.func44 (by kernel_rfl) rfl #[.agg #[.int .i64 a0_0, .int .u64 a0_1]] rfl (by (try simp only [List.map_toArray, List.map_cons, List.map_nil]); first | done | rfl | (simp only [List.length_drop, List.length_take]; rfl)) ?_; (with_reducible refine (wide_Neg.calls a0_0 a0_1 t1061 t1062 true _ A54.out).mono ?_); rintro e w62 ⟨rfl, hb⟩; refine ⟨_, rfl, ?_⟩; replace BK1051 := kb BK1051 hb; replace BK1052 := kb BK1052 hb; replace BK1056 := kb BK1056 hb; replace HB := kB HB hb; (try clear hb); (try clear hb2); (try clear hk); (try clear hi)) | ((with_reducible refine gate_dst (N := 9) rfl ?_); refine box_event ?hg (N := 9) ?hd (cs := #[.int .i64 0, .int .u64 0]) (t := 24) ?hr ?_; (case hd => rfl); (case hg => rfl); (case hr => first | (go_simp; done) | (go_simp; rfl)); intro gb1064 hg w63 hbox hb; have BK1064 := Aside0.mk (hbox); have GW1064 := kS HB hg; have GE1064 := kS HB hg; have NB1051_1064 := kN BK1051 hg; have NB1064_1051 := kM BK1051 hg; have NB1052_1064 := kN BK1052 hg; have NB1064_1052 := kM BK1052 hg; have NB1056_1064 := kN BK1056 hg; have NB1064_1056 := kM BK1056 hg; replace BK1051 := kb BK1051 hb; replace BK1052 := kb BK1052 hb; replace BK1056 := kb BK1056 hb; replace HB := kB HB hb; clear hb hbox hg; have hnb64 := NB1064_1051.out; have hnc64 := NB1051_1064.out; have hnb65 := NB1064_1052.out; have hnc65 := NB1052_1064.out; have hnb66 := NB1064_1056.out; have hnc66 := NB1056_1064.out; have hcz67_0 : w63.cell? ⟨gb1064, 0, none⟩ = some (.int .i64 0) := kc BK1064 0; have hcz67_1 : w63.cell? ⟨gb1064, 1, none⟩ = some (.int .u64 0) := kc BK1064 1; have hfz67_0 := blk_frozen BK1064.out 0; have hfz67_1 := blk_frozen BK1064.out 1) | ((with_reducible refine gate_callee (f := 44) rfl ?_); refine goesL_ (some 41) rfl rfl Try.func44 (by kernel_rfl) rfl #[.agg #[.int .i64 t1061, .int .u64 t1062]] rfl (by (try simp only [List.map_toArray, List.map_cons, List.map_nil]); first | done | rfl | (simp only [List.length_drop, List.length_take]; rfl)) ?_; (with_reducible refine (wide_Neg.calls t1061 t1062 t1065 t1066 true _ A56.out).mono ?_); rintro e w68 ⟨rfl, hb⟩; refine ⟨_, rfl, ?_⟩; have n0_ := kb BK1051 hb; have n1_ := kb BK1052 hb; have n2_ := kb BK1056 hb; have n3_ := Aside0.mk (blk_below (g := gb1064) (o := .cells #[.int .i64 t1061, .int .u64 t1062] 24 (0, 0)) (by (with_reducible repeat (first | refine blk_drewN ?_ _ | refine blk_drew ?_ | refine blk_alloc ?_ _)); refine blk_put (cs := #[.int .i64 t1061, .int .u64 0]) ?_ 1 _ rfl; (with_reducible repeat (first | refine blk_drewN ?_ _ | refine blk_drew ?_ | refine blk_alloc ?_ _)); refine blk_put (cs := #[.int .i64 0, .int .u64 0]) ?_ 0 _ rfl; (with_reducible repeat (first | refine blk_drewN ?_ _ | refine blk_drew ?_ | refine blk_alloc ?_ _)); exact BK1064.out) hb); have n4_ := kB HB hb; clear BK1051; clear BK1052; clear BK1056; clear BK1064; clear HB; have BK1051 := n0_; have BK1052 := n1_; have BK1056 := n2_; have BK1064 := n3_; have HB := n4_; clear n0_ n1_ n2_ n3_ n4_; (try clear hb); (try clear hb2); (try clear hk); (try clear hi)) | ((with_reducible refine gate_dst (N := 11) rfl ?_); refine box_event ?hg (N := 11) ?hd (cs := #[.int .i64 0, .int .u64 0]) (t := 24) ?hr ?_; (case hd => rfl); (case hg => rfl); (case hr => first | (go_simp; done) | (go_simp; rfl)); intro gb1068 hg w69 hbox hb; have BK1068 := Aside0.mk (hbox); have GW1068 := kS HB hg; have GE1068 := kS HB hg; have NB1051_1068 := kN BK1051 hg; have NB1068_1051 := kM BK1051 hg; have NB1052_1068 := kN BK1052 hg; have NB1068_1052 := kM BK1052 hg; have NB1056_1068 := kN BK1056 hg; have NB1068_1056 := kM BK1056 hg; have NB1064_1068 := kN BK1064 hg; have NB1068_1064 := kM BK1064 hg; replace BK1051 := kb BK1051 hb; replace BK1052 := kb BK1052 hb; replace BK1056 := kb BK1056 hb; replace BK1064 := kb BK1064 hb; replace HB := kB HB hb; clear hb hbox hg; have hnb70 := NB1068_1051.out; have hnc70 := NB1051_1068.out; have hnb71 := NB1068_1052.out; have hnc71 := NB1052_1068.out; have hnb72 := NB1068_1056.out; have hnc72 := NB1056_1068.out; have hnb73 := NB1068_1064.out; have hnc73 := NB1064_1068.out; have hcz74_0 : w69.cell? ⟨gb1068, 0, none⟩ = some (.int .i64 0) := kc BK1068 0; have hcz74_1 : w69.cell? ⟨gb1068, 1, none⟩ = some (.int .u64 0) := kc BK1068 1; have hfz74_0 := blk_frozen BK1068.out 0; have hfz74_1 := blk_frozen BK1068.out 1; have hcz75_0 : w69.cell? ⟨gb1051, 0, none⟩ = some (.int .i64 a0_0) := kc BK1051 0; have hcz75_1 : w69.cell? ⟨gb1051, 1, none⟩ = some (.int .u64 a0_1) := kc BK1051 1; have hfz75_0 := blk_frozen BK1051.out 0; have hfz75_1 := blk_frozen BK1051.out 1))
        go_ret
        exact ⟨by first | rfl | (simp [errW_none, errW_some] <;> rfl) | (simp [*, errW_none, errW_some] <;> rfl), ky HB⟩
      rw [if_neg c58] at H
      have c58b0 : (!(t1065 == a0_0) || (!(t1066 == a0_1))) = false := by simpa using c58
      clear c58
      replace H := Option.bind_eq_some_iff.mp H
      obtain ⟨t1069, A760, H⟩ := H
      replace H : (some t1069) = some r := H
      have A76 := Aside0.mk A760
      clear A760
      obtain rfl := Option.some.inj H
      have hnb77 := NB1051_1052.out; have hnc77 := NB1052_1051.out; have hnb78 := NB1051_1056.out; have hnc78 := NB1056_1051.out
      have hcz79_0 : wc.cell? ⟨gb1051, 0, none⟩ = some (.int .i64 a0_0) := kc BK1051 0
      have hcz79_1 : wc.cell? ⟨gb1051, 1, none⟩ = some (.int .u64 a0_1) := kc BK1051 1
      have hfz79_0 := blk_frozen BK1051.out 0
      have hfz79_1 := blk_frozen BK1051.out 1
      go_wp2_with (first | ((with_reducible refine gate_callee (f := 44) rfl ?_); refine goesL_ (some 35) rfl rfl Try.func44 (by kernel_rfl) rfl #[.agg #[.int .i64 a0_0, .int .u64 a0_1]] rfl (by (try simp only [List.map_toArray, List.map_cons, List.map_nil]); first | done | rfl | (simp only [List.length_drop, List.length_take]; rfl)) ?_; (with_reducible refine (wide_Neg.calls a0_0 a0_1 t1061 t1062 true _ A54.out).mono ?_); rintro e w80 ⟨rfl, hb⟩; refine ⟨_, rfl, ?_⟩; replace BK1051 := kb BK1051 hb; replace BK1052 := kb BK1052 hb; replace BK1056 := kb BK1056 hb; replace HB := kB HB hb; (try clear hb); (try clear hb2); (try clear hk); (try clear hi)) | ((with_reducible refine gate_dst (N := 9) rfl ?_); refine box_event ?hg (N := 9) ?hd (cs := #[.int .i64 0, .int .u64 0]) (t := 24) ?hr ?_; (case hd => rfl); (case hg => rfl); (case hr => first | (go_simp; done) | (go_simp; rfl)); intro gb1064 hg w81 hbox hb; have BK1064 := Aside0.mk (hbox); have GW1064 := kS HB hg; have GE1064 := kS HB hg; have NB1051_1064 := kN BK1051 hg; have NB1064_1051 := kM BK1051 hg; have NB1052_1064 := kN BK1052 hg; have NB1064_1052 := kM BK1052 hg; have NB1056_1064 := kN BK1056 hg; have NB1064_1056 := kM BK1056 hg; replace BK1051 := kb BK1051 hb; replace BK1052 := kb BK1052 hb; replace BK1056 := kb BK1056 hb; replace HB := kB HB hb; clear hb hbox hg; have hnb82 := NB1064_1051.out; have hnc82 := NB1051_1064.out; have hnb83 := NB1064_1052.out; have hnc83 := NB1052_1064.out; have hnb84 := NB1064_1056.out; have hnc84 := NB1056_1064.out; have hcz85_0 : w81.cell? ⟨gb1064, 0, none⟩ = some (.int .i64 0) := kc BK1064 0; have hcz85_1 : w81.cell? ⟨gb1064, 1, none⟩ = some (.int .u64 0) := kc BK1064 1; have hfz85_0 := blk_frozen BK1064.out 0; have hfz85_1 := blk_frozen BK1064.out 1) | ((with_reducible refine gate_callee (f := 44) rfl ?_); refine goesL_ (some 41) rfl rfl Try.func44 (by kernel_rfl) rfl #[.agg #[.int .i64 t1061, .int .u64 t1062]] rfl (by (try simp only [List.map_toArray, List.map_cons, List.map_nil]); first | done | rfl | (simp only [List.length_drop, List.length_take]; rfl)) ?_; (with_reducible refine (wide_Neg.calls t1061 t1062 t1065 t1066 true _ A56.out).mono ?_); rintro e w86 ⟨rfl, hb⟩; refine ⟨_, rfl, ?_⟩; have n0_ := kb BK1051 hb; have n1_ := kb BK1052 hb; have n2_ := kb BK1056 hb; have n3_ := Aside0.mk (blk_below (g := gb1064) (o := .cells #[.int .i64 t1061, .int .u64 t1062] 24 (0, 0)) (by (with_reducible repeat (first | refine blk_drewN ?_ _ | refine blk_drew ?_ | refine blk_alloc ?_ _)); refine blk_put (cs := #[.int .i64 t1061, .int .u64 0]) ?_ 1 _ rfl; (with_reducible repeat (first | refine blk_drewN ?_ _ | refine blk_drew ?_ | refine blk_alloc ?_ _)); refine blk_put (cs := #[.int .i64 0, .int .u64 0]) ?_ 0 _ rfl; (with_reducible repeat (first | refine blk_drewN ?_ _ | refine blk_drew ?_ | refine blk_alloc ?_ _)); exact BK1064.out) hb); have n4_ := kB HB hb; clear BK1051; clear BK1052; clear BK1056; clear BK1064; clear HB; have BK1051 := n0_; have BK1052 := n1_; have BK1056 := n2_; have BK1064 := n3_; have HB := n4_; clear n0_ n1_ n2_ n3_ n4_; (try clear hb); (try clear hb2); (try clear hk); (try clear hi)) | ((with_reducible refine gate_dst (N := 11) rfl ?_); refine box_event ?hg (N := 11) ?hd (cs := #[.int .i64 0, .int .u64 0]) (t := 24) ?hr ?_; (case hd => rfl); (case hg => rfl); (case hr => first | (go_simp; done) | (go_simp; rfl)); intro gb1068 hg w87 hbox hb; have BK1068 := Aside0.mk (hbox); have GW1068 := kS HB hg; have GE1068 := kS HB hg; have NB1051_1068 := kN BK1051 hg; have NB1068_1051 := kM BK1051 hg; have NB1052_1068 := kN BK1052 hg; have NB1068_1052 := kM BK1052 hg; have NB1056_1068 := kN BK1056 hg; have NB1068_1056 := kM BK1056 hg; have NB1064_1068 := kN BK1064 hg; have NB1068_1064 := kM BK1064 hg; replace BK1051 := kb BK1051 hb; replace BK1052 := kb BK1052 hb; replace BK1056 := kb BK1056 hb; replace BK1064 := kb BK1064 hb; replace HB := kB HB hb; clear hb hbox hg; have hnb88 := NB1068_1051.out; have hnc88 := NB1051_1068.out; have hnb89 := NB1068_1052.out; have hnc89 := NB1052_1068.out; have hnb90 := NB1068_1056.out; have hnc90 := NB1056_1068.out; have hnb91 := NB1068_1064.out; have hnc91 := NB1064_1068.out; have hcz92_0 : w87.cell? ⟨gb1068, 0, none⟩ = some (.int .i64 0) := kc BK1068 0; have hcz92_1 : w87.cell? ⟨gb1068, 1, none⟩ = some (.int .u64 0) := kc BK1068 1; have hfz92_0 := blk_frozen BK1068.out 0; have hfz92_1 := blk_frozen BK1068.out 1; have hcz93_0 : w87.cell? ⟨gb1051, 0, none⟩ = some (.int .i64 a0_0) := kc BK1051 0; have hcz93_1 : w87.cell? ⟨gb1051, 1, none⟩ = some (.int .u64 a0_1) := kc BK1051 1; have hfz93_0 := blk_frozen BK1051.out 0; have hfz93_1 := blk_frozen BK1051.out 1) | ((with_reducible refine gate_callee (f := 16) rfl ?_); refine goesL_ (some 51) rfl rfl Try.func16 (by kernel_rfl) rfl #[] rfl (by (try simp only [List.map_toArray, List.map_cons, List.map_nil]); first | done | rfl | (simp only [List.length_drop, List.length_take]; rfl)) ?_; (with_reducible refine (cobweblaw01_alive.calls kj3  t1069 _ A76.out).mono ?_); rintro e w94 ⟨rfl, hb⟩; refine ⟨_, rfl, ?_⟩; have n0_ := kb BK1051 hb; have n1_ := kb BK1052 hb; have n2_ := kb BK1056 hb; have n3_ := kb BK1064 hb; have n4_ := Aside0.mk (blk_below (g := gb1068) (o := .cells #[.int .i64 t1065, .int .u64 t1066] 24 (0, 0)) (by (with_reducible repeat (first | refine blk_drewN ?_ _ | refine blk_drew ?_ | refine blk_alloc ?_ _)); refine blk_put (cs := #[.int .i64 t1065, .int .u64 0]) ?_ 1 _ rfl; (with_reducible repeat (first | refine blk_drewN ?_ _ | refine blk_drew ?_ | refine blk_alloc ?_ _)); refine blk_put (cs := #[.int .i64 0, .int .u64 0]) ?_ 0 _ rfl; (with_reducible repeat (first | refine blk_drewN ?_ _ | refine blk_drew ?_ | refine blk_alloc ?_ _)); exact BK1068.out) hb); have n5_ := kB HB hb; clear BK1051; clear BK1052; clear BK1056; clear BK1064; clear BK1068; clear HB; have BK1051 := n0_; have BK1052 := n1_; have BK1056 := n2_; have BK1064 := n3_; have BK1068 := n4_; have HB := n5_; clear n0_ n1_ n2_ n3_ n4_ n5_; (try clear hb); (try clear hb2); (try clear hk); (try clear hi)))
      go_ret
      exact ⟨by first | rfl | (simp [errW_none, errW_some] <;> rfl) | (simp [*, errW_none, errW_some] <;> rfl), ky HB⟩
/-! ### cobweblaw02_num: function 47 -/
def cobweblaw02_num.f (k : Nat) (a0_0 : Int) (a0_1 : Int) : Option (Bool × List Int) := (cobwebref01_Wide.f k a0_0 a0_1).bind fun bt1073 => (some (bt1073.1, bt1073.2))
theorem cobweblaw02_num.mono : ∀ a0 a1 k, LeO (cobweblaw02_num.f k a0 a1) (cobweblaw02_num.f (k + 1) a0 a1) := by
  intro a0 a1 k
  unfold cobweblaw02_num.f
  repeat' first
      | (with_reducible exact cobwebref01_Wide.mono _ _ _)
      | (with_reducible exact LeO.refl _)
      | (with_reducible exact LeO.none _)
      | (with_reducible refine LeO.ite ?_ ?_)
      | (with_reducible refine LeO.bind ?_ (fun _ => ?_))
      | exact cobwebref01_Wide.mono _ _ _
      | exact LeO.none _
      | refine LeO.ite ?_ ?_
      | refine LeO.bind ?_ (fun _ => ?_)
set_option maxHeartbeats 8000000 in
set_option maxRecDepth 100000 in
theorem cobweblaw02_num.calls (k : Nat) (a0_0 : Int) (a0_1 : Int) (r1 : Bool) (r2 : List Int) (w : World) (h : cobweblaw02_num.f k a0_0 a0_1 = some (r1, r2)) :
    Calls Try.prog 47 #[.agg #[.int .i64 a0_0, .int .u64 a0_1]] w fun e w' => ∃ v1_ : Value, e = .returned (.agg #[.bool r1, v1_]) ∧ Kd.V (Kd.int .i64) 3 w' w.heap.size (fun k_ => (w.heap.size ≤ k_)) v1_ r2 ∧ Below w.heap.size w w' := by
  have hu24 := Try.underlying24
  have hu32 := Try.underlying32
  have HB := Aside0.mk (Below.refl w.heap.size w)
  have H : ((cobwebref01_Wide.f k a0_0 a0_1).bind fun bt1073 => (some (bt1073.1, bt1073.2))) = some (r1, r2) := h
  clear h
  replace H := Option.bind_eq_some_iff.mp H
  obtain ⟨⟨t1073, t1074⟩, A20, H⟩ := H
  replace H : (some (t1073, t1074)) = some (r1, r2) := H
  have A2 := Aside0.mk A20
  clear A20
  simp only [Option.some.injEq, Prod.mk.injEq] at H
  obtain ⟨rfl, rfl⟩ := H
  go_enter Try.func47, Try.ntmps47
  go_wp2_with (first | ((with_reducible refine gate_dst (N := 1) rfl ?_); refine box_event ?hg (N := 1) ?hd (cs := #[.int .i64 a0_0, .int .u64 a0_1]) (t := 24) ?hr ?_; (case hd => rfl); (case hg => rfl); (case hr => first | (go_simp; done) | (go_simp; rfl)); intro gb1071 hg w3 hbox hb; have BK1071 := Aside0.mk (hbox); have GW1071 := kS HB hg; have GE1071 := kS HB hg; replace HB := kB HB hb; clear hb hbox hg) | ((with_reducible refine gate_dst (N := 2) rfl ?_); refine box_event ?hg (N := 2) ?hd (cs := #[.bool false, .slice none 0 0]) (t := 32) ?hr ?_; (case hd => rfl); (case hg => rfl); (case hr => first | (go_simp; done) | (go_simp; rfl)); intro gb1072 hg w4 hbox hb; have BK1072 := Aside0.mk (hbox); have GW1072 := kS HB hg; have GE1072 := kS HB hg; have NB1071_1072 := kN BK1071 hg; have NB1072_1071 := kM BK1071 hg; replace BK1071 := kb BK1071 hb; replace HB := kB HB hb; clear hb hbox hg; have hnb5 := NB1071_1072.out; have hnc5 := NB1072_1071.out; have hcz6_0 : w4.cell? ⟨gb1071, 0, none⟩ = some (.int .i64 a0_0) := kc BK1071 0; have hcz6_1 : w4.cell? ⟨gb1071, 1, none⟩ = some (.int .u64 a0_1) := kc BK1071 1; have hfz6_0 := blk_frozen BK1071.out 0; have hfz6_1 := blk_frozen BK1071.out 1) | ((with_reducible refine gate_callee (f := 58) rfl ?_); refine goesL_ (some 7) rfl rfl Try.func58 (by kernel_rfl) rfl #[.int .i64 a0_0, .int .u64 a0_1] rfl (by (try simp only [List.map_toArray, List.map_cons, List.map_nil]); first | done | rfl | (simp only [List.length_drop, List.length_take]; rfl)) ?_; (with_reducible refine (cobwebref01_Wide.calls k a0_0 a0_1 t1073 t1074 _ A2.out).mono ?_); rintro e w7 ⟨v1075, rfl, ho0, hb⟩; refine ⟨_, rfl, ?_⟩; have HO1076 := Aside0.mk (Kd.V_lower (Kd.V_mono (ok' := fun k_ => (w.heap.size ≤ k_) ∧ k_ ≠ gb1071 ∧ k_ ≠ gb1072) ho0 (fun k_ hk_ => ⟨(Nat.le_trans (below_size (ky HB)) hk_), (Kd.freshB (g := gb1071) (o := .cells #[.int .i64 a0_0, .int .u64 a0_1] 24 (0, 0)) (kx BK1071) k_ hk_), (Kd.freshB (g := gb1072) (o := .cells #[.bool false, .slice none 0 0] 32 (0, 0)) (kx BK1072) k_ hk_)⟩)) (below_size (ky HB))); replace BK1071 := kb BK1071 hb; replace BK1072 := kb BK1072 hb; replace HB := kB HB hb; (try clear hb); (try clear hb2); (try clear hk); (try clear hi); (try clear ho0); have hcz8_0 : w7.cell? ⟨gb1072, 0, none⟩ = some (.bool false) := kc BK1072 0; have hcz8_1 : w7.cell? ⟨gb1072, 1, none⟩ = some (.slice none 0 0) := kc BK1072 1; have hfz8_0 := blk_frozen BK1072.out 0; have hfz8_1 := blk_frozen BK1072.out 1; obtain ⟨Ao9, co9, eo9⟩ := Kd.V_slice HO1076.out; subst eo9))
  refine bodyPost_ret (results_cell_row rfl _ _ gb1072 32 #[.bool t1073, .slice Ao9 t1074.length co9] (0, 0) _ rfl (by (with_reducible repeat (first | refine blk_drewN ?_ _ | refine blk_drew ?_ | refine blk_alloc ?_ _)); refine blk_put (cs := #[.bool t1073, .slice none 0 0]) ?_ 1 _ rfl; (with_reducible repeat (first | refine blk_drewN ?_ _ | refine blk_drew ?_ | refine blk_alloc ?_ _)); refine blk_put (cs := #[.bool false, .slice none 0 0]) ?_ 0 _ rfl; (with_reducible repeat (first | refine blk_drewN ?_ _ | refine blk_drew ?_ | refine blk_alloc ?_ _)); exact BK1072.out) Try.underlying32 rfl (by kernel_rfl)) rfl ?_
  exact ⟨_, by first | rfl | (simp [errW_none, errW_some] <;> rfl) | (simp [*, errW_none, errW_some] <;> rfl), by (with_reducible repeat (first | apply Kd.V_alloc | apply Kd.V_drewN | apply Kd.V_drew)); exact Kd.V_mono (Kd.V_far (p := ⟨gb1072, 1, none⟩) (Kd.V_far (p := ⟨gb1072, 0, none⟩) (Kd.V_mono HO1076.out (fun k_ hk => (⟨hk, hk.2.2⟩ : _ ∧ k_ ≠ gb1072))) (fun _ hk => hk.2) (.bool t1073)) (fun _ hk => hk.2) (.slice Ao9 t1074.length co9)) (fun _ hk => hk.1.1), ky HB⟩

-- NOT PRINTED: function 14 (cobweblaw02_FracMakes)

end Go.Proofs.Ytpjbniihdndlmaa.Q
