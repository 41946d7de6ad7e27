-- Printed by wip/pp.sh (a session's own turning of the kit's print) for this seat.
import Derived.Test.YtpjbniihdndlmaaQx0
import Derived.Test.YtpjbniihdndlmaaQx7
import Derived.Test.YtpjbniihdndlmaaQx13
import Derived.Test.YtpjbniihdndlmaaQx15
import Derived.Test.YtpjbniihdndlmaaQx16
import Derived.Test.YtpjbniihdndlmaaQx19
import Derived.Test.YtpjbniihdndlmaaQx22
namespace Go.Proofs.Ytpjbniihdndlmaa.Q
open Go.RowKit Go.Proofs.YtpjbniihdndlmaaW.PrintWords Go.Proofs.YtpjbniihdndlmaaW.PrintLast Go.Proofs.YtpjbniihdndlmaaW.PrintMore
open Go.Proofs.Ytpjbniihdndlmaa.H
attribute [local go_sem] hq_add64 hq_sub64 hq_not64 add64c_nn sub64c_nn sub64c_le
attribute [local go_sem] max2_int min2_int max_two min_two max_three min_three max_four min_four   -- for this text's walks alone
set_option linter.unusedVariables false
set_option linter.unusedSimpArgs false

/-! ### cobweblaw01_WideMuls: function 3 -/
def cobweblaw01_WideMuls.f (k : Nat) (a0_0 : Int) (a0_1 : Int) (a1_0 : Int) (a1_1 : Int) (a2_0 : Int) (a2_1 : Int) : Option (Bool) := (wide_Mul.f k a0_0 a0_1 a1_0 a1_1).bind fun bt453 => ((cobweblaw01_alive.f k).bind fun t457 => (if t457 = true then ((cobweblaw01_num.f k a0_0 a0_1).bind fun bt458 => ((cobweblaw01_num.f k a1_0 a1_1).bind fun bt462 => ((cobwebref01_Mul.f k bt458.1 bt458.2 bt462.1 bt462.2).bind fun bt466 => ((cobweblaw01_same.f k bt453.1 bt453.2.1 bt453.2.2 bt466.1 bt466.2).bind fun t470 => (if t470 = true then ((wide_Times.f k a2_0 a2_1).bind fun bt471 => ((cobwebref01_Of.f k a2_0).bind fun bt473 => ((cobwebref01_Of.f k a2_1).bind fun bt477 => ((cobwebref01_Mul.f k bt473.1 bt473.2 bt477.1 bt477.2).bind fun bt481 => ((cobweblaw01_same.f k bt471.1 bt471.2 true bt481.1 bt481.2).bind fun t485 => (some t485)))))) else (none)))))) else (none)))
theorem cobweblaw01_WideMuls.mono : ∀ a0 a1 a2 a3 a4 a5 k, LeO (cobweblaw01_WideMuls.f k a0 a1 a2 a3 a4 a5) (cobweblaw01_WideMuls.f (k + 1) a0 a1 a2 a3 a4 a5) := by
  intro a0 a1 a2 a3 a4 a5 k
  unfold cobweblaw01_WideMuls.f
  repeat' first
      | (with_reducible exact cobweblaw01_alive.mono _)
      | (with_reducible exact cobweblaw01_num.mono _ _ _)
      | (with_reducible exact cobweblaw01_same.mono _ _ _ _ _ _)
      | (with_reducible exact cobwebref01_Mul.mono _ _ _ _ _)
      | (with_reducible exact cobwebref01_Of.mono _ _)
      | (with_reducible exact wide_Mul.mono _ _ _ _ _)
      | (with_reducible exact wide_Times.mono _ _ _)
      | (with_reducible exact LeO.refl _)
      | (with_reducible exact LeO.none _)
      | (with_reducible refine LeO.ite ?_ ?_)
      | (with_reducible refine LeO.bind ?_ (fun _ => ?_))
      | exact cobweblaw01_alive.mono _
      | exact cobweblaw01_num.mono _ _ _
      | exact cobweblaw01_same.mono _ _ _ _ _ _
      | exact cobwebref01_Mul.mono _ _ _ _ _
      | exact cobwebref01_Of.mono _ _
      | exact wide_Mul.mono _ _ _ _ _
      | exact wide_Times.mono _ _ _
      | exact LeO.none _
      | refine LeO.ite ?_ ?_
      | refine LeO.bind ?_ (fun _ => ?_)
def cobweblaw01_WideMuls.T2 : Bool × List (List Nat × List Nat) := (true, [([], []), ([0, 0], [0]), ([1], [1]), ([1], [1]), ([1], [1]), ([4, 1, 1], [1, 4]), ([1], [1]), ([6, 5, 1], [1, 6]), ([5, 7, 7, 1], [1, 5, 7]), ([2, 3, 8, 8, 1], [1, 2, 3, 8]), ([1, 9], [1, 9]), ([10, 9], [10]), ([11], [11]), ([12, 11], [11, 12]), ([11], [11]), ([14, 11], [11, 14]), ([13, 15, 11, 11], [11, 13, 15]), ([11], [11]), ([17, 11], [11, 17]), ([18, 16, 11], [11, 18]), ([11], [11]), ([20, 11], [11, 20]), ([21, 19, 11], [11, 21]), ([19, 22, 22, 11], [11, 19, 22]), ([16, 23, 23, 11], [11, 16, 23]), ([11, 24], [11, 24]), ([25, 24, 0, 1, 2, 3, 4, 5, 6, 7, 8, 9, 10, 11, 12, 13, 14, 15, 16, 17, 18, 19, 20, 21, 22, 23, 24, 25], [25])])
def cobweblaw01_WideMuls.B2 : List Nat := [0, 1, 3, 3, 3, 19, 3, 115, 243, 511, 1023, 2047, 4095, 8191, 4095, 20479, 65535, 4095, 135167, 524287, 4095, 1052671, 4194303, 8388607, 16777215, 33554431, 67108863]
theorem cobweblaw01_WideMuls.tab2 : rtab .any (opsOf Try.f3 2) = cobweblaw01_WideMuls.T2 := by kernel_rfl
theorem cobweblaw01_WideMuls.bits2 : waitsOk cobweblaw01_WideMuls.T2.2 cobweblaw01_WideMuls.B2 = true := by kernel_rfl
set_option maxHeartbeats 8000000 in
set_option maxRecDepth 100000 in
theorem cobweblaw01_WideMuls.calls (k : Nat) (a0_0 : Int) (a0_1 : Int) (a1_0 : Int) (a1_1 : Int) (a2_0 : Int) (a2_1 : Int) (r : Bool) (w : World) (h : cobweblaw01_WideMuls.f k a0_0 a0_1 a1_0 a1_1 a2_0 a2_1 = some r) :
    Calls Try.prog 3 #[.agg #[.int .i64 a0_0, .int .u64 a0_1], .agg #[.int .i64 a1_0, .int .u64 a1_1], .agg #[.int .i64 a2_0, .int .i64 a2_1]] w fun e w' => e = .returned (.bool r) ∧ Below w.heap.size w w' := by
  have hu24 := Try.underlying24
  have hu25 := Try.underlying25
  have HB := Aside0.mk (Below.refl w.heap.size w)
  have H : ((wide_Mul.f k a0_0 a0_1 a1_0 a1_1).bind fun bt453 => ((cobweblaw01_alive.f k).bind fun t457 => (if t457 = true then ((cobweblaw01_num.f k a0_0 a0_1).bind fun bt458 => ((cobweblaw01_num.f k a1_0 a1_1).bind fun bt462 => ((cobwebref01_Mul.f k bt458.1 bt458.2 bt462.1 bt462.2).bind fun bt466 => ((cobweblaw01_same.f k bt453.1 bt453.2.1 bt453.2.2 bt466.1 bt466.2).bind fun t470 => (if t470 = true then ((wide_Times.f k a2_0 a2_1).bind fun bt471 => ((cobwebref01_Of.f k a2_0).bind fun bt473 => ((cobwebref01_Of.f k a2_1).bind fun bt477 => ((cobwebref01_Mul.f k bt473.1 bt473.2 bt477.1 bt477.2).bind fun bt481 => ((cobweblaw01_same.f k bt471.1 bt471.2 true bt481.1 bt481.2).bind fun t485 => (some t485)))))) else (none)))))) else (none)))) = some r := h
  clear h
  replace H := Option.bind_eq_some_iff.mp H
  obtain ⟨⟨t453, t454, t455⟩, A40, H⟩ := H
  replace H : ((cobweblaw01_alive.f k).bind fun t457 => (if t457 = true then ((cobweblaw01_num.f k a0_0 a0_1).bind fun bt458 => ((cobweblaw01_num.f k a1_0 a1_1).bind fun bt462 => ((cobwebref01_Mul.f k bt458.1 bt458.2 bt462.1 bt462.2).bind fun bt466 => ((cobweblaw01_same.f k t453 t454 t455 bt466.1 bt466.2).bind fun t470 => (if t470 = true then ((wide_Times.f k a2_0 a2_1).bind fun bt471 => ((cobwebref01_Of.f k a2_0).bind fun bt473 => ((cobwebref01_Of.f k a2_1).bind fun bt477 => ((cobwebref01_Mul.f k bt473.1 bt473.2 bt477.1 bt477.2).bind fun bt481 => ((cobweblaw01_same.f k bt471.1 bt471.2 true bt481.1 bt481.2).bind fun t485 => (some t485)))))) else (none)))))) else (none))) = some r := H
  have A4 := Aside0.mk A40
  clear A40
  replace H := Option.bind_eq_some_iff.mp H
  obtain ⟨t457, A50, H⟩ := H
  replace H : (if t457 = true then ((cobweblaw01_num.f k a0_0 a0_1).bind fun bt458 => ((cobweblaw01_num.f k a1_0 a1_1).bind fun bt462 => ((cobwebref01_Mul.f k bt458.1 bt458.2 bt462.1 bt462.2).bind fun bt466 => ((cobweblaw01_same.f k t453 t454 t455 bt466.1 bt466.2).bind fun t470 => (if t470 = true then ((wide_Times.f k a2_0 a2_1).bind fun bt471 => ((cobwebref01_Of.f k a2_0).bind fun bt473 => ((cobwebref01_Of.f k a2_1).bind fun bt477 => ((cobwebref01_Mul.f k bt473.1 bt473.2 bt477.1 bt477.2).bind fun bt481 => ((cobweblaw01_same.f k bt471.1 bt471.2 true bt481.1 bt481.2).bind fun t485 => (some t485)))))) else (none)))))) else (none)) = some r := H
  have A5 := Aside0.mk A50
  clear A50
  by_cases c6 : t457 = true
  rotate_left
  · replace c6 := Bool.eq_false_iff.mpr c6
    subst c6
    have H1 : (none) = some r := by rw [if_neg (show ¬ (false = true) by decide)] at H; exact H
    clear H; have H := H1; clear H1
    exact absurd H (by simp)

  subst c6
  have H1 : ((cobweblaw01_num.f k a0_0 a0_1).bind fun bt458 => ((cobweblaw01_num.f k a1_0 a1_1).bind fun bt462 => ((cobwebref01_Mul.f k bt458.1 bt458.2 bt462.1 bt462.2).bind fun bt466 => ((cobweblaw01_same.f k t453 t454 t455 bt466.1 bt466.2).bind fun t470 => (if t470 = true then ((wide_Times.f k a2_0 a2_1).bind fun bt471 => ((cobwebref01_Of.f k a2_0).bind fun bt473 => ((cobwebref01_Of.f k a2_1).bind fun bt477 => ((cobwebref01_Mul.f k bt473.1 bt473.2 bt477.1 bt477.2).bind fun bt481 => ((cobweblaw01_same.f k bt471.1 bt471.2 true bt481.1 bt481.2).bind fun t485 => (some t485)))))) else (none)))))) = some r := by rw [if_pos rfl] at H; exact H
  clear H; have H := H1; clear H1
  replace H := Option.bind_eq_some_iff.mp H
  obtain ⟨⟨t458, t459⟩, A70, H⟩ := H
  replace H : ((cobweblaw01_num.f k a1_0 a1_1).bind fun bt462 => ((cobwebref01_Mul.f k t458 t459 bt462.1 bt462.2).bind fun bt466 => ((cobweblaw01_same.f k t453 t454 t455 bt466.1 bt466.2).bind fun t470 => (if t470 = true then ((wide_Times.f k a2_0 a2_1).bind fun bt471 => ((cobwebref01_Of.f k a2_0).bind fun bt473 => ((cobwebref01_Of.f k a2_1).bind fun bt477 => ((cobwebref01_Mul.f k bt473.1 bt473.2 bt477.1 bt477.2).bind fun bt481 => ((cobweblaw01_same.f k bt471.1 bt471.2 true bt481.1 bt481.2).bind fun t485 => (some t485)))))) else (none))))) = some r := H
  have A7 := Aside0.mk A70
  clear A70
  replace H := Option.bind_eq_some_iff.mp H
  obtain ⟨⟨t462, t463⟩, A80, H⟩ := H
  replace H : ((cobwebref01_Mul.f k t458 t459 t462 t463).bind fun bt466 => ((cobweblaw01_same.f k t453 t454 t455 bt466.1 bt466.2).bind fun t470 => (if t470 = true then ((wide_Times.f k a2_0 a2_1).bind fun bt471 => ((cobwebref01_Of.f k a2_0).bind fun bt473 => ((cobwebref01_Of.f k a2_1).bind fun bt477 => ((cobwebref01_Mul.f k bt473.1 bt473.2 bt477.1 bt477.2).bind fun bt481 => ((cobweblaw01_same.f k bt471.1 bt471.2 true bt481.1 bt481.2).bind fun t485 => (some t485)))))) else (none)))) = some r := H
  have A8 := Aside0.mk A80
  clear A80
  replace H := Option.bind_eq_some_iff.mp H
  obtain ⟨⟨t466, t467⟩, A90, H⟩ := H
  replace H : ((cobweblaw01_same.f k t453 t454 t455 t466 t467).bind fun t470 => (if t470 = true then ((wide_Times.f k a2_0 a2_1).bind fun bt471 => ((cobwebref01_Of.f k a2_0).bind fun bt473 => ((cobwebref01_Of.f k a2_1).bind fun bt477 => ((cobwebref01_Mul.f k bt473.1 bt473.2 bt477.1 bt477.2).bind fun bt481 => ((cobweblaw01_same.f k bt471.1 bt471.2 true bt481.1 bt481.2).bind fun t485 => (some t485)))))) else (none))) = some r := H
  have A9 := Aside0.mk A90
  clear A90
  replace H := Option.bind_eq_some_iff.mp H
  obtain ⟨t470, A100, H⟩ := H
  replace H : (if t470 = true then ((wide_Times.f k a2_0 a2_1).bind fun bt471 => ((cobwebref01_Of.f k a2_0).bind fun bt473 => ((cobwebref01_Of.f k a2_1).bind fun bt477 => ((cobwebref01_Mul.f k bt473.1 bt473.2 bt477.1 bt477.2).bind fun bt481 => ((cobweblaw01_same.f k bt471.1 bt471.2 true bt481.1 bt481.2).bind fun t485 => (some t485)))))) else (none)) = some r := H
  have A10 := Aside0.mk A100
  clear A100
  by_cases c11 : t470 = true
  rotate_left
  · replace c11 := Bool.eq_false_iff.mpr c11
    subst c11
    have H1 : (none) = some r := by rw [if_neg (show ¬ (false = true) by decide)] at H; exact H
    clear H; have H := H1; clear H1
    exact absurd H (by simp)
  subst c11
  have H1 : ((wide_Times.f k a2_0 a2_1).bind fun bt471 => ((cobwebref01_Of.f k a2_0).bind fun bt473 => ((cobwebref01_Of.f k a2_1).bind fun bt477 => ((cobwebref01_Mul.f k bt473.1 bt473.2 bt477.1 bt477.2).bind fun bt481 => ((cobweblaw01_same.f k bt471.1 bt471.2 true bt481.1 bt481.2).bind fun t485 => (some t485)))))) = some r := by rw [if_pos rfl] at H; exact H
  clear H; have H := H1; clear H1
  replace H := Option.bind_eq_some_iff.mp H
  obtain ⟨⟨t471, t472⟩, A120, H⟩ := H
  replace H : ((cobwebref01_Of.f k a2_0).bind fun bt473 => ((cobwebref01_Of.f k a2_1).bind fun bt477 => ((cobwebref01_Mul.f k bt473.1 bt473.2 bt477.1 bt477.2).bind fun bt481 => ((cobweblaw01_same.f k t471 t472 true bt481.1 bt481.2).bind fun t485 => (some t485))))) = some r := H
  have A12 := Aside0.mk A120
  clear A120
  replace H := Option.bind_eq_some_iff.mp H
  obtain ⟨⟨t473, t474⟩, A130, H⟩ := H
  replace H : ((cobwebref01_Of.f k a2_1).bind fun bt477 => ((cobwebref01_Mul.f k t473 t474 bt477.1 bt477.2).bind fun bt481 => ((cobweblaw01_same.f k t471 t472 true bt481.1 bt481.2).bind fun t485 => (some t485)))) = some r := H
  have A13 := Aside0.mk A130
  clear A130
  replace H := Option.bind_eq_some_iff.mp H
  obtain ⟨⟨t477, t478⟩, A140, H⟩ := H
  replace H : ((cobwebref01_Mul.f k t473 t474 t477 t478).bind fun bt481 => ((cobweblaw01_same.f k t471 t472 true bt481.1 bt481.2).bind fun t485 => (some t485))) = some r := H
  have A14 := Aside0.mk A140
  clear A140
  replace H := Option.bind_eq_some_iff.mp H
  obtain ⟨⟨t481, t482⟩, A150, H⟩ := H
  replace H : ((cobweblaw01_same.f k t471 t472 true t481 t482).bind fun t485 => (some t485)) = some r := H
  have A15 := Aside0.mk A150
  clear A150
  replace H := Option.bind_eq_some_iff.mp H
  obtain ⟨t485, A160, H⟩ := H
  replace H : (some t485) = some r := H
  have A16 := Aside0.mk A160
  clear A160
  obtain rfl := Option.some.inj H
  go_enter Try.func3, Try.ntmps3
  try go_wp2_with (first | ((with_reducible refine gate_dst (N := 3) rfl ?_); refine box_event ?hg (N := 3) ?hd (cs := #[.int .i64 a0_0, .int .u64 a0_1]) (t := 24) ?hr ?_; (case hd => rfl); (case hg => rfl); (case hr => first | (go_simp; done) | (go_simp; rfl)); intro gb450 hg w17 hbox hb; have BK450 := Aside0.mk (hbox); have GW450 := kS HB hg; have GE450 := kS HB hg; replace HB := kB HB hb; clear hb hbox hg) | ((with_reducible refine gate_dst (N := 4) rfl ?_); refine box_event ?hg (N := 4) ?hd (cs := #[.int .i64 a1_0, .int .u64 a1_1]) (t := 24) ?hr ?_; (case hd => rfl); (case hg => rfl); (case hr => first | (go_simp; done) | (go_simp; rfl)); intro gb451 hg w18 hbox hb; have BK451 := Aside0.mk (hbox); have GW451 := kS HB hg; have GE451 := kS HB hg; have NB450_451 := kN BK450 hg; have NB451_450 := kM BK450 hg; replace BK450 := kb BK450 hb; replace HB := kB HB hb; clear hb hbox hg) | ((with_reducible refine gate_dst (N := 5) rfl ?_); refine box_event ?hg (N := 5) ?hd (cs := #[.int .i64 a2_0, .int .i64 a2_1]) (t := 25) ?hr ?_; (case hd => rfl); (case hg => rfl); (case hr => first | (go_simp; done) | (go_simp; rfl)); intro gb452 hg w19 hbox hb; have BK452 := Aside0.mk (hbox); have GW452 := kS HB hg; have GE452 := kS HB hg; have NB450_452 := kN BK450 hg; have NB452_450 := kM BK450 hg; have NB451_452 := kN BK451 hg; have NB452_451 := kM BK451 hg; replace BK450 := kb BK450 hb; replace BK451 := kb BK451 hb; replace HB := kB HB hb; clear hb hbox hg; have hnb20 := NB450_451.out; have hnc20 := NB451_450.out; have hnb21 := NB450_452.out; have hnc21 := NB452_450.out; have hcz22_0 : w19.cell? ⟨gb450, 0, none⟩ = some (.int .i64 a0_0) := kc BK450 0; have hcz22_1 : w19.cell? ⟨gb450, 1, none⟩ = some (.int .u64 a0_1) := kc BK450 1; have hfz22_0 := blk_frozen BK450.out 0; have hfz22_1 := blk_frozen BK450.out 1; have hnb23 := NB451_452.out; have hnc23 := NB452_451.out; have hcz24_0 : w19.cell? ⟨gb451, 0, none⟩ = some (.int .i64 a1_0) := kc BK451 0; have hcz24_1 : w19.cell? ⟨gb451, 1, none⟩ = some (.int .u64 a1_1) := kc BK451 1; have hfz24_0 := blk_frozen BK451.out 0; have hfz24_1 := blk_frozen BK451.out 1) | ((with_reducible refine gate_callee (f := 15) rfl ?_); refine goesL_ (some 12) rfl rfl Try.func15 (by kernel_rfl) rfl #[.agg #[.int .i64 a0_0, .int .u64 a0_1], .agg #[.int .i64 a1_0, .int .u64 a1_1]] rfl (by (try simp only [List.map_toArray, List.map_cons, List.map_nil]); first | done | rfl | (simp only [List.length_drop, List.length_take]; rfl)) ?_; (with_reducible refine (wide_Mul.calls k a0_0 a0_1 a1_0 a1_1 t453 t454 t455 _ A4.out).mono ?_); rintro e w25 ⟨rfl, hb⟩; refine ⟨_, rfl, ?_⟩; replace BK450 := kb BK450 hb; replace BK451 := kb BK451 hb; replace BK452 := kb BK452 hb; replace HB := kB HB hb; (try clear hb); (try clear hb2); (try clear hk); (try clear hi)) | ((with_reducible refine gate_dst (N := 7) rfl ?_); refine box_event ?hg (N := 7) ?hd (cs := #[.int .i64 0, .int .u64 0]) (t := 24) ?hr ?_; (case hd => rfl); (case hg => rfl); (case hr => first | (go_simp; done) | (go_simp; rfl)); intro gb456 hg w26 hbox hb; have BK456 := Aside0.mk (hbox); have GW456 := kS HB hg; have GE456 := kS HB hg; have NB450_456 := kN BK450 hg; have NB456_450 := kM BK450 hg; have NB451_456 := kN BK451 hg; have NB456_451 := kM BK451 hg; have NB452_456 := kN BK452 hg; have NB456_452 := kM BK452 hg; replace BK450 := kb BK450 hb; replace BK451 := kb BK451 hb; replace BK452 := kb BK452 hb; replace HB := kB HB hb; clear hb hbox hg; have hnb27 := NB456_450.out; have hnc27 := NB450_456.out; have hnb28 := NB456_451.out; have hnc28 := NB451_456.out; have hnb29 := NB456_452.out; have hnc29 := NB452_456.out; have hcz30_0 : w26.cell? ⟨gb456, 0, none⟩ = some (.int .i64 0) := kc BK456 0; have hcz30_1 : w26.cell? ⟨gb456, 1, none⟩ = some (.int .u64 0) := kc BK456 1; have hfz30_0 := blk_frozen BK456.out 0; have hfz30_1 := blk_frozen BK456.out 1))
  have n0_ : Aside0 (((w26.setCell ⟨gb456, 0, none⟩ (.int .i64 t453)).setCell ⟨gb456, 1, none⟩ (.int .u64 t454)).heap[gb450]? = some (.cells #[.int .i64 a0_0, .int .u64 a0_1] 24 (0, 0))) := ⟨kx BK450⟩
  have n1_ : Aside0 (((w26.setCell ⟨gb456, 0, none⟩ (.int .i64 t453)).setCell ⟨gb456, 1, none⟩ (.int .u64 t454)).heap[gb451]? = some (.cells #[.int .i64 a1_0, .int .u64 a1_1] 24 (0, 0))) := ⟨kx BK451⟩
  have n2_ : Aside0 (((w26.setCell ⟨gb456, 0, none⟩ (.int .i64 t453)).setCell ⟨gb456, 1, none⟩ (.int .u64 t454)).heap[gb452]? = some (.cells #[.int .i64 a2_0, .int .i64 a2_1] 25 (0, 0))) := ⟨kx BK452⟩
  have n3_ : Aside0 (((w26.setCell ⟨gb456, 0, none⟩ (.int .i64 t453)).setCell ⟨gb456, 1, none⟩ (.int .u64 t454)).heap[gb456]? = some (.cells #[.int .i64 t453, .int .u64 t454] 24 (0, 0))) := ⟨by (with_reducible repeat (first | refine blk_drewN ?_ _ | refine blk_drew ?_ | refine blk_alloc ?_ _)); refine blk_put (cs := #[.int .i64 t453, .int .u64 0]) ?_ 1 _ rfl; (with_reducible repeat (first | refine blk_drewN ?_ _ | refine blk_drew ?_ | refine blk_alloc ?_ _)); refine blk_put (cs := #[.int .i64 0, .int .u64 0]) ?_ 0 _ rfl; (with_reducible repeat (first | refine blk_drewN ?_ _ | refine blk_drew ?_ | refine blk_alloc ?_ _)); exact BK456.out⟩
  have n4_ : Aside0 (Below w.heap.size w ((w26.setCell ⟨gb456, 0, none⟩ (.int .i64 t453)).setCell ⟨gb456, 1, none⟩ (.int .u64 t454))) := ⟨ky HB⟩
  (try clear BK450)
  (try clear BK451)
  (try clear BK452)
  (try clear BK456)
  (try clear HB)
  generalize ((w26.setCell ⟨gb456, 0, none⟩ (.int .i64 t453)).setCell ⟨gb456, 1, none⟩ (.int .u64 t454)) = w31 at n0_ n1_ n2_ n3_ n4_ ⊢
  have BK450 := n0_; have BK451 := n1_; have BK452 := n2_; have BK456 := n3_; have HB := n4_
  clear n0_ n1_ n2_ n3_ n4_
  replace BK450 := Aside0.mk (blk_drew BK450.out)
  replace BK451 := Aside0.mk (blk_drew BK451.out)
  replace BK452 := Aside0.mk (blk_drew BK452.out)
  replace BK456 := Aside0.mk (blk_drew BK456.out)
  replace HB := Aside0.mk (below_drew1 HB.out)
  refine start_ (n := 27) (S := fun w' => w'.cell? ⟨gb456, 0, none⟩ = some (.int .i64 t453) ∧ w'.cell? ⟨gb456, 1, none⟩ = some (.int .u64 t454) ∧ w'.cell? ⟨gb450, 0, none⟩ = some (.int .i64 a0_0) ∧ w'.cell? ⟨gb450, 1, none⟩ = some (.int .u64 a0_1) ∧ w'.cell? ⟨gb451, 0, none⟩ = some (.int .i64 a1_0) ∧ w'.cell? ⟨gb451, 1, none⟩ = some (.int .u64 a1_1) ∧ w'.cell? ⟨gb452, 0, none⟩ = some (.int .i64 a2_0) ∧ w'.cell? ⟨gb452, 1, none⟩ = some (.int .i64 a2_1)) (ds := []) #[O, O, O, O, O, O, O, O, O, O, O, O, O, O, O, O, O, O, O, O, O, O, O, O, O, O, O] (by kernel_rfl) rfl rfl ⟨kc BK456 0, kc BK456 1, kc BK450 0, kc BK450 1, kc BK451 0, kc BK451 1, kc BK452 0, kc BK452 1⟩ (fun hHeld => ?_); refine with_tabW cobweblaw01_WideMuls.tab2 cobweblaw01_WideMuls.bits2 (fun HT_ HW_ => ?_)
  generalize w31.drew = w32 at BK450 BK451 BK452 BK456 HB hHeld ⊢
  refine one_ (i := 0) (N := some 15) #[T, O, O, O, O, O, O, O, O, O, O, O, O, O, O, O, O, O, O, O, O, O, O, O, O, O, O] rfl rfl (one_of HT_.out (by kernel_rfl)) (by decide) (fun K hK => ?_)
  refine goes_ Try.func16 (by kernel_rfl) rfl #[] (by rfl) rfl rfl (by (try simp only [List.map_toArray, List.map_cons, List.map_nil]); first | done | rfl | (simp only [List.length_drop, List.length_take]; rfl)) ?_
  with_reducible refine (cobweblaw01_alive.calls k  true _ A5.out).mono ?_
  rintro e w33 ⟨rfl, hb⟩
  refine ⟨_, rfl, ?_⟩
  replace BK450 := kb BK450 hb
  replace BK451 := kb BK451 hb
  replace BK452 := kb BK452 hb
  replace BK456 := kb BK456 hb
  replace HB := kB HB hb
  (try clear hb)
  (try clear hb2)
  (try clear hk)
  (try clear hi)
  refine hK.out _ _ ⟨kc BK456 0, kc BK456 1, kc BK450 0, kc BK450 1, kc BK451 0, kc BK451 1, kc BK452 0, kc BK452 1⟩ (fun hHeld => ?_)
  clear hK K
  refine norm_ (a' := ?_) ?_ ?_
  rotate_left
  · show Act.put _ (some 15) _ = _
    simp only [Act.put, List.setIfInBounds_toArray, List.set_cons_zero, List.set_cons_succ, i64_w, i32_w]
    rfl
  refine pure_ (i := 1) (N := some 16) (v := ?_) (a' := ?_) #[T, T, O, O, O, O, O, O, O, O, O, O, O, O, O, O, O, O, O, O, O, O, O, O, O, O, O] rfl rfl (any_of HT_.out (by kernel_rfl)) (fun _ _ _ h => h) (Or.inl ⟨by rfl, ?_⟩) ?_ ?_; rotate_left; focus (intro w'; go_simp; with_reducible rfl)
  rotate_left; focus (simp only [Act.put, List.setIfInBounds_toArray, List.set_cons_zero, List.set_cons_succ, i64_w, i32_w]; rfl)
  refine pure_ (i := 3) (N := some 18) (v := ?_) (a' := ?_) #[T, T, O, T, O, O, O, O, O, O, O, O, O, O, O, O, O, O, O, O, O, O, O, O, O, O, O] rfl rfl (any_of HT_.out (by kernel_rfl)) (fun _ _ _ h => h) (Or.inl ⟨by rfl, ?_⟩) ?_ ?_; rotate_left; focus (intro w'; go_simp; with_reducible rfl)
  rotate_left; focus (simp only [Act.put, List.setIfInBounds_toArray, List.set_cons_zero, List.set_cons_succ, i64_w, i32_w]; rfl)
  refine take_ (i := 2) (N := some 17) (v := ?_) (a' := ?_) #[T, T, T, T, O, O, O, O, O, O, O, O, O, O, O, O, O, O, O, O, O, O, O, O, O, O, O] rfl rfl (take_ofW HT_.out HW_.out (by kernel_rfl)) (fun _ _ _ h => h) (Or.inl ⟨by rfl, ?_⟩) hHeld ?_ ?_; rotate_left; focus (rintro w' ⟨s0, s1, s2, s3, s4, s5, s6, s7⟩; go_simp; with_reducible rfl)
  rotate_left; focus (simp only [Act.put, List.setIfInBounds_toArray, List.set_cons_zero, List.set_cons_succ, i64_w, i32_w]; rfl)
  refine take_ (i := 4) (N := some 19) (v := ?_) (a' := ?_) #[T, T, T, T, T, O, O, O, O, O, O, O, O, O, O, O, O, O, O, O, O, O, O, O, O, O, O] rfl rfl (take_ofW HT_.out HW_.out (by kernel_rfl)) (fun _ _ _ h => h) (Or.inl ⟨by rfl, ?_⟩) hHeld ?_ ?_; rotate_left; focus (rintro w' ⟨s0, s1, s2, s3, s4, s5, s6, s7⟩; go_simp; with_reducible rfl)
  rotate_left; focus (simp only [Act.put, List.setIfInBounds_toArray, List.set_cons_zero, List.set_cons_succ, i64_w, i32_w]; rfl)
  refine take_ (i := 6) (N := some 21) (v := ?_) (a' := ?_) #[T, T, T, T, T, O, T, O, O, O, O, O, O, O, O, O, O, O, O, O, O, O, O, O, O, O, O] rfl rfl (take_ofW HT_.out HW_.out (by kernel_rfl)) (fun _ _ _ h => h) (Or.inl ⟨by rfl, ?_⟩) hHeld ?_ ?_; rotate_left; focus (rintro w' ⟨s0, s1, s2, s3, s4, s5, s6, s7⟩; go_simp; with_reducible rfl)
  rotate_left; focus (simp only [Act.put, List.setIfInBounds_toArray, List.set_cons_zero, List.set_cons_succ, i64_w, i32_w]; rfl)
  refine one_ (i := 5) (N := some 20) #[T, T, T, T, T, T, T, O, O, O, O, O, O, O, O, O, O, O, O, O, O, O, O, O, O, O, O] rfl rfl (one_of HT_.out (by kernel_rfl)) (by decide) (fun K hK => ?_)
  refine goes_ Try.func19 (by kernel_rfl) rfl #[.agg #[.int .i64 a0_0, .int .u64 a0_1]] (by rfl) rfl rfl (by (try simp only [List.map_toArray, List.map_cons, List.map_nil]); first | done | rfl | (simp only [List.length_drop, List.length_take]; rfl)) ?_
  with_reducible refine (cobweblaw01_num.calls k a0_0 a0_1 t458 t459 _ A7.out).mono ?_
  rintro e w34 ⟨v460, rfl, ho0, hb⟩
  refine ⟨_, rfl, ?_⟩
  have HO461 := Aside0.mk (Kd.V_lower (Kd.V_mono (ok' := fun k_ => k_ ≠ gb450 ∧ k_ ≠ gb451 ∧ k_ ≠ gb452 ∧ k_ ≠ gb456) ho0 (fun k_ hk_ => ⟨(Kd.freshB (g := gb450) (o := .cells #[.int .i64 a0_0, .int .u64 a0_1] 24 (0, 0)) (kx BK450) k_ hk_), (Kd.freshB (g := gb451) (o := .cells #[.int .i64 a1_0, .int .u64 a1_1] 24 (0, 0)) (kx BK451) k_ hk_), (Kd.freshB (g := gb452) (o := .cells #[.int .i64 a2_0, .int .i64 a2_1] 25 (0, 0)) (kx BK452) k_ hk_), (Kd.freshB (g := gb456) (o := .cells #[.int .i64 t453, .int .u64 t454] 24 (0, 0)) (kx BK456) k_ hk_)⟩)) (below_size (ky HB)))
  replace BK450 := kb BK450 hb
  replace BK451 := kb BK451 hb
  replace BK452 := kb BK452 hb
  replace BK456 := kb BK456 hb
  replace HB := kB HB hb
  (try clear hb)
  (try clear hb2)
  (try clear hk)
  (try clear hi)
  (try clear ho0)
  refine hK.out _ _ ⟨kc BK456 0, kc BK456 1, kc BK450 0, kc BK450 1, kc BK451 0, kc BK451 1, kc BK452 0, kc BK452 1⟩ (fun hHeld => ?_)
  clear hK K
  refine norm_ (a' := ?_) ?_ ?_
  rotate_left
  · show Act.put _ (some 20) _ = _
    simp only [Act.put, List.setIfInBounds_toArray, List.set_cons_zero, List.set_cons_succ, i64_w, i32_w]
    rfl
  refine one_ (i := 7) (N := some 22) #[T, T, T, T, T, T, T, T, O, O, O, O, O, O, O, O, O, O, O, O, O, O, O, O, O, O, O] rfl rfl (one_of HT_.out (by kernel_rfl)) (by decide) (fun K hK => ?_)
  refine goes_ Try.func19 (by kernel_rfl) rfl #[.agg #[.int .i64 a1_0, .int .u64 a1_1]] (by rfl) rfl rfl (by (try simp only [List.map_toArray, List.map_cons, List.map_nil]); first | done | rfl | (simp only [List.length_drop, List.length_take]; rfl)) ?_
  with_reducible refine (cobweblaw01_num.calls k a1_0 a1_1 t462 t463 _ A8.out).mono ?_
  rintro e w35 ⟨v464, rfl, ho0, hb⟩
  refine ⟨_, rfl, ?_⟩
  have HO465 := Aside0.mk (Kd.V_lower (Kd.V_mono (ok' := fun k_ => k_ ≠ gb450 ∧ k_ ≠ gb451 ∧ k_ ≠ gb452 ∧ k_ ≠ gb456) ho0 (fun k_ hk_ => ⟨(Kd.freshB (g := gb450) (o := .cells #[.int .i64 a0_0, .int .u64 a0_1] 24 (0, 0)) (kx BK450) k_ hk_), (Kd.freshB (g := gb451) (o := .cells #[.int .i64 a1_0, .int .u64 a1_1] 24 (0, 0)) (kx BK451) k_ hk_), (Kd.freshB (g := gb452) (o := .cells #[.int .i64 a2_0, .int .i64 a2_1] 25 (0, 0)) (kx BK452) k_ hk_), (Kd.freshB (g := gb456) (o := .cells #[.int .i64 t453, .int .u64 t454] 24 (0, 0)) (kx BK456) k_ hk_)⟩)) (below_size (ky HB)))
  replace HO461 := kV HO461 hb
  replace BK450 := kb BK450 hb
  replace BK451 := kb BK451 hb
  replace BK452 := kb BK452 hb
  replace BK456 := kb BK456 hb
  replace HB := kB HB hb
  (try clear hb)
  (try clear hb2)
  (try clear hk)
  (try clear hi)
  (try clear ho0)
  obtain ⟨Ao36, co36, eo36⟩ := Kd.V_slice HO461.out
  (first | subst eo36 | (injection eo36 with f1_ f2_ f3_; have f4_ := f1_.symm; have f5_ := f3_.symm; clear f1_ f2_ f3_; subst f4_; subst f5_))
  obtain ⟨Ao37, co37, eo37⟩ := Kd.V_slice HO465.out
  (first | subst eo37 | (injection eo37 with f1_ f2_ f3_; have f4_ := f1_.symm; have f5_ := f3_.symm; clear f1_ f2_ f3_; subst f4_; subst f5_))
  refine hK.out _ _ ⟨kc BK456 0, kc BK456 1, kc BK450 0, kc BK450 1, kc BK451 0, kc BK451 1, kc BK452 0, kc BK452 1⟩ (fun hHeld => ?_)
  clear hK K
  refine norm_ (a' := ?_) ?_ ?_
  rotate_left
  · show Act.put _ (some 22) _ = _
    simp only [Act.put, List.setIfInBounds_toArray, List.set_cons_zero, List.set_cons_succ, i64_w, i32_w]
    rfl
  refine one_ (i := 8) (N := some 23) #[T, T, T, T, T, T, T, T, T, O, O, O, O, O, O, O, O, O, O, O, O, O, O, O, O, O, O] rfl rfl (one_of HT_.out (by kernel_rfl)) (by decide) (fun K hK => ?_)
  refine goes_ Try.func18 (by kernel_rfl) rfl #[.agg #[.bool t458, .slice Ao36 t459.length co36], .agg #[.bool t462, .slice Ao37 t463.length co37]] (by rfl) rfl rfl (by (try simp only [List.map_toArray, List.map_cons, List.map_nil]); first | done | rfl | (simp only [List.length_drop, List.length_take]; rfl)) ?_
  with_reducible refine (cobwebref01_Mul.calls k t458 _ _ t459 t462 _ _ t463 t466 t467 _ ?side1 ?side2 ?side3 ?side4 A9.out).mono ?_
  (case side1 => repeat (first | exact (Kd.V_reads' HO461.out).2.2 | (with_reducible refine Kd.C_alloc ?_ _) | (with_reducible refine Kd.C_drewN ?_ _) | (with_reducible refine Kd.C_drew ?_)))
  (case side2 => exact (Kd.V_reads' HO461.out).2.1)
  (case side3 => repeat (first | exact (Kd.V_reads' HO465.out).2.2 | (with_reducible refine Kd.C_alloc ?_ _) | (with_reducible refine Kd.C_drewN ?_ _) | (with_reducible refine Kd.C_drew ?_)))
  (case side4 => exact (Kd.V_reads' HO465.out).2.1)
  rintro e w38 ⟨v468, rfl, ho0, hb⟩
  refine ⟨_, rfl, ?_⟩
  have HO469 := Aside0.mk (Kd.V_lower (Kd.V_mono (ok' := fun k_ => k_ ≠ gb450 ∧ k_ ≠ gb451 ∧ k_ ≠ gb452 ∧ k_ ≠ gb456) ho0 (fun k_ hk_ => ⟨(Kd.freshB (g := gb450) (o := .cells #[.int .i64 a0_0, .int .u64 a0_1] 24 (0, 0)) (kx BK450) k_ hk_), (Kd.freshB (g := gb451) (o := .cells #[.int .i64 a1_0, .int .u64 a1_1] 24 (0, 0)) (kx BK451) k_ hk_), (Kd.freshB (g := gb452) (o := .cells #[.int .i64 a2_0, .int .i64 a2_1] 25 (0, 0)) (kx BK452) k_ hk_), (Kd.freshB (g := gb456) (o := .cells #[.int .i64 t453, .int .u64 t454] 24 (0, 0)) (kx BK456) k_ hk_)⟩)) (below_size (ky HB)))
  replace HO461 := kV HO461 hb
  replace HO465 := kV HO465 hb
  replace BK450 := kb BK450 hb
  replace BK451 := kb BK451 hb
  replace BK452 := kb BK452 hb
  replace BK456 := kb BK456 hb
  replace HB := kB HB hb
  (try clear hb)
  (try clear hb2)
  (try clear hk)
  (try clear hi)
  (try clear ho0)
  obtain ⟨Ao39, co39, eo39⟩ := Kd.V_slice HO469.out
  (first | subst eo39 | (injection eo39 with f1_ f2_ f3_; have f4_ := f1_.symm; have f5_ := f3_.symm; clear f1_ f2_ f3_; subst f4_; subst f5_))
  refine hK.out _ _ ⟨kc BK456 0, kc BK456 1, kc BK450 0, kc BK450 1, kc BK451 0, kc BK451 1, kc BK452 0, kc BK452 1⟩ (fun hHeld => ?_)
  clear hK K
  refine norm_ (a' := ?_) ?_ ?_
  rotate_left
  · show Act.put _ (some 23) _ = _
    simp only [Act.put, List.setIfInBounds_toArray, List.set_cons_zero, List.set_cons_succ, i64_w, i32_w]
    rfl
  refine one_ (i := 9) (N := some 24) #[T, T, T, T, T, T, T, T, T, T, O, O, O, O, O, O, O, O, O, O, O, O, O, O, O, O, O] rfl rfl (one_of HT_.out (by kernel_rfl)) (by decide) (fun K hK => ?_)
  refine goes_ Try.func17 (by kernel_rfl) rfl #[.agg #[.int .i64 t453, .int .u64 t454], .bool t455, .agg #[.bool t466, .slice Ao39 t467.length co39]] (by rfl) rfl rfl (by (try simp only [List.map_toArray, List.map_cons, List.map_nil]); first | done | rfl | (simp only [List.length_drop, List.length_take]; rfl)) ?_
  with_reducible refine (cobweblaw01_same.calls k t453 t454 t455 t466 _ _ t467 true _ ?side1 ?side2 A10.out).mono ?_
  (case side1 => repeat (first | exact (Kd.V_reads' HO469.out).2.2 | (with_reducible refine Kd.C_alloc ?_ _) | (with_reducible refine Kd.C_drewN ?_ _) | (with_reducible refine Kd.C_drew ?_)))
  (case side2 => exact (Kd.V_reads' HO469.out).2.1)
  rintro e w40 ⟨rfl, hb⟩
  refine ⟨_, rfl, ?_⟩
  replace HO461 := kV HO461 hb
  replace HO465 := kV HO465 hb
  replace HO469 := kV HO469 hb
  replace BK450 := kb BK450 hb
  replace BK451 := kb BK451 hb
  replace BK452 := kb BK452 hb
  replace BK456 := kb BK456 hb
  replace HB := kB HB hb
  (try clear hb)
  (try clear hb2)
  (try clear hk)
  (try clear hi)
  refine hK.out _ _ ⟨kc BK456 0, kc BK456 1, kc BK450 0, kc BK450 1, kc BK451 0, kc BK451 1, kc BK452 0, kc BK452 1⟩ (fun hHeld => ?_)
  clear hK K
  refine norm_ (a' := ?_) ?_ ?_
  rotate_left
  · show Act.put _ (some 24) _ = _
    simp only [Act.put, List.setIfInBounds_toArray, List.set_cons_zero, List.set_cons_succ, i64_w, i32_w]
    rfl
  refine pure_ (i := 10) (N := some 25) (v := ?_) (a' := ?_) #[T, T, T, T, T, T, T, T, T, T, T, O, O, O, O, O, O, O, O, O, O, O, O, O, O, O, O] rfl rfl (any_of HT_.out (by kernel_rfl)) (fun _ _ _ h => h) (Or.inl ⟨by rfl, ?_⟩) ?_ ?_; rotate_left; focus (intro w'; go_simp; with_reducible rfl)
  rotate_left; focus (simp only [Act.put, List.setIfInBounds_toArray, List.set_cons_zero, List.set_cons_succ, i64_w, i32_w]; rfl)
  refine pure_ (i := 11) (N := some 26) (v := ?_) (a' := ?_) #[T, T, T, T, T, T, T, T, T, T, T, T, O, O, O, O, O, O, O, O, O, O, O, O, O, O, O] rfl rfl (any_of HT_.out (by kernel_rfl)) (fun _ _ _ h => h) (Or.inl ⟨by rfl, ?_⟩) ?_ ?_; rotate_left; focus (intro w'; go_simp; with_reducible rfl)
  rotate_left; focus (simp only [Act.put, List.setIfInBounds_toArray, List.set_cons_zero, List.set_cons_succ, i64_w, i32_w]; rfl)
  refine pure_ (i := 12) (N := some 27) (v := ?_) (a' := ?_) #[T, T, T, T, T, T, T, T, T, T, T, T, T, O, O, O, O, O, O, O, O, O, O, O, O, O, O] rfl rfl (any_of HT_.out (by kernel_rfl)) (fun _ _ _ h => h) (Or.inl ⟨by rfl, ?_⟩) ?_ ?_; rotate_left; focus (intro w'; go_simp; with_reducible rfl)
  rotate_left; focus (simp only [Act.put, List.setIfInBounds_toArray, List.set_cons_zero, List.set_cons_succ, i64_w, i32_w]; rfl)
  refine pure_ (i := 14) (N := some 29) (v := ?_) (a' := ?_) #[T, T, T, T, T, T, T, T, T, T, T, T, T, O, T, O, O, O, O, O, O, O, O, O, O, O, O] rfl rfl (any_of HT_.out (by kernel_rfl)) (fun _ _ _ h => h) (Or.inl ⟨by rfl, ?_⟩) ?_ ?_; rotate_left; focus (intro w'; go_simp; with_reducible rfl)
  rotate_left; focus (simp only [Act.put, List.setIfInBounds_toArray, List.set_cons_zero, List.set_cons_succ, i64_w, i32_w]; rfl)
  refine pure_ (i := 17) (N := some 32) (v := ?_) (a' := ?_) #[T, T, T, T, T, T, T, T, T, T, T, T, T, O, T, O, O, T, O, O, O, O, O, O, O, O, O] rfl rfl (any_of HT_.out (by kernel_rfl)) (fun _ _ _ h => h) (Or.inl ⟨by rfl, ?_⟩) ?_ ?_; rotate_left; focus (intro w'; go_simp; with_reducible rfl)
  rotate_left; focus (simp only [Act.put, List.setIfInBounds_toArray, List.set_cons_zero, List.set_cons_succ, i64_w, i32_w]; rfl)
  refine pure_ (i := 20) (N := some 35) (v := ?_) (a' := ?_) #[T, T, T, T, T, T, T, T, T, T, T, T, T, O, T, O, O, T, O, O, T, O, O, O, O, O, O] rfl rfl (any_of HT_.out (by kernel_rfl)) (fun _ _ _ h => h) (Or.inl ⟨by rfl, ?_⟩) ?_ ?_; rotate_left; focus (intro w'; go_simp; with_reducible rfl)
  rotate_left; focus (simp only [Act.put, List.setIfInBounds_toArray, List.set_cons_zero, List.set_cons_succ, i64_w, i32_w]; rfl)
  refine take_ (i := 13) (N := some 28) (v := ?_) (a' := ?_) #[T, T, T, T, T, T, T, T, T, T, T, T, T, T, T, O, O, T, O, O, T, O, O, O, O, O, O] rfl rfl (take_ofW HT_.out HW_.out (by kernel_rfl)) (fun _ _ _ h => h) (Or.inl ⟨by rfl, ?_⟩) hHeld ?_ ?_; rotate_left; focus (rintro w' ⟨s0, s1, s2, s3, s4, s5, s6, s7⟩; go_simp; with_reducible rfl)
  rotate_left; focus (simp only [Act.put, List.setIfInBounds_toArray, List.set_cons_zero, List.set_cons_succ, i64_w, i32_w]; rfl)
  refine take_ (i := 15) (N := some 30) (v := ?_) (a' := ?_) #[T, T, T, T, T, T, T, T, T, T, T, T, T, T, T, T, O, T, O, O, T, O, O, O, O, O, O] rfl rfl (take_ofW HT_.out HW_.out (by kernel_rfl)) (fun _ _ _ h => h) (Or.inl ⟨by rfl, ?_⟩) hHeld ?_ ?_; rotate_left; focus (rintro w' ⟨s0, s1, s2, s3, s4, s5, s6, s7⟩; go_simp; with_reducible rfl)
  rotate_left; focus (simp only [Act.put, List.setIfInBounds_toArray, List.set_cons_zero, List.set_cons_succ, i64_w, i32_w]; rfl)
  refine take_ (i := 18) (N := some 33) (v := ?_) (a' := ?_) #[T, T, T, T, T, T, T, T, T, T, T, T, T, T, T, T, O, T, T, O, T, O, O, O, O, O, O] rfl rfl (take_ofW HT_.out HW_.out (by kernel_rfl)) (fun _ _ _ h => h) (Or.inl ⟨by rfl, ?_⟩) hHeld ?_ ?_; rotate_left; focus (rintro w' ⟨s0, s1, s2, s3, s4, s5, s6, s7⟩; go_simp; with_reducible rfl)
  rotate_left; focus (simp only [Act.put, List.setIfInBounds_toArray, List.set_cons_zero, List.set_cons_succ, i64_w, i32_w]; rfl)
  refine take_ (i := 21) (N := some 36) (v := ?_) (a' := ?_) #[T, T, T, T, T, T, T, T, T, T, T, T, T, T, T, T, O, T, T, O, T, T, O, O, O, O, O] rfl rfl (take_ofW HT_.out HW_.out (by kernel_rfl)) (fun _ _ _ h => h) (Or.inl ⟨by rfl, ?_⟩) hHeld ?_ ?_; rotate_left; focus (rintro w' ⟨s0, s1, s2, s3, s4, s5, s6, s7⟩; go_simp; with_reducible rfl)
  rotate_left; focus (simp only [Act.put, List.setIfInBounds_toArray, List.set_cons_zero, List.set_cons_succ, i64_w, i32_w]; rfl)
  refine one_ (i := 16) (N := some 31) #[T, T, T, T, T, T, T, T, T, T, T, T, T, T, T, T, T, T, T, O, T, T, O, O, O, O, O] rfl rfl (one_of HT_.out (by kernel_rfl)) (by decide) (fun K hK => ?_)
  refine goes_ Try.func20 (by kernel_rfl) rfl #[.int .i64 a2_0, .int .i64 a2_1] (by rfl) rfl rfl (by (try simp only [List.map_toArray, List.map_cons, List.map_nil]); first | done | rfl | (simp only [List.length_drop, List.length_take]; rfl)) ?_
  with_reducible refine (wide_Times.calls k a2_0 a2_1 t471 t472 _ A12.out).mono ?_
  rintro e w41 ⟨rfl, hb⟩
  refine ⟨_, rfl, ?_⟩
  replace HO461 := kV HO461 hb
  replace HO465 := kV HO465 hb
  replace HO469 := kV HO469 hb
  replace BK450 := kb BK450 hb
  replace BK451 := kb BK451 hb
  replace BK452 := kb BK452 hb
  replace BK456 := kb BK456 hb
  replace HB := kB HB hb
  (try clear hb)
  (try clear hb2)
  (try clear hk)
  (try clear hi)
  refine hK.out _ _ ⟨kc BK456 0, kc BK456 1, kc BK450 0, kc BK450 1, kc BK451 0, kc BK451 1, kc BK452 0, kc BK452 1⟩ (fun hHeld => ?_)
  clear hK K
  refine norm_ (a' := ?_) ?_ ?_
  rotate_left
  · show Act.put _ (some 31) _ = _
    simp only [Act.put, List.setIfInBounds_toArray, List.set_cons_zero, List.set_cons_succ, i64_w, i32_w]
    rfl
  refine one_ (i := 19) (N := some 34) #[T, T, T, T, T, T, T, T, T, T, T, T, T, T, T, T, T, T, T, T, T, T, O, O, O, O, O] rfl rfl (one_of HT_.out (by kernel_rfl)) (by decide) (fun K hK => ?_)
  refine goes_ Try.func21 (by kernel_rfl) rfl #[.int .i64 a2_0] (by rfl) rfl rfl (by (try simp only [List.map_toArray, List.map_cons, List.map_nil]); first | done | rfl | (simp only [List.length_drop, List.length_take]; rfl)) ?_
  with_reducible refine (cobwebref01_Of.calls k a2_0 t473 t474 _ A13.out).mono ?_
  rintro e w42 ⟨v475, rfl, ho0, hb⟩
  refine ⟨_, rfl, ?_⟩
  have n0_ := Aside0.mk (Kd.V_elder' (kv HO461) (Kd.R_base ho0) hb)
  have n1_ := Aside0.mk (Kd.V_elder' (kv HO465) (Kd.R_base ho0) hb)
  have n2_ := Aside0.mk (Kd.V_elder' (kv HO469) (Kd.R_base ho0) hb)
  have n3_ := Aside0.mk (Kd.R_lower ho0 (below_size (ky HB)))
  have n4_ := kb BK450 hb
  have n5_ := kb BK451 hb
  have n6_ := kb BK452 hb
  have n7_ := kb BK456 hb
  have n8_ := kB HB hb
  clear HO461; clear HO465; clear HO469; clear BK450; clear BK451; clear BK452; clear BK456; clear HB; have HO461 := n0_; have HO465 := n1_; have HO469 := n2_; have HO476 := n3_; have BK450 := n4_; have BK451 := n5_; have BK452 := n6_; have BK456 := n7_; have HB := n8_
  clear n0_ n1_ n2_ n3_ n4_ n5_ n6_ n7_ n8_
  (try clear hb)
  (try clear hb2)
  (try clear hk)
  (try clear hi)
  (try clear ho0)
  refine hK.out _ _ ⟨kc BK456 0, kc BK456 1, kc BK450 0, kc BK450 1, kc BK451 0, kc BK451 1, kc BK452 0, kc BK452 1⟩ (fun hHeld => ?_)
  clear hK K
  refine norm_ (a' := ?_) ?_ ?_
  rotate_left
  · show Act.put _ (some 34) _ = _
    simp only [Act.put, List.setIfInBounds_toArray, List.set_cons_zero, List.set_cons_succ, i64_w, i32_w]
    rfl
  refine one_ (i := 22) (N := some 37) #[T, T, T, T, T, T, T, T, T, T, T, T, T, T, T, T, T, T, T, T, T, T, T, O, O, O, O] rfl rfl (one_of HT_.out (by kernel_rfl)) (by decide) (fun K hK => ?_)
  refine goes_ Try.func21 (by kernel_rfl) rfl #[.int .i64 a2_1] (by rfl) rfl rfl (by (try simp only [List.map_toArray, List.map_cons, List.map_nil]); first | done | rfl | (simp only [List.length_drop, List.length_take]; rfl)) ?_
  with_reducible refine (cobwebref01_Of.calls k a2_1 t477 t478 _ A14.out).mono ?_
  rintro e w43 ⟨v479, rfl, ho0, hb⟩
  refine ⟨_, rfl, ?_⟩
  have n0_ := Aside0.mk (Kd.V_elder' (kv HO461) (Kd.R_base ho0) hb)
  have n1_ := Aside0.mk (Kd.V_elder' (kv HO465) (Kd.R_base ho0) hb)
  have n2_ := Aside0.mk (Kd.V_elder' (kv HO469) (Kd.R_base ho0) hb)
  have n3_ := Aside0.mk (Kd.R_elder' (kr HO476) (Kd.R_base ho0) hb)
  have n4_ := Aside0.mk (Kd.R_lower (Kd.R_new' ho0 (Kd.R_lt (kr HO476))) (below_size (ky HB)))
  have n5_ := kb BK450 hb
  have n6_ := kb BK451 hb
  have n7_ := kb BK452 hb
  have n8_ := kb BK456 hb
  have n9_ := kB HB hb
  clear HO461; clear HO465; clear HO469; clear HO476; clear BK450; clear BK451; clear BK452; clear BK456; clear HB; have HO461 := n0_; have HO465 := n1_; have HO469 := n2_; have HO476 := n3_; have HO480 := n4_; have BK450 := n5_; have BK451 := n6_; have BK452 := n7_; have BK456 := n8_; have HB := n9_
  clear n0_ n1_ n2_ n3_ n4_ n5_ n6_ n7_ n8_ n9_
  (try clear hb)
  (try clear hb2)
  (try clear hk)
  (try clear hi)
  (try clear ho0)
  obtain ⟨Ao44, co44, eo44⟩ := Kd.R_slice HO476.out
  (first | subst eo44 | (injection eo44 with f1_ f2_ f3_; have f4_ := f1_.symm; have f5_ := f3_.symm; clear f1_ f2_ f3_; subst f4_; subst f5_))
  obtain ⟨Ao45, co45, eo45⟩ := Kd.R_slice HO480.out
  (first | subst eo45 | (injection eo45 with f1_ f2_ f3_; have f4_ := f1_.symm; have f5_ := f3_.symm; clear f1_ f2_ f3_; subst f4_; subst f5_))
  refine hK.out _ _ ⟨kc BK456 0, kc BK456 1, kc BK450 0, kc BK450 1, kc BK451 0, kc BK451 1, kc BK452 0, kc BK452 1⟩ (fun hHeld => ?_)
  clear hK K
  refine norm_ (a' := ?_) ?_ ?_
  rotate_left
  · show Act.put _ (some 37) _ = _
    simp only [Act.put, List.setIfInBounds_toArray, List.set_cons_zero, List.set_cons_succ, i64_w, i32_w]
    rfl
  refine one_ (i := 23) (N := some 38) #[T, T, T, T, T, T, T, T, T, T, T, T, T, T, T, T, T, T, T, T, T, T, T, T, O, O, O] rfl rfl (one_of HT_.out (by kernel_rfl)) (by decide) (fun K hK => ?_)
  refine goes_ Try.func18 (by kernel_rfl) rfl #[.agg #[.bool t473, .slice Ao44 t474.length co44], .agg #[.bool t477, .slice Ao45 t478.length co45]] (by rfl) rfl rfl (by (try simp only [List.map_toArray, List.map_cons, List.map_nil]); first | done | rfl | (simp only [List.length_drop, List.length_take]; rfl)) ?_
  with_reducible refine (cobwebref01_Mul.calls k t473 _ _ t474 t477 _ _ t478 t481 t482 _ ?side1 ?side2 ?side3 ?side4 A15.out).mono ?_
  (case side1 => repeat (first | exact (Kd.R_reads' HO476.out).2.2 | (with_reducible refine Kd.C_alloc ?_ _) | (with_reducible refine Kd.C_drewN ?_ _) | (with_reducible refine Kd.C_drew ?_)))
  (case side2 => exact (Kd.R_reads' HO476.out).2.1)
  (case side3 => repeat (first | exact (Kd.R_reads' HO480.out).2.2 | (with_reducible refine Kd.C_alloc ?_ _) | (with_reducible refine Kd.C_drewN ?_ _) | (with_reducible refine Kd.C_drew ?_)))
  (case side4 => exact (Kd.R_reads' HO480.out).2.1)
  rintro e w46 ⟨v483, rfl, ho0, hb⟩
  refine ⟨_, rfl, ?_⟩
  have HO484 := Aside0.mk (Kd.V_lower (Kd.V_mono (ok' := fun k_ => some k_ ≠ (.slice Ao44 t474.length co44 : Value).ownBlock ∧ some k_ ≠ (.slice Ao45 t478.length co45 : Value).ownBlock ∧ k_ ≠ gb450 ∧ k_ ≠ gb451 ∧ k_ ≠ gb452 ∧ k_ ≠ gb456) ho0 (fun k_ hk_ => ⟨(Kd.fresh' (Kd.R_lt (kr HO476)) k_ hk_), (Kd.fresh' (Kd.R_lt (kr HO480)) k_ hk_), (Kd.freshB (g := gb450) (o := .cells #[.int .i64 a0_0, .int .u64 a0_1] 24 (0, 0)) (kx BK450) k_ hk_), (Kd.freshB (g := gb451) (o := .cells #[.int .i64 a1_0, .int .u64 a1_1] 24 (0, 0)) (kx BK451) k_ hk_), (Kd.freshB (g := gb452) (o := .cells #[.int .i64 a2_0, .int .i64 a2_1] 25 (0, 0)) (kx BK452) k_ hk_), (Kd.freshB (g := gb456) (o := .cells #[.int .i64 t453, .int .u64 t454] 24 (0, 0)) (kx BK456) k_ hk_)⟩)) (below_size (ky HB)))
  replace HO461 := kV HO461 hb
  replace HO465 := kV HO465 hb
  replace HO469 := kV HO469 hb
  replace HO476 := kR HO476 hb
  replace HO480 := kR HO480 hb
  replace BK450 := kb BK450 hb
  replace BK451 := kb BK451 hb
  replace BK452 := kb BK452 hb
  replace BK456 := kb BK456 hb
  replace HB := kB HB hb
  (try clear hb)
  (try clear hb2)
  (try clear hk)
  (try clear hi)
  (try clear ho0)
  obtain ⟨Ao47, co47, eo47⟩ := Kd.V_slice HO484.out
  (first | subst eo47 | (injection eo47 with f1_ f2_ f3_; have f4_ := f1_.symm; have f5_ := f3_.symm; clear f1_ f2_ f3_; subst f4_; subst f5_))
  refine hK.out _ _ ⟨kc BK456 0, kc BK456 1, kc BK450 0, kc BK450 1, kc BK451 0, kc BK451 1, kc BK452 0, kc BK452 1⟩ (fun hHeld => ?_)
  clear hK K
  refine norm_ (a' := ?_) ?_ ?_
  rotate_left
  · show Act.put _ (some 38) _ = _
    simp only [Act.put, List.setIfInBounds_toArray, List.set_cons_zero, List.set_cons_succ, i64_w, i32_w]
    rfl
  refine one_ (i := 24) (N := some 39) #[T, T, T, T, T, T, T, T, T, T, T, T, T, T, T, T, T, T, T, T, T, T, T, T, T, O, O] rfl rfl (one_of HT_.out (by kernel_rfl)) (by decide) (fun K hK => ?_)
  refine goes_ Try.func17 (by kernel_rfl) rfl #[.agg #[.int .i64 t471, .int .u64 t472], .bool true, .agg #[.bool t481, .slice Ao47 t482.length co47]] (by rfl) rfl rfl (by (try simp only [List.map_toArray, List.map_cons, List.map_nil]); first | done | rfl | (simp only [List.length_drop, List.length_take]; rfl)) ?_
  with_reducible refine (cobweblaw01_same.calls k t471 t472 true t481 _ _ t482 t485 _ ?side1 ?side2 A16.out).mono ?_
  (case side1 => repeat (first | exact (Kd.V_reads' HO484.out).2.2 | (with_reducible refine Kd.C_alloc ?_ _) | (with_reducible refine Kd.C_drewN ?_ _) | (with_reducible refine Kd.C_drew ?_)))
  (case side2 => exact (Kd.V_reads' HO484.out).2.1)
  rintro e w48 ⟨rfl, hb⟩
  refine ⟨_, rfl, ?_⟩
  replace HO461 := kV HO461 hb
  replace HO465 := kV HO465 hb
  replace HO469 := kV HO469 hb
  replace HO476 := kR HO476 hb
  replace HO480 := kR HO480 hb
  replace HO484 := kV HO484 hb
  replace BK450 := kb BK450 hb
  replace BK451 := kb BK451 hb
  replace BK452 := kb BK452 hb
  replace BK456 := kb BK456 hb
  replace HB := kB HB hb
  (try clear hb)
  (try clear hb2)
  (try clear hk)
  (try clear hi)
  refine hK.out _ _ ⟨kc BK456 0, kc BK456 1, kc BK450 0, kc BK450 1, kc BK451 0, kc BK451 1, kc BK452 0, kc BK452 1⟩ (fun hHeld => ?_)
  clear hK K
  refine norm_ (a' := ?_) ?_ ?_
  rotate_left
  · show Act.put _ (some 39) _ = _
    simp only [Act.put, List.setIfInBounds_toArray, List.set_cons_zero, List.set_cons_succ, i64_w, i32_w]
    rfl
  refine pure_ (i := 25) (N := some 40) (v := ?_) (a' := ?_) #[T, T, T, T, T, T, T, T, T, T, T, T, T, T, T, T, T, T, T, T, T, T, T, T, T, T, O] rfl rfl (any_of HT_.out (by kernel_rfl)) (fun _ _ _ h => h) (Or.inl ⟨by rfl, ?_⟩) ?_ ?_; rotate_left; focus (intro w'; go_simp; with_reducible rfl)
  rotate_left; focus (simp only [Act.put, List.setIfInBounds_toArray, List.set_cons_zero, List.set_cons_succ, i64_w, i32_w]; rfl)
  refine pure_ (i := 26) (N := some 6) (v := ?_) (a' := ?_) #[T, T, T, T, T, T, T, T, T, T, T, T, T, T, T, T, T, T, T, T, T, T, T, T, T, T, T] rfl rfl (any_of HT_.out (by kernel_rfl)) (fun _ _ _ h => h) (Or.inl ⟨by rfl, ?_⟩) ?_ ?_; rotate_left; focus (intro w'; go_simp; with_reducible rfl)
  rotate_left; focus (simp only [Act.put, List.setIfInBounds_toArray, List.set_cons_zero, List.set_cons_succ, i64_w, i32_w]; rfl)
  refine done_ (done_of HT_.out (by kernel_rfl)) ?_
  try go_wp2
  go_ret
  exact ⟨by first | rfl | (simp [errW_none, errW_some] <;> rfl) | (simp [*, errW_none, errW_some] <;> rfl), ky HB⟩
end Go.Proofs.Ytpjbniihdndlmaa.Q
