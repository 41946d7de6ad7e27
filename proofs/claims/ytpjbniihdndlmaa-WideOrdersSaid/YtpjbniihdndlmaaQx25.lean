-- Printed by wip/pp.sh (a session's own turning of the kit's print) for this seat.
import Derived.Test.YtpjbniihdndlmaaQx0
import Derived.Test.YtpjbniihdndlmaaQx1
import Derived.Test.YtpjbniihdndlmaaQx9
import Derived.Test.YtpjbniihdndlmaaQx13
import Derived.Test.YtpjbniihdndlmaaQx16
import Derived.Test.YtpjbniihdndlmaaQx19
import Derived.Test.YtpjbniihdndlmaaQx20
namespace Go.Proofs.Ytpjbniihdndlmaa.Q
open Go.RowKit Go.Proofs.YtpjbniihdndlmaaW.PrintWords Go.Proofs.YtpjbniihdndlmaaW.PrintLast Go.Proofs.YtpjbniihdndlmaaW.PrintMore
open Go.Proofs.Ytpjbniihdndlmaa.H
attribute [local go_sem] hq_add64 hq_sub64 hq_not64 add64c_nn sub64c_nn sub64c_le
attribute [local go_sem] max2_int min2_int max_two min_two max_three min_three max_four min_four   -- for this text's walks alone
set_option linter.unusedVariables false
set_option linter.unusedSimpArgs false

attribute [local go_sem high] eqA24
/-! ### cobweblaw01_WideOrders: function 5 -/
def cobweblaw01_WideOrders.f (k : Nat) (a0_0 : Int) (a0_1 : Int) (a1_0 : Int) (a1_1 : Int) : Option (Bool) := (wide_Cmp.f k a0_0 a0_1 a1_0 a1_1).bind fun t508 => ((cobweblaw01_alive.f k).bind fun t509 => (if t509 = true then ((cobweblaw01_num.f k a0_0 a0_1).bind fun bt510 => ((cobweblaw01_num.f k a1_0 a1_1).bind fun bt514 => ((cobwebref01_Cmp.f k bt510.1 bt510.2 bt514.1 bt514.2).bind fun t518 => (if t508 = t518 then ((wide_Cmp.f k a1_0 a1_1 a0_0 a0_1).bind fun t519 => (if t519 = (wrap64 (-t508)) then (if ((t508 == 0) == (a0_0 == a1_0 && (a0_1 == a1_1))) = true then ((wide_Sign.f a0_0 a0_1).bind fun t520 => ((cobweblaw01_num.f k a0_0 a0_1).bind fun bt521 => ((cobwebref01_Of.f k 0).bind fun bt525 => ((cobwebref01_Cmp.f k bt521.1 bt521.2 bt525.1 bt525.2).bind fun t529 => (some (t520 == t529)))))) else (none)) else (none))) else (none))))) else (none)))
theorem cobweblaw01_WideOrders.mono : ∀ a0 a1 a2 a3 k, LeO (cobweblaw01_WideOrders.f k a0 a1 a2 a3) (cobweblaw01_WideOrders.f (k + 1) a0 a1 a2 a3) := by
  intro a0 a1 a2 a3 k
  unfold cobweblaw01_WideOrders.f
  repeat' first
      | (with_reducible exact cobweblaw01_alive.mono _)
      | (with_reducible exact cobweblaw01_num.mono _ _ _)
      | (with_reducible exact cobwebref01_Cmp.mono _ _ _ _ _)
      | (with_reducible exact cobwebref01_Of.mono _ _)
      | (with_reducible exact wide_Cmp.mono _ _ _ _ _)
      | (with_reducible exact LeO.refl _)
      | (with_reducible exact LeO.none _)
      | (with_reducible refine LeO.ite ?_ ?_)
      | (with_reducible refine LeO.bind ?_ (fun _ => ?_))
      | exact cobweblaw01_alive.mono _
      | exact cobweblaw01_num.mono _ _ _
      | exact cobwebref01_Cmp.mono _ _ _ _ _
      | exact cobwebref01_Of.mono _ _
      | exact wide_Cmp.mono _ _ _ _ _
      | exact LeO.none _
      | refine LeO.ite ?_ ?_
      | refine LeO.bind ?_ (fun _ => ?_)
def cobweblaw01_WideOrders.T2 : Bool × List (List Nat × List Nat) := (true, [([], []), ([0, 0], [0]), ([1], [1]), ([1], [1]), ([3, 1, 1], [1, 3]), ([1], [1]), ([5, 4, 1], [1, 5]), ([4, 6, 6, 1], [1, 4, 6]), ([2, 7, 1], [1, 2, 7]), ([1, 8], [1, 8]), ([9, 7], [9]), ([10], [10]), ([10], [10]), ([11, 12, 10, 10], [10, 11, 12]), ([10], [10]), ([14, 10], [10, 14]), ([13, 15, 10], [10, 13, 15]), ([10, 16], [10, 16]), ([17, 13], [17]), ([18], [18]), ([19, 18], [18, 19]), ([18], [18]), ([18], [18]), ([21, 22, 18], [18, 21, 22]), ([20, 23, 18], [18, 20, 23]), ([18, 24], [18, 24]), ([25, 18], [25]), ([26], [26]), ([27, 26, 26], [26, 27]), ([26], [26]), ([29, 28, 26], [26, 29]), ([30, 26], [26]), ([30, 31, 31, 26], [26, 30, 31]), ([28, 32, 26], [26, 28, 32]), ([26, 33], [26, 33]), ([34, 32, 0, 1, 2, 3, 4, 5, 6, 7, 8, 9, 10, 11, 12, 13, 14, 15, 16, 17, 18, 19, 20, 21, 22, 23, 24, 25, 26, 27, 28, 29, 30, 31, 32, 33, 34], [34])])
def cobweblaw01_WideOrders.B2 : List Nat := [0, 1, 3, 3, 11, 3, 59, 123, 255, 511, 1023, 2047, 2047, 8191, 2047, 18431, 65535, 131071, 262143, 524287, 1048575, 524287, 524287, 6815743, 16777215, 33554431, 67108863, 134217727, 268435455, 134217727, 1073741823, 2147483647, 4294967295, 8589934591, 17179869183, 34359738367]
theorem cobweblaw01_WideOrders.tab2 : rtab .any (opsOf Try.f5 2) = cobweblaw01_WideOrders.T2 := by kernel_rfl
theorem cobweblaw01_WideOrders.bits2 : waitsOk cobweblaw01_WideOrders.T2.2 cobweblaw01_WideOrders.B2 = true := by kernel_rfl
set_option maxHeartbeats 8000000 in
set_option maxRecDepth 100000 in
theorem cobweblaw01_WideOrders.calls (k : Nat) (a0_0 : Int) (a0_1 : Int) (a1_0 : Int) (a1_1 : Int) (r : Bool) (w : World) (h : cobweblaw01_WideOrders.f k a0_0 a0_1 a1_0 a1_1 = some r) :
    Calls Try.prog 5 #[.agg #[.int .i64 a0_0, .int .u64 a0_1], .agg #[.int .i64 a1_0, .int .u64 a1_1]] w fun e w' => e = .returned (.bool r) ∧ Below w.heap.size w w' := by
  have hu24 := Try.underlying24
  have HB := Aside0.mk (Below.refl w.heap.size w)
  have H : ((wide_Cmp.f k a0_0 a0_1 a1_0 a1_1).bind fun t508 => ((cobweblaw01_alive.f k).bind fun t509 => (if t509 = true then ((cobweblaw01_num.f k a0_0 a0_1).bind fun bt510 => ((cobweblaw01_num.f k a1_0 a1_1).bind fun bt514 => ((cobwebref01_Cmp.f k bt510.1 bt510.2 bt514.1 bt514.2).bind fun t518 => (if t508 = t518 then ((wide_Cmp.f k a1_0 a1_1 a0_0 a0_1).bind fun t519 => (if t519 = (wrap64 (-t508)) then (if ((t508 == 0) == (a0_0 == a1_0 && (a0_1 == a1_1))) = true then ((wide_Sign.f a0_0 a0_1).bind fun t520 => ((cobweblaw01_num.f k a0_0 a0_1).bind fun bt521 => ((cobwebref01_Of.f k 0).bind fun bt525 => ((cobwebref01_Cmp.f k bt521.1 bt521.2 bt525.1 bt525.2).bind fun t529 => (some (t520 == t529)))))) else (none)) else (none))) else (none))))) else (none)))) = some r := h
  clear h
  replace H := Option.bind_eq_some_iff.mp H
  obtain ⟨t508, A30, H⟩ := H
  replace H : ((cobweblaw01_alive.f k).bind fun t509 => (if t509 = true then ((cobweblaw01_num.f k a0_0 a0_1).bind fun bt510 => ((cobweblaw01_num.f k a1_0 a1_1).bind fun bt514 => ((cobwebref01_Cmp.f k bt510.1 bt510.2 bt514.1 bt514.2).bind fun t518 => (if t508 = t518 then ((wide_Cmp.f k a1_0 a1_1 a0_0 a0_1).bind fun t519 => (if t519 = (wrap64 (-t508)) then (if ((t508 == 0) == (a0_0 == a1_0 && (a0_1 == a1_1))) = true then ((wide_Sign.f a0_0 a0_1).bind fun t520 => ((cobweblaw01_num.f k a0_0 a0_1).bind fun bt521 => ((cobwebref01_Of.f k 0).bind fun bt525 => ((cobwebref01_Cmp.f k bt521.1 bt521.2 bt525.1 bt525.2).bind fun t529 => (some (t520 == t529)))))) else (none)) else (none))) else (none))))) else (none))) = some r := H
  have A3 := Aside0.mk A30
  clear A30
  replace H := Option.bind_eq_some_iff.mp H
  obtain ⟨t509, A40, H⟩ := H
  replace H : (if t509 = true then ((cobweblaw01_num.f k a0_0 a0_1).bind fun bt510 => ((cobweblaw01_num.f k a1_0 a1_1).bind fun bt514 => ((cobwebref01_Cmp.f k bt510.1 bt510.2 bt514.1 bt514.2).bind fun t518 => (if t508 = t518 then ((wide_Cmp.f k a1_0 a1_1 a0_0 a0_1).bind fun t519 => (if t519 = (wrap64 (-t508)) then (if ((t508 == 0) == (a0_0 == a1_0 && (a0_1 == a1_1))) = true then ((wide_Sign.f a0_0 a0_1).bind fun t520 => ((cobweblaw01_num.f k a0_0 a0_1).bind fun bt521 => ((cobwebref01_Of.f k 0).bind fun bt525 => ((cobwebref01_Cmp.f k bt521.1 bt521.2 bt525.1 bt525.2).bind fun t529 => (some (t520 == t529)))))) else (none)) else (none))) else (none))))) else (none)) = some r := H
  have A4 := Aside0.mk A40
  clear A40
  by_cases c5 : t509 = true
  rotate_left
  · replace c5 := Bool.eq_false_iff.mpr c5
    subst c5
    have H1 : (none) = some r := by rw [if_neg (show ¬ (false = true) by decide)] at H; exact H
    clear H; have H := H1; clear H1
    exact absurd H (by simp)

  subst c5
  have H1 : ((cobweblaw01_num.f k a0_0 a0_1).bind fun bt510 => ((cobweblaw01_num.f k a1_0 a1_1).bind fun bt514 => ((cobwebref01_Cmp.f k bt510.1 bt510.2 bt514.1 bt514.2).bind fun t518 => (if t508 = t518 then ((wide_Cmp.f k a1_0 a1_1 a0_0 a0_1).bind fun t519 => (if t519 = (wrap64 (-t508)) then (if ((t508 == 0) == (a0_0 == a1_0 && (a0_1 == a1_1))) = true then ((wide_Sign.f a0_0 a0_1).bind fun t520 => ((cobweblaw01_num.f k a0_0 a0_1).bind fun bt521 => ((cobwebref01_Of.f k 0).bind fun bt525 => ((cobwebref01_Cmp.f k bt521.1 bt521.2 bt525.1 bt525.2).bind fun t529 => (some (t520 == t529)))))) else (none)) else (none))) else (none))))) = some r := by rw [if_pos rfl] at H; exact H
  clear H; have H := H1; clear H1
  replace H := Option.bind_eq_some_iff.mp H
  obtain ⟨⟨t510, t511⟩, A60, H⟩ := H
  replace H : ((cobweblaw01_num.f k a1_0 a1_1).bind fun bt514 => ((cobwebref01_Cmp.f k t510 t511 bt514.1 bt514.2).bind fun t518 => (if t508 = t518 then ((wide_Cmp.f k a1_0 a1_1 a0_0 a0_1).bind fun t519 => (if t519 = (wrap64 (-t508)) then (if ((t508 == 0) == (a0_0 == a1_0 && (a0_1 == a1_1))) = true then ((wide_Sign.f a0_0 a0_1).bind fun t520 => ((cobweblaw01_num.f k a0_0 a0_1).bind fun bt521 => ((cobwebref01_Of.f k 0).bind fun bt525 => ((cobwebref01_Cmp.f k bt521.1 bt521.2 bt525.1 bt525.2).bind fun t529 => (some (t520 == t529)))))) else (none)) else (none))) else (none)))) = some r := H
  have A6 := Aside0.mk A60
  clear A60
  replace H := Option.bind_eq_some_iff.mp H
  obtain ⟨⟨t514, t515⟩, A70, H⟩ := H
  replace H : ((cobwebref01_Cmp.f k t510 t511 t514 t515).bind fun t518 => (if t508 = t518 then ((wide_Cmp.f k a1_0 a1_1 a0_0 a0_1).bind fun t519 => (if t519 = (wrap64 (-t508)) then (if ((t508 == 0) == (a0_0 == a1_0 && (a0_1 == a1_1))) = true then ((wide_Sign.f a0_0 a0_1).bind fun t520 => ((cobweblaw01_num.f k a0_0 a0_1).bind fun bt521 => ((cobwebref01_Of.f k 0).bind fun bt525 => ((cobwebref01_Cmp.f k bt521.1 bt521.2 bt525.1 bt525.2).bind fun t529 => (some (t520 == t529)))))) else (none)) else (none))) else (none))) = some r := H
  have A7 := Aside0.mk A70
  clear A70
  replace H := Option.bind_eq_some_iff.mp H
  obtain ⟨t518, A80, H⟩ := H
  replace H : (if t508 = t518 then ((wide_Cmp.f k a1_0 a1_1 a0_0 a0_1).bind fun t519 => (if t519 = (wrap64 (-t508)) then (if ((t508 == 0) == (a0_0 == a1_0 && (a0_1 == a1_1))) = true then ((wide_Sign.f a0_0 a0_1).bind fun t520 => ((cobweblaw01_num.f k a0_0 a0_1).bind fun bt521 => ((cobwebref01_Of.f k 0).bind fun bt525 => ((cobwebref01_Cmp.f k bt521.1 bt521.2 bt525.1 bt525.2).bind fun t529 => (some (t520 == t529)))))) else (none)) else (none))) else (none)) = some r := H
  have A8 := Aside0.mk A80
  clear A80
  by_cases c9 : t508 = t518
  rotate_left
  · rw [if_neg c9] at H
    exact absurd H (by simp)
  rw [if_pos c9] at H
  have c9b0 : (t508 == t518) = true := beq_iff_eq.mpr c9
  have c9b1 : (t508 != t518) = false := bne_eq_false_iff_eq.mpr c9
  clear c9
  replace H := Option.bind_eq_some_iff.mp H
  obtain ⟨t519, A100, H⟩ := H
  replace H : (if t519 = (wrap64 (-t508)) then (if ((t508 == 0) == (a0_0 == a1_0 && (a0_1 == a1_1))) = true then ((wide_Sign.f a0_0 a0_1).bind fun t520 => ((cobweblaw01_num.f k a0_0 a0_1).bind fun bt521 => ((cobwebref01_Of.f k 0).bind fun bt525 => ((cobwebref01_Cmp.f k bt521.1 bt521.2 bt525.1 bt525.2).bind fun t529 => (some (t520 == t529)))))) else (none)) else (none)) = some r := H
  have A10 := Aside0.mk A100
  clear A100
  by_cases c11 : t519 = (wrap64 (-t508))
  rotate_left
  · rw [if_neg c11] at H
    exact absurd H (by simp)
  rw [if_pos c11] at H
  have c11b0 : (t519 == (wrap64 (-t508))) = true := beq_iff_eq.mpr c11
  have c11b1 : (t519 != (wrap64 (-t508))) = false := bne_eq_false_iff_eq.mpr c11
  clear c11
  by_cases c12 : ((t508 == 0) == (a0_0 == a1_0 && (a0_1 == a1_1))) = true
  rotate_left
  · rw [if_neg c12] at H
    exact absurd H (by simp)
  rw [if_pos c12] at H
  have c12b0 : ((t508 == 0) == (a0_0 == a1_0 && (a0_1 == a1_1))) = true := c12
  (try (have c12b1 : decide ((t508 == 0) = (a0_0 == a1_0 && (a0_1 == a1_1))) = true := by simpa using c12))
  (try (have c12b2 : ((t508 == 0) == (a0_0 == a1_0 && (a0_1 == a1_1))) = true := by simpa using c12))
  clear c12
  replace H := Option.bind_eq_some_iff.mp H
  obtain ⟨t520, A130, H⟩ := H
  replace H : ((cobweblaw01_num.f k a0_0 a0_1).bind fun bt521 => ((cobwebref01_Of.f k 0).bind fun bt525 => ((cobwebref01_Cmp.f k bt521.1 bt521.2 bt525.1 bt525.2).bind fun t529 => (some (t520 == t529))))) = some r := H
  have A13 := Aside0.mk A130
  clear A130
  replace H := Option.bind_eq_some_iff.mp H
  obtain ⟨⟨t521, t522⟩, A140, H⟩ := H
  replace H : ((cobwebref01_Of.f k 0).bind fun bt525 => ((cobwebref01_Cmp.f k t521 t522 bt525.1 bt525.2).bind fun t529 => (some (t520 == t529)))) = some r := H
  have A14 := Aside0.mk A140
  clear A140
  replace H := Option.bind_eq_some_iff.mp H
  obtain ⟨⟨t525, t526⟩, A150, H⟩ := H
  replace H : ((cobwebref01_Cmp.f k t521 t522 t525 t526).bind fun t529 => (some (t520 == t529))) = some r := H
  have A15 := Aside0.mk A150
  clear A150
  replace H := Option.bind_eq_some_iff.mp H
  obtain ⟨t529, A160, H⟩ := H
  replace H : (some (t520 == t529)) = some r := H
  have A16 := Aside0.mk A160
  clear A160
  obtain rfl := Option.some.inj H
  go_enter Try.func5, Try.ntmps5
  try go_wp2_with (first | ((with_reducible refine gate_dst (N := 2) rfl ?_); refine box_event ?hg (N := 2) ?hd (cs := #[.int .i64 a0_0, .int .u64 a0_1]) (t := 24) ?hr ?_; (case hd => rfl); (case hg => rfl); (case hr => first | (go_simp; done) | (go_simp; rfl)); intro gb506 hg w17 hbox hb; have BK506 := Aside0.mk (hbox); have GW506 := kS HB hg; have GE506 := kS HB hg; replace HB := kB HB hb; clear hb hbox hg) | ((with_reducible refine gate_dst (N := 3) rfl ?_); refine box_event ?hg (N := 3) ?hd (cs := #[.int .i64 a1_0, .int .u64 a1_1]) (t := 24) ?hr ?_; (case hd => rfl); (case hg => rfl); (case hr => first | (go_simp; done) | (go_simp; rfl)); intro gb507 hg w18 hbox hb; have BK507 := Aside0.mk (hbox); have GW507 := kS HB hg; have GE507 := kS HB hg; have NB506_507 := kN BK506 hg; have NB507_506 := kM BK506 hg; replace BK506 := kb BK506 hb; replace HB := kB HB hb; clear hb hbox hg; have hnb19 := NB506_507.out; have hnc19 := NB507_506.out; have hcz20_0 : w18.cell? ⟨gb506, 0, none⟩ = some (.int .i64 a0_0) := kc BK506 0; have hcz20_1 : w18.cell? ⟨gb506, 1, none⟩ = some (.int .u64 a0_1) := kc BK506 1; have hfz20_0 := blk_frozen BK506.out 0; have hfz20_1 := blk_frozen BK506.out 1; have hcz21_0 : w18.cell? ⟨gb507, 0, none⟩ = some (.int .i64 a1_0) := kc BK507 0; have hcz21_1 : w18.cell? ⟨gb507, 1, none⟩ = some (.int .u64 a1_1) := kc BK507 1; have hfz21_0 := blk_frozen BK507.out 0; have hfz21_1 := blk_frozen BK507.out 1) | ((with_reducible refine gate_callee (f := 24) rfl ?_); refine goesL_ (some 8) rfl rfl Try.func24 (by kernel_rfl) rfl #[.agg #[.int .i64 a0_0, .int .u64 a0_1], .agg #[.int .i64 a1_0, .int .u64 a1_1]] rfl (by (try simp only [List.map_toArray, List.map_cons, List.map_nil]); first | done | rfl | (simp only [List.length_drop, List.length_take]; rfl)) ?_; (with_reducible refine (wide_Cmp.calls k a0_0 a0_1 a1_0 a1_1 t508 _ A3.out).mono ?_); rintro e w22 ⟨rfl, hb⟩; refine ⟨_, rfl, ?_⟩; replace BK506 := kb BK506 hb; replace BK507 := kb BK507 hb; replace HB := kB HB hb; (try clear hb); (try clear hb2); (try clear hk); (try clear hi)))
  replace BK506 := Aside0.mk (blk_drew BK506.out)
  replace BK507 := Aside0.mk (blk_drew BK507.out)
  replace HB := Aside0.mk (below_drew1 HB.out)
  refine start_ (n := 36) (S := fun w' => w'.cell? ⟨gb506, 0, none⟩ = some (.int .i64 a0_0) ∧ w'.cell? ⟨gb506, 1, none⟩ = some (.int .u64 a0_1) ∧ w'.cell? ⟨gb507, 0, none⟩ = some (.int .i64 a1_0) ∧ w'.cell? ⟨gb507, 1, none⟩ = some (.int .u64 a1_1)) (ds := []) #[O, O, O, O, O, O, O, O, O, O, O, O, O, O, O, O, O, O, O, O, O, O, O, O, O, O, O, O, O, O, O, O, O, O, O, O] (by kernel_rfl) rfl rfl ⟨kc BK506 0, kc BK506 1, kc BK507 0, kc BK507 1⟩ (fun hHeld => ?_); refine with_tabW cobweblaw01_WideOrders.tab2 cobweblaw01_WideOrders.bits2 (fun HT_ HW_ => ?_)
  generalize w22.drew = w23 at BK506 BK507 HB hHeld ⊢
  refine one_ (i := 0) (N := some 9) #[T, O, O, O, O, O, O, O, O, O, O, O, O, O, O, O, O, O, O, O, O, O, O, O, O, O, O, O, O, O, O, O, O, O, O, O] rfl rfl (one_of HT_.out (by kernel_rfl)) (by decide) (fun K hK => ?_)
  refine goes_ Try.func16 (by kernel_rfl) rfl #[] (by rfl) rfl rfl (by (try simp only [List.map_toArray, List.map_cons, List.map_nil]); first | done | rfl | (simp only [List.length_drop, List.length_take]; rfl)) ?_
  with_reducible refine (cobweblaw01_alive.calls k  true _ A4.out).mono ?_
  rintro e w24 ⟨rfl, hb⟩
  refine ⟨_, rfl, ?_⟩
  replace BK506 := kb BK506 hb
  replace BK507 := kb BK507 hb
  replace HB := kB HB hb
  (try clear hb)
  (try clear hb2)
  (try clear hk)
  (try clear hi)
  refine hK.out _ _ ⟨kc BK506 0, kc BK506 1, kc BK507 0, kc BK507 1⟩ (fun hHeld => ?_)
  clear hK K
  refine norm_ (a' := ?_) ?_ ?_
  rotate_left
  · show Act.put _ (some 9) _ = _
    simp only [Act.put, List.setIfInBounds_toArray, List.set_cons_zero, List.set_cons_succ, i64_w, i32_w]
    rfl
  refine pure_ (i := 1) (N := some 10) (v := ?_) (a' := ?_) #[T, T, O, O, O, O, O, O, O, O, O, O, O, O, O, O, O, O, O, O, O, O, O, O, O, O, O, O, O, O, O, O, O, O, O, O] rfl rfl (any_of HT_.out (by kernel_rfl)) (fun _ _ _ h => h) (Or.inl ⟨by rfl, ?_⟩) ?_ ?_; rotate_left; focus (intro w'; go_simp; with_reducible rfl)
  rotate_left; focus (simp only [Act.put, List.setIfInBounds_toArray, List.set_cons_zero, List.set_cons_succ, i64_w, i32_w]; rfl)
  refine pure_ (i := 2) (N := some 11) (v := ?_) (a' := ?_) #[T, T, T, O, O, O, O, O, O, O, O, O, O, O, O, O, O, O, O, O, O, O, O, O, O, O, O, O, O, O, O, O, O, O, O, O] rfl rfl (any_of HT_.out (by kernel_rfl)) (fun _ _ _ h => h) (Or.inl ⟨by rfl, ?_⟩) ?_ ?_; rotate_left; focus (intro w'; go_simp; with_reducible rfl)
  rotate_left; focus (simp only [Act.put, List.setIfInBounds_toArray, List.set_cons_zero, List.set_cons_succ, i64_w, i32_w]; rfl)
  refine take_ (i := 3) (N := some 12) (v := ?_) (a' := ?_) #[T, T, T, T, O, O, O, O, O, O, O, O, O, O, O, O, O, O, O, O, O, O, O, O, O, O, O, O, O, O, O, O, O, O, O, O] rfl rfl (take_ofW HT_.out HW_.out (by kernel_rfl)) (fun _ _ _ h => h) (Or.inl ⟨by rfl, ?_⟩) hHeld ?_ ?_; rotate_left; focus (rintro w' ⟨s0, s1, s2, s3⟩; go_simp; with_reducible rfl)
  rotate_left; focus (simp only [Act.put, List.setIfInBounds_toArray, List.set_cons_zero, List.set_cons_succ, i64_w, i32_w]; rfl)
  refine take_ (i := 5) (N := some 14) (v := ?_) (a' := ?_) #[T, T, T, T, O, T, O, O, O, O, O, O, O, O, O, O, O, O, O, O, O, O, O, O, O, O, O, O, O, O, O, O, O, O, O, O] rfl rfl (take_ofW HT_.out HW_.out (by kernel_rfl)) (fun _ _ _ h => h) (Or.inl ⟨by rfl, ?_⟩) hHeld ?_ ?_; rotate_left; focus (rintro w' ⟨s0, s1, s2, s3⟩; go_simp; with_reducible rfl)
  rotate_left; focus (simp only [Act.put, List.setIfInBounds_toArray, List.set_cons_zero, List.set_cons_succ, i64_w, i32_w]; rfl)
  refine one_ (i := 4) (N := some 13) #[T, T, T, T, T, T, O, O, O, O, O, O, O, O, O, O, O, O, O, O, O, O, O, O, O, O, O, O, O, O, O, O, O, O, O, O] rfl rfl (one_of HT_.out (by kernel_rfl)) (by decide) (fun K hK => ?_)
  refine goes_ Try.func19 (by kernel_rfl) rfl #[.agg #[.int .i64 a0_0, .int .u64 a0_1]] (by rfl) rfl rfl (by (try simp only [List.map_toArray, List.map_cons, List.map_nil]); first | done | rfl | (simp only [List.length_drop, List.length_take]; rfl)) ?_
  with_reducible refine (cobweblaw01_num.calls k a0_0 a0_1 t510 t511 _ A6.out).mono ?_
  rintro e w25 ⟨v512, rfl, ho0, hb⟩
  refine ⟨_, rfl, ?_⟩
  have HO513 := Aside0.mk (Kd.V_lower (Kd.V_mono (ok' := fun k_ => k_ ≠ gb506 ∧ k_ ≠ gb507) ho0 (fun k_ hk_ => ⟨(Kd.freshB (g := gb506) (o := .cells #[.int .i64 a0_0, .int .u64 a0_1] 24 (0, 0)) (kx BK506) k_ hk_), (Kd.freshB (g := gb507) (o := .cells #[.int .i64 a1_0, .int .u64 a1_1] 24 (0, 0)) (kx BK507) k_ hk_)⟩)) (below_size (ky HB)))
  replace BK506 := kb BK506 hb
  replace BK507 := kb BK507 hb
  replace HB := kB HB hb
  (try clear hb)
  (try clear hb2)
  (try clear hk)
  (try clear hi)
  (try clear ho0)
  refine hK.out _ _ ⟨kc BK506 0, kc BK506 1, kc BK507 0, kc BK507 1⟩ (fun hHeld => ?_)
  clear hK K
  refine norm_ (a' := ?_) ?_ ?_
  rotate_left
  · show Act.put _ (some 13) _ = _
    simp only [Act.put, List.setIfInBounds_toArray, List.set_cons_zero, List.set_cons_succ, i64_w, i32_w]
    rfl
  refine one_ (i := 6) (N := some 15) #[T, T, T, T, T, T, T, O, O, O, O, O, O, O, O, O, O, O, O, O, O, O, O, O, O, O, O, O, O, O, O, O, O, O, O, O] rfl rfl (one_of HT_.out (by kernel_rfl)) (by decide) (fun K hK => ?_)
  refine goes_ Try.func19 (by kernel_rfl) rfl #[.agg #[.int .i64 a1_0, .int .u64 a1_1]] (by rfl) rfl rfl (by (try simp only [List.map_toArray, List.map_cons, List.map_nil]); first | done | rfl | (simp only [List.length_drop, List.length_take]; rfl)) ?_
  with_reducible refine (cobweblaw01_num.calls k a1_0 a1_1 t514 t515 _ A7.out).mono ?_
  rintro e w26 ⟨v516, rfl, ho0, hb⟩
  refine ⟨_, rfl, ?_⟩
  have HO517 := Aside0.mk (Kd.V_lower (Kd.V_mono (ok' := fun k_ => k_ ≠ gb506 ∧ k_ ≠ gb507) ho0 (fun k_ hk_ => ⟨(Kd.freshB (g := gb506) (o := .cells #[.int .i64 a0_0, .int .u64 a0_1] 24 (0, 0)) (kx BK506) k_ hk_), (Kd.freshB (g := gb507) (o := .cells #[.int .i64 a1_0, .int .u64 a1_1] 24 (0, 0)) (kx BK507) k_ hk_)⟩)) (below_size (ky HB)))
  replace HO513 := kV HO513 hb
  replace BK506 := kb BK506 hb
  replace BK507 := kb BK507 hb
  replace HB := kB HB hb
  (try clear hb)
  (try clear hb2)
  (try clear hk)
  (try clear hi)
  (try clear ho0)
  obtain ⟨Ao27, co27, eo27⟩ := Kd.V_slice HO513.out
  (first | subst eo27 | (injection eo27 with f1_ f2_ f3_; have f4_ := f1_.symm; have f5_ := f3_.symm; clear f1_ f2_ f3_; subst f4_; subst f5_))
  obtain ⟨Ao28, co28, eo28⟩ := Kd.V_slice HO517.out
  (first | subst eo28 | (injection eo28 with f1_ f2_ f3_; have f4_ := f1_.symm; have f5_ := f3_.symm; clear f1_ f2_ f3_; subst f4_; subst f5_))
  refine hK.out _ _ ⟨kc BK506 0, kc BK506 1, kc BK507 0, kc BK507 1⟩ (fun hHeld => ?_)
  clear hK K
  refine norm_ (a' := ?_) ?_ ?_
  rotate_left
  · show Act.put _ (some 15) _ = _
    simp only [Act.put, List.setIfInBounds_toArray, List.set_cons_zero, List.set_cons_succ, i64_w, i32_w]
    rfl
  refine one_ (i := 7) (N := some 16) #[T, T, T, T, T, T, T, T, O, O, O, O, O, O, O, O, O, O, O, O, O, O, O, O, O, O, O, O, O, O, O, O, O, O, O, O] rfl rfl (one_of HT_.out (by kernel_rfl)) (by decide) (fun K hK => ?_)
  refine goes_ Try.func25 (by kernel_rfl) rfl #[.agg #[.bool t510, .slice Ao27 t511.length co27], .agg #[.bool t514, .slice Ao28 t515.length co28]] (by rfl) rfl rfl (by (try simp only [List.map_toArray, List.map_cons, List.map_nil]); first | done | rfl | (simp only [List.length_drop, List.length_take]; rfl)) ?_
  with_reducible refine (cobwebref01_Cmp.calls k t510 _ _ t511 t514 _ _ t515 t518 _ ?side1 ?side2 ?side3 ?side4 A8.out).mono ?_
  (case side1 => repeat (first | exact (Kd.V_reads' HO513.out).2.2 | (with_reducible refine Kd.C_alloc ?_ _) | (with_reducible refine Kd.C_drewN ?_ _) | (with_reducible refine Kd.C_drew ?_)))
  (case side2 => exact (Kd.V_reads' HO513.out).2.1)
  (case side3 => repeat (first | exact (Kd.V_reads' HO517.out).2.2 | (with_reducible refine Kd.C_alloc ?_ _) | (with_reducible refine Kd.C_drewN ?_ _) | (with_reducible refine Kd.C_drew ?_)))
  (case side4 => exact (Kd.V_reads' HO517.out).2.1)
  rintro e w29 ⟨rfl, hb⟩
  refine ⟨_, rfl, ?_⟩
  replace HO513 := kV HO513 hb
  replace HO517 := kV HO517 hb
  replace BK506 := kb BK506 hb
  replace BK507 := kb BK507 hb
  replace HB := kB HB hb
  (try clear hb)
  (try clear hb2)
  (try clear hk)
  (try clear hi)
  refine hK.out _ _ ⟨kc BK506 0, kc BK506 1, kc BK507 0, kc BK507 1⟩ (fun hHeld => ?_)
  clear hK K
  refine norm_ (a' := ?_) ?_ ?_
  rotate_left
  · show Act.put _ (some 16) _ = _
    simp only [Act.put, List.setIfInBounds_toArray, List.set_cons_zero, List.set_cons_succ, i64_w, i32_w]
    rfl
  refine pure_ (i := 8) (N := some 17) (v := ?_) (a' := ?_) #[T, T, T, T, T, T, T, T, T, O, O, O, O, O, O, O, O, O, O, O, O, O, O, O, O, O, O, O, O, O, O, O, O, O, O, O] rfl rfl (any_of HT_.out (by kernel_rfl)) (fun _ _ _ h => h) (Or.inl ⟨by rfl, ?_⟩) ?_ ?_; rotate_left; focus (intro w'; go_simp; with_reducible rfl)
  rotate_left; focus (simp only [Act.put, List.setIfInBounds_toArray, List.set_cons_zero, List.set_cons_succ, i64_w, i32_w]; rfl)
  refine pure_ (i := 9) (N := some 18) (v := ?_) (a' := ?_) #[T, T, T, T, T, T, T, T, T, T, O, O, O, O, O, O, O, O, O, O, O, O, O, O, O, O, O, O, O, O, O, O, O, O, O, O] rfl rfl (any_of HT_.out (by kernel_rfl)) (fun _ _ _ h => h) (Or.inl ⟨by rfl, ?_⟩) ?_ ?_; rotate_left; focus (intro w'; go_simp; with_reducible rfl)
  rotate_left; focus (simp only [Act.put, List.setIfInBounds_toArray, List.set_cons_zero, List.set_cons_succ, i64_w, i32_w]; rfl)
  refine pure_ (i := 10) (N := some 19) (v := ?_) (a' := ?_) #[T, T, T, T, T, T, T, T, T, T, T, O, O, O, O, O, O, O, O, O, O, O, O, O, O, O, O, O, O, O, O, O, O, O, O, O] rfl rfl (any_of HT_.out (by kernel_rfl)) (fun _ _ _ h => h) (Or.inl ⟨by rfl, ?_⟩) ?_ ?_; rotate_left; focus (intro w'; go_simp; with_reducible rfl)
  rotate_left; focus (simp only [Act.put, List.setIfInBounds_toArray, List.set_cons_zero, List.set_cons_succ, i64_w, i32_w]; rfl)
  refine pure_ (i := 14) (N := some 23) (v := ?_) (a' := ?_) #[T, T, T, T, T, T, T, T, T, T, T, O, O, O, T, O, O, O, O, O, O, O, O, O, O, O, O, O, O, O, O, O, O, O, O, O] rfl rfl (any_of HT_.out (by kernel_rfl)) (fun _ _ _ h => h) (Or.inl ⟨by rfl, ?_⟩) ?_ ?_; rotate_left; focus (intro w'; go_simp; with_reducible rfl)
  rotate_left; focus (simp only [Act.put, List.setIfInBounds_toArray, List.set_cons_zero, List.set_cons_succ, i64_w, i32_w]; rfl)
  refine pure_ (i := 15) (N := some 24) (v := ?_) (a' := ?_) #[T, T, T, T, T, T, T, T, T, T, T, O, O, O, T, T, O, O, O, O, O, O, O, O, O, O, O, O, O, O, O, O, O, O, O, O] rfl rfl (any_of HT_.out (by kernel_rfl)) (fun _ _ _ h => h) (Or.inl ⟨by rfl, ?_⟩) ?_ ?_; rotate_left; focus (intro w'; go_simp; with_reducible rfl)
  rotate_left; focus (simp only [Act.put, List.setIfInBounds_toArray, List.set_cons_zero, List.set_cons_succ, i64_w, i32_w]; rfl)
  refine take_ (i := 11) (N := some 20) (v := ?_) (a' := ?_) #[T, T, T, T, T, T, T, T, T, T, T, T, O, O, T, T, O, O, O, O, O, O, O, O, O, O, O, O, O, O, O, O, O, O, O, O] rfl rfl (take_ofW HT_.out HW_.out (by kernel_rfl)) (fun _ _ _ h => h) (Or.inl ⟨by rfl, ?_⟩) hHeld ?_ ?_; rotate_left; focus (rintro w' ⟨s0, s1, s2, s3⟩; go_simp; with_reducible rfl)
  rotate_left; focus (simp only [Act.put, List.setIfInBounds_toArray, List.set_cons_zero, List.set_cons_succ, i64_w, i32_w]; rfl)
  refine take_ (i := 12) (N := some 21) (v := ?_) (a' := ?_) #[T, T, T, T, T, T, T, T, T, T, T, T, T, O, T, T, O, O, O, O, O, O, O, O, O, O, O, O, O, O, O, O, O, O, O, O] rfl rfl (take_ofW HT_.out HW_.out (by kernel_rfl)) (fun _ _ _ h => h) (Or.inl ⟨by rfl, ?_⟩) hHeld ?_ ?_; rotate_left; focus (rintro w' ⟨s0, s1, s2, s3⟩; go_simp; with_reducible rfl)
  rotate_left; focus (simp only [Act.put, List.setIfInBounds_toArray, List.set_cons_zero, List.set_cons_succ, i64_w, i32_w]; rfl)
  refine one_ (i := 13) (N := some 22) #[T, T, T, T, T, T, T, T, T, T, T, T, T, T, T, T, O, O, O, O, O, O, O, O, O, O, O, O, O, O, O, O, O, O, O, O] rfl rfl (one_of HT_.out (by kernel_rfl)) (by decide) (fun K hK => ?_)
  refine goes_ Try.func24 (by kernel_rfl) rfl #[.agg #[.int .i64 a1_0, .int .u64 a1_1], .agg #[.int .i64 a0_0, .int .u64 a0_1]] (by rfl) rfl rfl (by (try simp only [List.map_toArray, List.map_cons, List.map_nil]); first | done | rfl | (simp only [List.length_drop, List.length_take]; rfl)) ?_
  with_reducible refine (wide_Cmp.calls k a1_0 a1_1 a0_0 a0_1 t519 _ A10.out).mono ?_
  rintro e w30 ⟨rfl, hb⟩
  refine ⟨_, rfl, ?_⟩
  replace HO513 := kV HO513 hb
  replace HO517 := kV HO517 hb
  replace BK506 := kb BK506 hb
  replace BK507 := kb BK507 hb
  replace HB := kB HB hb
  (try clear hb)
  (try clear hb2)
  (try clear hk)
  (try clear hi)
  refine hK.out _ _ ⟨kc BK506 0, kc BK506 1, kc BK507 0, kc BK507 1⟩ (fun hHeld => ?_)
  clear hK K
  refine norm_ (a' := ?_) ?_ ?_
  rotate_left
  · show Act.put _ (some 22) _ = _
    simp only [Act.put, List.setIfInBounds_toArray, List.set_cons_zero, List.set_cons_succ, i64_w, i32_w]
    rfl
  refine pure_ (i := 16) (N := some 25) (v := ?_) (a' := ?_) #[T, T, T, T, T, T, T, T, T, T, T, T, T, T, T, T, T, O, O, O, O, O, O, O, O, O, O, O, O, O, O, O, O, O, O, O] rfl rfl (any_of HT_.out (by kernel_rfl)) (fun _ _ _ h => h) (Or.inl ⟨by rfl, ?_⟩) ?_ ?_; rotate_left; focus (intro w'; go_simp; with_reducible rfl)
  rotate_left; focus (simp only [Act.put, List.setIfInBounds_toArray, List.set_cons_zero, List.set_cons_succ, i64_w, i32_w]; rfl)
  refine pure_ (i := 17) (N := some 26) (v := ?_) (a' := ?_) #[T, T, T, T, T, T, T, T, T, T, T, T, T, T, T, T, T, T, O, O, O, O, O, O, O, O, O, O, O, O, O, O, O, O, O, O] rfl rfl (any_of HT_.out (by kernel_rfl)) (fun _ _ _ h => h) (Or.inl ⟨by rfl, ?_⟩) ?_ ?_; rotate_left; focus (intro w'; go_simp; with_reducible rfl)
  rotate_left; focus (simp only [Act.put, List.setIfInBounds_toArray, List.set_cons_zero, List.set_cons_succ, i64_w, i32_w]; rfl)
  refine pure_ (i := 18) (N := some 27) (v := ?_) (a' := ?_) #[T, T, T, T, T, T, T, T, T, T, T, T, T, T, T, T, T, T, T, O, O, O, O, O, O, O, O, O, O, O, O, O, O, O, O, O] rfl rfl (any_of HT_.out (by kernel_rfl)) (fun _ _ _ h => h) (Or.inl ⟨by rfl, ?_⟩) ?_ ?_; rotate_left; focus (intro w'; go_simp; with_reducible rfl)
  rotate_left; focus (simp only [Act.put, List.setIfInBounds_toArray, List.set_cons_zero, List.set_cons_succ, i64_w, i32_w]; rfl)
  refine pure_ (i := 19) (N := some 28) (v := ?_) (a' := ?_) #[T, T, T, T, T, T, T, T, T, T, T, T, T, T, T, T, T, T, T, T, O, O, O, O, O, O, O, O, O, O, O, O, O, O, O, O] rfl rfl (any_of HT_.out (by kernel_rfl)) (fun _ _ _ h => h) (Or.inl ⟨by rfl, ?_⟩) ?_ ?_; rotate_left; focus (intro w'; go_simp; with_reducible rfl)
  rotate_left; focus (simp only [Act.put, List.setIfInBounds_toArray, List.set_cons_zero, List.set_cons_succ, i64_w, i32_w]; rfl)
  refine pure_ (i := 20) (N := some 29) (v := ?_) (a' := ?_) #[T, T, T, T, T, T, T, T, T, T, T, T, T, T, T, T, T, T, T, T, T, O, O, O, O, O, O, O, O, O, O, O, O, O, O, O] rfl rfl (any_of HT_.out (by kernel_rfl)) (fun _ _ _ h => h) (Or.inl ⟨by rfl, ?_⟩) ?_ ?_; rotate_left; focus (intro w'; go_simp; with_reducible rfl)
  rotate_left; focus (simp only [Act.put, List.setIfInBounds_toArray, List.set_cons_zero, List.set_cons_succ, i64_w, i32_w]; rfl)
  refine take_ (i := 21) (N := some 30) (v := ?_) (a' := ?_) #[T, T, T, T, T, T, T, T, T, T, T, T, T, T, T, T, T, T, T, T, T, T, O, O, O, O, O, O, O, O, O, O, O, O, O, O] rfl rfl (take_ofW HT_.out HW_.out (by kernel_rfl)) (fun _ _ _ h => h) (Or.inl ⟨by rfl, ?_⟩) hHeld ?_ ?_; rotate_left; focus (rintro w' ⟨s0, s1, s2, s3⟩; go_simp; with_reducible rfl)
  rotate_left; focus (simp only [Act.put, List.setIfInBounds_toArray, List.set_cons_zero, List.set_cons_succ, i64_w, i32_w]; rfl)
  refine take_ (i := 22) (N := some 31) (v := ?_) (a' := ?_) #[T, T, T, T, T, T, T, T, T, T, T, T, T, T, T, T, T, T, T, T, T, T, T, O, O, O, O, O, O, O, O, O, O, O, O, O] rfl rfl (take_ofW HT_.out HW_.out (by kernel_rfl)) (fun _ _ _ h => h) (Or.inl ⟨by rfl, ?_⟩) hHeld ?_ ?_; rotate_left; focus (rintro w' ⟨s0, s1, s2, s3⟩; go_simp; with_reducible rfl)
  rotate_left; focus (simp only [Act.put, List.setIfInBounds_toArray, List.set_cons_zero, List.set_cons_succ, i64_w, i32_w]; rfl)
  refine pure_ (i := 23) (N := some 32) (v := ?_) (a' := ?_) #[T, T, T, T, T, T, T, T, T, T, T, T, T, T, T, T, T, T, T, T, T, T, T, T, O, O, O, O, O, O, O, O, O, O, O, O] rfl rfl (any_of HT_.out (by kernel_rfl)) (fun _ _ _ h => h) (Or.inl ⟨by rfl, ?_⟩) ?_ ?_; rotate_left; focus (intro w'; go_simp; with_reducible rfl)
  rotate_left; focus (simp only [Act.put, List.setIfInBounds_toArray, List.set_cons_zero, List.set_cons_succ, i64_w, i32_w]; rfl)
  refine pure_ (i := 24) (N := some 33) (v := ?_) (a' := ?_) #[T, T, T, T, T, T, T, T, T, T, T, T, T, T, T, T, T, T, T, T, T, T, T, T, T, O, O, O, O, O, O, O, O, O, O, O] rfl rfl (any_of HT_.out (by kernel_rfl)) (fun _ _ _ h => h) (Or.inl ⟨by rfl, ?_⟩) ?_ ?_; rotate_left; focus (intro w'; go_simp; with_reducible rfl)
  rotate_left; focus (simp only [Act.put, List.setIfInBounds_toArray, List.set_cons_zero, List.set_cons_succ, i64_w, i32_w]; rfl)
  refine pure_ (i := 25) (N := some 34) (v := ?_) (a' := ?_) #[T, T, T, T, T, T, T, T, T, T, T, T, T, T, T, T, T, T, T, T, T, T, T, T, T, T, O, O, O, O, O, O, O, O, O, O] rfl rfl (any_of HT_.out (by kernel_rfl)) (fun _ _ _ h => h) (Or.inl ⟨by rfl, ?_⟩) ?_ ?_; rotate_left; focus (intro w'; go_simp; with_reducible rfl)
  rotate_left; focus (simp only [Act.put, List.setIfInBounds_toArray, List.set_cons_zero, List.set_cons_succ, i64_w, i32_w]; rfl)
  refine pure_ (i := 26) (N := some 35) (v := ?_) (a' := ?_) #[T, T, T, T, T, T, T, T, T, T, T, T, T, T, T, T, T, T, T, T, T, T, T, T, T, T, T, O, O, O, O, O, O, O, O, O] rfl rfl (any_of HT_.out (by kernel_rfl)) (fun _ _ _ h => h) (Or.inl ⟨by rfl, ?_⟩) ?_ ?_; rotate_left; focus (intro w'; go_simp; with_reducible rfl)
  rotate_left; focus (simp only [Act.put, List.setIfInBounds_toArray, List.set_cons_zero, List.set_cons_succ, i64_w, i32_w]; rfl)
  refine take_ (i := 27) (N := some 36) (v := ?_) (a' := ?_) #[T, T, T, T, T, T, T, T, T, T, T, T, T, T, T, T, T, T, T, T, T, T, T, T, T, T, T, T, O, O, O, O, O, O, O, O] rfl rfl (take_ofW HT_.out HW_.out (by kernel_rfl)) (fun _ _ _ h => h) (Or.inl ⟨by rfl, ?_⟩) hHeld ?_ ?_; rotate_left; focus (rintro w' ⟨s0, s1, s2, s3⟩; go_simp; with_reducible rfl)
  rotate_left; focus (simp only [Act.put, List.setIfInBounds_toArray, List.set_cons_zero, List.set_cons_succ, i64_w, i32_w]; rfl)
  refine take_ (i := 29) (N := some 38) (v := ?_) (a' := ?_) #[T, T, T, T, T, T, T, T, T, T, T, T, T, T, T, T, T, T, T, T, T, T, T, T, T, T, T, T, O, T, O, O, O, O, O, O] rfl rfl (take_ofW HT_.out HW_.out (by kernel_rfl)) (fun _ _ _ h => h) (Or.inl ⟨by rfl, ?_⟩) hHeld ?_ ?_; rotate_left; focus (rintro w' ⟨s0, s1, s2, s3⟩; go_simp; with_reducible rfl)
  rotate_left; focus (simp only [Act.put, List.setIfInBounds_toArray, List.set_cons_zero, List.set_cons_succ, i64_w, i32_w]; rfl)
  refine one_ (i := 28) (N := some 37) #[T, T, T, T, T, T, T, T, T, T, T, T, T, T, T, T, T, T, T, T, T, T, T, T, T, T, T, T, T, T, O, O, O, O, O, O] rfl rfl (one_of HT_.out (by kernel_rfl)) (by decide) (fun K hK => ?_)
  refine goes_ Try.func26 (by kernel_rfl) rfl #[.agg #[.int .i64 a0_0, .int .u64 a0_1]] (by rfl) rfl rfl (by (try simp only [List.map_toArray, List.map_cons, List.map_nil]); first | done | rfl | (simp only [List.length_drop, List.length_take]; rfl)) ?_
  with_reducible refine (wide_Sign.calls a0_0 a0_1 t520 _ A13.out).mono ?_
  rintro e w31 ⟨rfl, hb⟩
  refine ⟨_, rfl, ?_⟩
  replace HO513 := kV HO513 hb
  replace HO517 := kV HO517 hb
  replace BK506 := kb BK506 hb
  replace BK507 := kb BK507 hb
  replace HB := kB HB hb
  (try clear hb)
  (try clear hb2)
  (try clear hk)
  (try clear hi)
  refine hK.out _ _ ⟨kc BK506 0, kc BK506 1, kc BK507 0, kc BK507 1⟩ (fun hHeld => ?_)
  clear hK K
  refine norm_ (a' := ?_) ?_ ?_
  rotate_left
  · show Act.put _ (some 37) _ = _
    simp only [Act.put, List.setIfInBounds_toArray, List.set_cons_zero, List.set_cons_succ, i64_w, i32_w]
    rfl
  refine one_ (i := 30) (N := some 39) #[T, T, T, T, T, T, T, T, T, T, T, T, T, T, T, T, T, T, T, T, T, T, T, T, T, T, T, T, T, T, T, O, O, O, O, O] rfl rfl (one_of HT_.out (by kernel_rfl)) (by decide) (fun K hK => ?_)
  refine goes_ Try.func19 (by kernel_rfl) rfl #[.agg #[.int .i64 a0_0, .int .u64 a0_1]] (by rfl) rfl rfl (by (try simp only [List.map_toArray, List.map_cons, List.map_nil]); first | done | rfl | (simp only [List.length_drop, List.length_take]; rfl)) ?_
  with_reducible refine (cobweblaw01_num.calls k a0_0 a0_1 t521 t522 _ A14.out).mono ?_
  rintro e w32 ⟨v523, rfl, ho0, hb⟩
  refine ⟨_, rfl, ?_⟩
  have HO524 := Aside0.mk (Kd.V_lower (Kd.V_mono (ok' := fun k_ => k_ ≠ gb506 ∧ k_ ≠ gb507) ho0 (fun k_ hk_ => ⟨(Kd.freshB (g := gb506) (o := .cells #[.int .i64 a0_0, .int .u64 a0_1] 24 (0, 0)) (kx BK506) k_ hk_), (Kd.freshB (g := gb507) (o := .cells #[.int .i64 a1_0, .int .u64 a1_1] 24 (0, 0)) (kx BK507) k_ hk_)⟩)) (below_size (ky HB)))
  replace HO513 := kV HO513 hb
  replace HO517 := kV HO517 hb
  replace BK506 := kb BK506 hb
  replace BK507 := kb BK507 hb
  replace HB := kB HB hb
  (try clear hb)
  (try clear hb2)
  (try clear hk)
  (try clear hi)
  (try clear ho0)
  refine hK.out _ _ ⟨kc BK506 0, kc BK506 1, kc BK507 0, kc BK507 1⟩ (fun hHeld => ?_)
  clear hK K
  refine norm_ (a' := ?_) ?_ ?_
  rotate_left
  · show Act.put _ (some 39) _ = _
    simp only [Act.put, List.setIfInBounds_toArray, List.set_cons_zero, List.set_cons_succ, i64_w, i32_w]
    rfl
  refine one_ (i := 31) (N := some 40) #[T, T, T, T, T, T, T, T, T, T, T, T, T, T, T, T, T, T, T, T, T, T, T, T, T, T, T, T, T, T, T, T, O, O, O, O] rfl rfl (one_of HT_.out (by kernel_rfl)) (by decide) (fun K hK => ?_)
  refine goes_ Try.func21 (by kernel_rfl) rfl #[.int .i64 0] (by rfl) rfl rfl (by (try simp only [List.map_toArray, List.map_cons, List.map_nil]); first | done | rfl | (simp only [List.length_drop, List.length_take]; rfl)) ?_
  with_reducible refine (cobwebref01_Of.calls k 0 t525 t526 _ A15.out).mono ?_
  rintro e w33 ⟨v527, rfl, ho0, hb⟩
  refine ⟨_, rfl, ?_⟩
  have n0_ := Aside0.mk (Kd.V_elder' (kv HO513) (Kd.R_base ho0) hb)
  have n1_ := Aside0.mk (Kd.V_elder' (kv HO517) (Kd.R_base ho0) hb)
  have n2_ := Aside0.mk (Kd.V_elder' (kv HO524) (Kd.R_base ho0) hb)
  have n3_ := Aside0.mk (Kd.R_lower ho0 (below_size (ky HB)))
  have n4_ := kb BK506 hb
  have n5_ := kb BK507 hb
  have n6_ := kB HB hb
  clear HO513; clear HO517; clear HO524; clear BK506; clear BK507; clear HB; have HO513 := n0_; have HO517 := n1_; have HO524 := n2_; have HO528 := n3_; have BK506 := n4_; have BK507 := n5_; have HB := n6_
  clear n0_ n1_ n2_ n3_ n4_ n5_ n6_
  (try clear hb)
  (try clear hb2)
  (try clear hk)
  (try clear hi)
  (try clear ho0)
  obtain ⟨Ao34, co34, eo34⟩ := Kd.V_slice HO524.out
  (first | subst eo34 | (injection eo34 with f1_ f2_ f3_; have f4_ := f1_.symm; have f5_ := f3_.symm; clear f1_ f2_ f3_; subst f4_; subst f5_))
  obtain ⟨Ao35, co35, eo35⟩ := Kd.R_slice HO528.out
  (first | subst eo35 | (injection eo35 with f1_ f2_ f3_; have f4_ := f1_.symm; have f5_ := f3_.symm; clear f1_ f2_ f3_; subst f4_; subst f5_))
  refine hK.out _ _ ⟨kc BK506 0, kc BK506 1, kc BK507 0, kc BK507 1⟩ (fun hHeld => ?_)
  clear hK K
  refine norm_ (a' := ?_) ?_ ?_
  rotate_left
  · show Act.put _ (some 40) _ = _
    simp only [Act.put, List.setIfInBounds_toArray, List.set_cons_zero, List.set_cons_succ, i64_w, i32_w]
    rfl
  refine one_ (i := 32) (N := some 41) #[T, T, T, T, T, T, T, T, T, T, T, T, T, T, T, T, T, T, T, T, T, T, T, T, T, T, T, T, T, T, T, T, T, O, O, O] rfl rfl (one_of HT_.out (by kernel_rfl)) (by decide) (fun K hK => ?_)
  refine goes_ Try.func25 (by kernel_rfl) rfl #[.agg #[.bool t521, .slice Ao34 t522.length co34], .agg #[.bool t525, .slice Ao35 t526.length co35]] (by rfl) rfl rfl (by (try simp only [List.map_toArray, List.map_cons, List.map_nil]); first | done | rfl | (simp only [List.length_drop, List.length_take]; rfl)) ?_
  with_reducible refine (cobwebref01_Cmp.calls k t521 _ _ t522 t525 _ _ t526 t529 _ ?side1 ?side2 ?side3 ?side4 A16.out).mono ?_
  (case side1 => repeat (first | exact (Kd.V_reads' HO524.out).2.2 | (with_reducible refine Kd.C_alloc ?_ _) | (with_reducible refine Kd.C_drewN ?_ _) | (with_reducible refine Kd.C_drew ?_)))
  (case side2 => exact (Kd.V_reads' HO524.out).2.1)
  (case side3 => repeat (first | exact (Kd.R_reads' HO528.out).2.2 | (with_reducible refine Kd.C_alloc ?_ _) | (with_reducible refine Kd.C_drewN ?_ _) | (with_reducible refine Kd.C_drew ?_)))
  (case side4 => exact (Kd.R_reads' HO528.out).2.1)
  rintro e w36 ⟨rfl, hb⟩
  refine ⟨_, rfl, ?_⟩
  replace HO513 := kV HO513 hb
  replace HO517 := kV HO517 hb
  replace HO524 := kV HO524 hb
  replace HO528 := kR HO528 hb
  replace BK506 := kb BK506 hb
  replace BK507 := kb BK507 hb
  replace HB := kB HB hb
  (try clear hb)
  (try clear hb2)
  (try clear hk)
  (try clear hi)
  refine hK.out _ _ ⟨kc BK506 0, kc BK506 1, kc BK507 0, kc BK507 1⟩ (fun hHeld => ?_)
  clear hK K
  refine norm_ (a' := ?_) ?_ ?_
  rotate_left
  · show Act.put _ (some 41) _ = _
    simp only [Act.put, List.setIfInBounds_toArray, List.set_cons_zero, List.set_cons_succ, i64_w, i32_w]
    rfl
  refine pure_ (i := 33) (N := some 42) (v := ?_) (a' := ?_) #[T, T, T, T, T, T, T, T, T, T, T, T, T, T, T, T, T, T, T, T, T, T, T, T, T, T, T, T, T, T, T, T, T, T, O, O] rfl rfl (any_of HT_.out (by kernel_rfl)) (fun _ _ _ h => h) (Or.inl ⟨by rfl, ?_⟩) ?_ ?_; rotate_left; focus (intro w'; go_simp; with_reducible rfl)
  rotate_left; focus (simp only [Act.put, List.setIfInBounds_toArray, List.set_cons_zero, List.set_cons_succ, i64_w, i32_w]; rfl)
  refine pure_ (i := 34) (N := some 43) (v := ?_) (a' := ?_) #[T, T, T, T, T, T, T, T, T, T, T, T, T, T, T, T, T, T, T, T, T, T, T, T, T, T, T, T, T, T, T, T, T, T, T, O] rfl rfl (any_of HT_.out (by kernel_rfl)) (fun _ _ _ h => h) (Or.inl ⟨by rfl, ?_⟩) ?_ ?_; rotate_left; focus (intro w'; go_simp; with_reducible rfl)
  rotate_left; focus (simp only [Act.put, List.setIfInBounds_toArray, List.set_cons_zero, List.set_cons_succ, i64_w, i32_w]; rfl)
  refine pure_ (i := 35) (N := some 4) (v := ?_) (a' := ?_) #[T, T, T, T, T, T, T, T, T, T, T, T, T, T, T, T, T, T, T, T, T, T, T, T, T, T, T, T, T, T, T, T, T, T, T, T] rfl rfl (any_of HT_.out (by kernel_rfl)) (fun _ _ _ h => h) (Or.inl ⟨by rfl, ?_⟩) ?_ ?_; rotate_left; focus (intro w'; go_simp; with_reducible rfl)
  rotate_left; focus (simp only [Act.put, List.setIfInBounds_toArray, List.set_cons_zero, List.set_cons_succ, i64_w, i32_w]; rfl)
  refine done_ (done_of HT_.out (by kernel_rfl)) ?_
  try go_wp2
  go_ret
  exact ⟨by first | rfl | (simp [errW_none, errW_some] <;> rfl) | (simp [*, errW_none, errW_some] <;> rfl), ky HB⟩
end Go.Proofs.Ytpjbniihdndlmaa.Q
