-- Printed by wip/pp.sh (a session's own turning of the kit's print) for this seat.
import Derived.Test.YtpjbniihdndlmabQx0
import Derived.Test.YtpjbniihdndlmabQx3
import Derived.Test.YtpjbniihdndlmabQx4
import Derived.Test.YtpjbniihdndlmabQx25
import Derived.Test.YtpjbniihdndlmabQx26
import Derived.Test.YtpjbniihdndlmabQx29
import Derived.Test.YtpjbniihdndlmabQx31
namespace Go.Proofs.Ytpjbniihdndlmab.Q
open Go.RowKit Go.Proofs.YtpjbniihdndlmabW.PrintWords Go.Proofs.YtpjbniihdndlmabW.PrintLast Go.Proofs.YtpjbniihdndlmabW.PrintMore
open Go.Proofs.Ytpjbniihdndlmab.H
attribute [local go_sem] hq_add64 hq_sub64 hq_not64 add64c_nn sub64c_nn sub64c_le
attribute [local go_sem] max2_int min2_int max_two min_two max_three min_three max_four min_four   -- for this text's walks alone
set_option linter.unusedVariables false
set_option linter.unusedSimpArgs false

attribute [local go_sem high] eqA60 eqA62
/-! ### cobweblaw03_GridCenters: function 10 -/
def cobweblaw03_GridCenters.f (k : Nat) (a0 : Int) (a1 : Int) (a2 : Int) : Option (Bool) := (grid_Center.f a0 a1 a2).bind fun bt977 => ((grid_Sides.f a0 a1 a2).bind fun bt980 => ((cobwebref03_In.f k a0 a1 a2).bind fun t986 => (if t986 = true then ((cobwebref03_Size.f k a2).bind fun t989 => ((cobweblaw03_alive.f k).bind fun t990 => (if t990 = true then ((grid_In.f a0 a1 a2).bind fun t991 => (if t991 = true then (if (bt977.1 == (wrap64 (t989 * a0)) && (bt977.2 == (wrap64 (t989 * a1)))) = true then (if (bt980.1 == (wrap64 ((wrap64 ((wrap64 (2 * t989)) * a0)) - t989)) && (bt980.2.1 == (wrap64 ((wrap64 ((wrap64 (2 * t989)) * a1)) - t989)))) = true then (if (bt980.2.2.1 == (wrap64 ((wrap64 ((wrap64 (2 * t989)) * a0)) + t989)) && (bt980.2.2.2 == (wrap64 ((wrap64 ((wrap64 (2 * t989)) * a1)) + t989)))) = true then ((grid_Of.f bt977.1 bt977.2 a2).bind fun bt992 => (some (bt992.1 == a0 && (bt992.2 == a1)))) else (none)) else (none)) else (none)) else (none))) else (none)))) else ((cobweblaw03_alive.f k).bind fun t987 => (if t987 = true then ((grid_In.f a0 a1 a2).bind fun t988 => (if t988 = true then (none) else (if (bt977.1 == 0 && (bt977.2 == 0)) = true then (if (bt980.1 == 0 && (bt980.2.1 == 0)) = true then (some (bt980.2.2.1 == 0 && (bt980.2.2.2 == 0))) else (none)) else (none)))) else (none))))))
theorem cobweblaw03_GridCenters.mono : ∀ a0 a1 a2 k, LeO (cobweblaw03_GridCenters.f k a0 a1 a2) (cobweblaw03_GridCenters.f (k + 1) a0 a1 a2) := by
  intro a0 a1 a2 k
  unfold cobweblaw03_GridCenters.f
  repeat' first
      | (with_reducible exact cobweblaw03_alive.mono _)
      | (with_reducible exact cobwebref03_In.mono _ _ _ _)
      | (with_reducible exact cobwebref03_Size.mono _ _)
      | (with_reducible exact LeO.refl _)
      | (with_reducible exact LeO.none _)
      | (with_reducible refine LeO.ite ?_ ?_)
      | (with_reducible refine LeO.bind ?_ (fun _ => ?_))
      | exact cobweblaw03_alive.mono _
      | exact cobwebref03_In.mono _ _ _ _
      | exact cobwebref03_Size.mono _ _
      | exact LeO.none _
      | refine LeO.ite ?_ ?_
      | refine LeO.bind ?_ (fun _ => ?_)
def cobweblaw03_GridCenters.T7 : Bool × List (List Nat × List Nat) := (true, [([], []), ([0, 0], [0]), ([1], [1]), ([1], [1]), ([2, 3, 1, 1], [1, 2, 3]), ([1, 4], [1, 4]), ([5, 4], [5]), ([6], [6]), ([6], [6]), ([6], [6]), ([8, 9, 6], [6, 8, 9]), ([6], [6]), ([6], [6]), ([11, 12, 6], [6, 11, 12]), ([10, 13, 6], [6, 10, 13]), ([7, 14, 6], [6, 7, 14]), ([6, 15], [6, 15]), ([16, 6], [16]), ([17], [17]), ([17], [17]), ([19, 17], [17, 19]), ([17], [17]), ([20, 21, 17], [17, 20, 21]), ([17], [17]), ([22, 23, 17], [17, 22, 23]), ([17], [17]), ([25, 17], [17, 25]), ([17], [17]), ([26, 27, 17], [17, 26, 27]), ([17], [17]), ([28, 29, 17], [17, 28, 29]), ([24, 30, 17], [17, 24, 30]), ([18, 31, 17], [17, 18, 31]), ([17, 32], [17, 32]), ([33, 17], [33]), ([34], [34]), ([34], [34]), ([36, 34], [34, 36]), ([34], [34]), ([37, 38, 34], [34, 37, 38]), ([34], [34]), ([39, 40, 34], [34, 39, 40]), ([34], [34]), ([42, 34], [34, 42]), ([34], [34]), ([43, 44, 34], [34, 43, 44]), ([34], [34]), ([45, 46, 34], [34, 45, 46]), ([41, 47, 34], [34, 41, 47]), ([35, 48, 34], [34, 35, 48]), ([34, 49], [34, 49]), ([50, 34], [50]), ([51], [51]), ([51], [51]), ([52, 53, 51, 51], [51, 52, 53]), ([51], [51]), ([54, 55, 51], [51, 54, 55]), ([51, 56], [51, 56]), ([57, 54, 0, 1, 2, 3, 4, 5, 6, 7, 8, 9, 10, 11, 12, 13, 14, 15, 16, 17, 18, 19, 20, 21, 22, 23, 24, 25, 26, 27, 28, 29, 30, 31, 32, 33, 34, 35, 36, 37, 38, 39, 40, 41, 42, 43, 44, 45, 46, 47, 48, 49, 50, 51, 52, 53, 54, 55, 56, 57], [57])])
def cobweblaw03_GridCenters.B7 : List Nat := [0, 1, 3, 3, 15, 31, 63, 127, 127, 127, 895, 127, 127, 6271, 16255, 32767, 65535, 131071, 262143, 262143, 786431, 262143, 3932159, 262143, 16515071, 262143, 33816575, 262143, 235143167, 262143, 1040449535, 2147221503, 4294967295, 8589934591, 17179869183, 34359738367, 34359738367, 103079215103, 34359738367, 515396075519, 34359738367, 2164663517183, 34359738367, 4432406249471, 34359738367, 30820685316095, 34359738367, 136373801582591, 281440616972287, 562949953421311, 1125899906842623, 2251799813685247, 4503599627370495, 4503599627370495, 18014398509481983, 4503599627370495, 72057594037927935, 144115188075855871, 288230376151711743]
theorem cobweblaw03_GridCenters.tab7 : rtab .any (opsOf Try.f10 7) = cobweblaw03_GridCenters.T7 := by kernel_rfl
theorem cobweblaw03_GridCenters.bits7 : waitsOk cobweblaw03_GridCenters.T7.2 cobweblaw03_GridCenters.B7 = true := by kernel_rfl
set_option maxHeartbeats 8000000 in
set_option maxRecDepth 100000 in
theorem cobweblaw03_GridCenters.calls (k : Nat) (a0 : Int) (a1 : Int) (a2 : Int) (r : Bool) (w : World) (h : cobweblaw03_GridCenters.f k a0 a1 a2 = some r) :
    Calls Try.prog 10 #[.int .i64 a0, .int .i64 a1, .int .i64 a2] w fun e w' => e = .returned (.bool r) ∧ Below w.heap.size w w' := by
  have hu60 := Try.underlying60
  have hu62 := Try.underlying62
  have HB := Aside0.mk (Below.refl w.heap.size w)
  have H : ((grid_Center.f a0 a1 a2).bind fun bt977 => ((grid_Sides.f a0 a1 a2).bind fun bt980 => ((cobwebref03_In.f k a0 a1 a2).bind fun t986 => (if t986 = true then ((cobwebref03_Size.f k a2).bind fun t989 => ((cobweblaw03_alive.f k).bind fun t990 => (if t990 = true then ((grid_In.f a0 a1 a2).bind fun t991 => (if t991 = true then (if (bt977.1 == (wrap64 (t989 * a0)) && (bt977.2 == (wrap64 (t989 * a1)))) = true then (if (bt980.1 == (wrap64 ((wrap64 ((wrap64 (2 * t989)) * a0)) - t989)) && (bt980.2.1 == (wrap64 ((wrap64 ((wrap64 (2 * t989)) * a1)) - t989)))) = true then (if (bt980.2.2.1 == (wrap64 ((wrap64 ((wrap64 (2 * t989)) * a0)) + t989)) && (bt980.2.2.2 == (wrap64 ((wrap64 ((wrap64 (2 * t989)) * a1)) + t989)))) = true then ((grid_Of.f bt977.1 bt977.2 a2).bind fun bt992 => (some (bt992.1 == a0 && (bt992.2 == a1)))) else (none)) else (none)) else (none)) else (none))) else (none)))) else ((cobweblaw03_alive.f k).bind fun t987 => (if t987 = true then ((grid_In.f a0 a1 a2).bind fun t988 => (if t988 = true then (none) else (if (bt977.1 == 0 && (bt977.2 == 0)) = true then (if (bt980.1 == 0 && (bt980.2.1 == 0)) = true then (some (bt980.2.2.1 == 0 && (bt980.2.2.2 == 0))) else (none)) else (none)))) else (none))))))) = some r := h
  clear h
  replace H := Option.bind_eq_some_iff.mp H
  obtain ⟨⟨t977, t978⟩, A40, H⟩ := H
  replace H : ((grid_Sides.f a0 a1 a2).bind fun bt980 => ((cobwebref03_In.f k a0 a1 a2).bind fun t986 => (if t986 = true then ((cobwebref03_Size.f k a2).bind fun t989 => ((cobweblaw03_alive.f k).bind fun t990 => (if t990 = true then ((grid_In.f a0 a1 a2).bind fun t991 => (if t991 = true then (if (t977 == (wrap64 (t989 * a0)) && (t978 == (wrap64 (t989 * a1)))) = true then (if (bt980.1 == (wrap64 ((wrap64 ((wrap64 (2 * t989)) * a0)) - t989)) && (bt980.2.1 == (wrap64 ((wrap64 ((wrap64 (2 * t989)) * a1)) - t989)))) = true then (if (bt980.2.2.1 == (wrap64 ((wrap64 ((wrap64 (2 * t989)) * a0)) + t989)) && (bt980.2.2.2 == (wrap64 ((wrap64 ((wrap64 (2 * t989)) * a1)) + t989)))) = true then ((grid_Of.f t977 t978 a2).bind fun bt992 => (some (bt992.1 == a0 && (bt992.2 == a1)))) else (none)) else (none)) else (none)) else (none))) else (none)))) else ((cobweblaw03_alive.f k).bind fun t987 => (if t987 = true then ((grid_In.f a0 a1 a2).bind fun t988 => (if t988 = true then (none) else (if (t977 == 0 && (t978 == 0)) = true then (if (bt980.1 == 0 && (bt980.2.1 == 0)) = true then (some (bt980.2.2.1 == 0 && (bt980.2.2.2 == 0))) else (none)) else (none)))) else (none)))))) = some r := H
  have A4 := Aside0.mk A40
  clear A40
  replace H := Option.bind_eq_some_iff.mp H
  obtain ⟨⟨t980, t981, t982, t983⟩, A50, H⟩ := H
  replace H : ((cobwebref03_In.f k a0 a1 a2).bind fun t986 => (if t986 = true then ((cobwebref03_Size.f k a2).bind fun t989 => ((cobweblaw03_alive.f k).bind fun t990 => (if t990 = true then ((grid_In.f a0 a1 a2).bind fun t991 => (if t991 = true then (if (t977 == (wrap64 (t989 * a0)) && (t978 == (wrap64 (t989 * a1)))) = true then (if (t980 == (wrap64 ((wrap64 ((wrap64 (2 * t989)) * a0)) - t989)) && (t981 == (wrap64 ((wrap64 ((wrap64 (2 * t989)) * a1)) - t989)))) = true then (if (t982 == (wrap64 ((wrap64 ((wrap64 (2 * t989)) * a0)) + t989)) && (t983 == (wrap64 ((wrap64 ((wrap64 (2 * t989)) * a1)) + t989)))) = true then ((grid_Of.f t977 t978 a2).bind fun bt992 => (some (bt992.1 == a0 && (bt992.2 == a1)))) else (none)) else (none)) else (none)) else (none))) else (none)))) else ((cobweblaw03_alive.f k).bind fun t987 => (if t987 = true then ((grid_In.f a0 a1 a2).bind fun t988 => (if t988 = true then (none) else (if (t977 == 0 && (t978 == 0)) = true then (if (t980 == 0 && (t981 == 0)) = true then (some (t982 == 0 && (t983 == 0))) else (none)) else (none)))) else (none))))) = some r := H
  have A5 := Aside0.mk A50
  clear A50
  replace H := Option.bind_eq_some_iff.mp H
  obtain ⟨t986, A60, H⟩ := H
  replace H : (if t986 = true then ((cobwebref03_Size.f k a2).bind fun t989 => ((cobweblaw03_alive.f k).bind fun t990 => (if t990 = true then ((grid_In.f a0 a1 a2).bind fun t991 => (if t991 = true then (if (t977 == (wrap64 (t989 * a0)) && (t978 == (wrap64 (t989 * a1)))) = true then (if (t980 == (wrap64 ((wrap64 ((wrap64 (2 * t989)) * a0)) - t989)) && (t981 == (wrap64 ((wrap64 ((wrap64 (2 * t989)) * a1)) - t989)))) = true then (if (t982 == (wrap64 ((wrap64 ((wrap64 (2 * t989)) * a0)) + t989)) && (t983 == (wrap64 ((wrap64 ((wrap64 (2 * t989)) * a1)) + t989)))) = true then ((grid_Of.f t977 t978 a2).bind fun bt992 => (some (bt992.1 == a0 && (bt992.2 == a1)))) else (none)) else (none)) else (none)) else (none))) else (none)))) else ((cobweblaw03_alive.f k).bind fun t987 => (if t987 = true then ((grid_In.f a0 a1 a2).bind fun t988 => (if t988 = true then (none) else (if (t977 == 0 && (t978 == 0)) = true then (if (t980 == 0 && (t981 == 0)) = true then (some (t982 == 0 && (t983 == 0))) else (none)) else (none)))) else (none)))) = some r := H
  have A6 := Aside0.mk A60
  clear A60
  by_cases c7 : t986 = true
  rotate_left
  · replace c7 := Bool.eq_false_iff.mpr c7
    subst c7
    have H1 : ((cobweblaw03_alive.f k).bind fun t987 => (if t987 = true then ((grid_In.f a0 a1 a2).bind fun t988 => (if t988 = true then (none) else (if (t977 == 0 && (t978 == 0)) = true then (if (t980 == 0 && (t981 == 0)) = true then (some (t982 == 0 && (t983 == 0))) else (none)) else (none)))) else (none))) = some r := by rw [if_neg (show ¬ (false = true) by decide)] at H; exact H
    clear H; have H := H1; clear H1
    replace H := Option.bind_eq_some_iff.mp H
    obtain ⟨t987, A400, H⟩ := H
    replace H : (if t987 = true then ((grid_In.f a0 a1 a2).bind fun t988 => (if t988 = true then (none) else (if (t977 == 0 && (t978 == 0)) = true then (if (t980 == 0 && (t981 == 0)) = true then (some (t982 == 0 && (t983 == 0))) else (none)) else (none)))) else (none)) = some r := H
    have A40 := Aside0.mk A400
    clear A400
    by_cases c41 : t987 = true
    rotate_left
    · replace c41 := Bool.eq_false_iff.mpr c41
      subst c41
      have H1 : (none) = some r := by rw [if_neg (show ¬ (false = true) by decide)] at H; exact H
      clear H; have H := H1; clear H1
      exact absurd H (by simp)

    subst c41
    have H1 : ((grid_In.f a0 a1 a2).bind fun t988 => (if t988 = true then (none) else (if (t977 == 0 && (t978 == 0)) = true then (if (t980 == 0 && (t981 == 0)) = true then (some (t982 == 0 && (t983 == 0))) else (none)) else (none)))) = some r := by rw [if_pos rfl] at H; exact H
    clear H; have H := H1; clear H1
    replace H := Option.bind_eq_some_iff.mp H
    obtain ⟨t988, A420, H⟩ := H
    replace H : (if t988 = true then (none) else (if (t977 == 0 && (t978 == 0)) = true then (if (t980 == 0 && (t981 == 0)) = true then (some (t982 == 0 && (t983 == 0))) else (none)) else (none))) = some r := H
    have A42 := Aside0.mk A420
    clear A420
    by_cases c43 : t988 = true
    · subst c43
      have H1 : (none) = some r := by rw [if_pos rfl] at H; exact H
      clear H; have H := H1; clear H1
      exact absurd H (by simp)
    replace c43 := Bool.eq_false_iff.mpr c43
    subst c43
    have H1 : (if (t977 == 0 && (t978 == 0)) = true then (if (t980 == 0 && (t981 == 0)) = true then (some (t982 == 0 && (t983 == 0))) else (none)) else (none)) = some r := by rw [if_neg (show ¬ (false = true) by decide)] at H; exact H
    clear H; have H := H1; clear H1
    by_cases c44 : (t977 == 0 && (t978 == 0)) = true
    rotate_left
    · rw [if_neg c44] at H
      exact absurd H (by simp)
    rw [if_pos c44] at H
    have c44b0 : (t977 == 0 && (t978 == 0)) = true := c44
    (try (have c44b1 : decide (t977 = 0 && (t978 == 0)) = true := by simpa using c44))
    (try (have c44b2 : (t977 == 0 && (t978 == 0)) = true := by simpa using c44))
    clear c44
    by_cases c45 : (t980 == 0 && (t981 == 0)) = true
    rotate_left
    · rw [if_neg c45] at H
      exact absurd H (by simp)
    rw [if_pos c45] at H
    have c45b0 : (t980 == 0 && (t981 == 0)) = true := c45
    (try (have c45b1 : decide (t980 = 0 && (t981 == 0)) = true := by simpa using c45))
    (try (have c45b2 : (t980 == 0 && (t981 == 0)) = true := by simpa using c45))
    clear c45
    obtain rfl := Option.some.inj H
    go_enter Try.func10, Try.ntmps10
    go_wp2_with (first | ((with_reducible refine gate_dst (N := 7) rfl ?_); refine box_event ?hg (N := 7) ?hd (cs := #[.int .i64 0, .int .i64 0]) (t := 60) ?hr ?_; (case hd => rfl); (case hg => rfl); (case hr => first | (go_simp; done) | (go_simp; rfl)); intro gb976 hg w46 hbox hb; have BK976 := Aside0.mk (hbox); have GW976 := kS HB hg; have GE976 := kS HB hg; replace HB := kB HB hb; clear hb hbox hg; have hcz47_0 : w46.cell? ⟨gb976, 0, none⟩ = some (.int .i64 0) := kc BK976 0; have hcz47_1 : w46.cell? ⟨gb976, 1, none⟩ = some (.int .i64 0) := kc BK976 1; have hfz47_0 := blk_frozen BK976.out 0; have hfz47_1 := blk_frozen BK976.out 1) | ((with_reducible refine gate_callee (f := 41) rfl ?_); refine goesL_ (some 17) rfl rfl Try.func41 (by kernel_rfl) rfl #[.agg #[.int .i64 a0, .int .i64 a1], .int .i64 a2] rfl (by (try simp only [List.map_toArray, List.map_cons, List.map_nil]); first | done | rfl | (simp only [List.length_drop, List.length_take]; rfl)) ?_; (with_reducible refine (grid_Center.calls a0 a1 a2 t977 t978 _ A4.out).mono ?_); rintro e w48 ⟨rfl, hb⟩; refine ⟨_, rfl, ?_⟩; have n0_ := Aside0.mk (blk_below (g := gb976) (o := .cells #[.int .i64 a0, .int .i64 a1] 60 (0, 0)) (by (with_reducible repeat (first | refine blk_drewN ?_ _ | refine blk_drew ?_ | refine blk_alloc ?_ _)); refine blk_put (cs := #[.int .i64 a0, .int .i64 0]) ?_ 1 _ rfl; (with_reducible repeat (first | refine blk_drewN ?_ _ | refine blk_drew ?_ | refine blk_alloc ?_ _)); refine blk_put (cs := #[.int .i64 0, .int .i64 0]) ?_ 0 _ rfl; (with_reducible repeat (first | refine blk_drewN ?_ _ | refine blk_drew ?_ | refine blk_alloc ?_ _)); exact BK976.out) hb); have n1_ := kB HB hb; clear BK976; clear HB; have BK976 := n0_; have HB := n1_; clear n0_ n1_; (try clear hb); (try clear hb2); (try clear hk); (try clear hi)) | ((with_reducible refine gate_dst (N := 8) rfl ?_); refine box_event ?hg (N := 8) ?hd (cs := #[.int .i64 0, .int .i64 0]) (t := 62) ?hr ?_; (case hd => rfl); (case hg => rfl); (case hr => first | (go_simp; done) | (go_simp; rfl)); intro gb979 hg w49 hbox hb; have BK979 := Aside0.mk (hbox); have GW979 := kS HB hg; have GE979 := kS HB hg; have NB976_979 := kN BK976 hg; have NB979_976 := kM BK976 hg; replace BK976 := kb BK976 hb; replace HB := kB HB hb; clear hb hbox hg; have hnb50 := NB979_976.out; have hnc50 := NB976_979.out; have hcz51_0 : w49.cell? ⟨gb979, 0, none⟩ = some (.int .i64 0) := kc BK979 0; have hcz51_1 : w49.cell? ⟨gb979, 1, none⟩ = some (.int .i64 0) := kc BK979 1; have hfz51_0 := blk_frozen BK979.out 0; have hfz51_1 := blk_frozen BK979.out 1; have hcz52_0 : w49.cell? ⟨gb976, 0, none⟩ = some (.int .i64 a0) := kc BK976 0; have hcz52_1 : w49.cell? ⟨gb976, 1, none⟩ = some (.int .i64 a1) := kc BK976 1; have hfz52_0 := blk_frozen BK976.out 0; have hfz52_1 := blk_frozen BK976.out 1) | ((with_reducible refine gate_callee (f := 42) rfl ?_); refine goesL_ (some 21) rfl rfl Try.func42 (by kernel_rfl) rfl #[.agg #[.int .i64 a0, .int .i64 a1], .int .i64 a2] rfl (by (try simp only [List.map_toArray, List.map_cons, List.map_nil]); first | done | rfl | (simp only [List.length_drop, List.length_take]; rfl)) ?_; (with_reducible refine (grid_Sides.calls a0 a1 a2 t980 t981 t982 t983 _ A5.out).mono ?_); rintro e w53 ⟨rfl, hb⟩; refine ⟨_, rfl, ?_⟩; have n0_ := kb BK976 hb; have n1_ := Aside0.mk (blk_below (g := gb979) (o := .cells #[.int .i64 t977, .int .i64 t978] 62 (0, 0)) (by (with_reducible repeat (first | refine blk_drewN ?_ _ | refine blk_drew ?_ | refine blk_alloc ?_ _)); refine blk_put (cs := #[.int .i64 t977, .int .i64 0]) ?_ 1 _ rfl; (with_reducible repeat (first | refine blk_drewN ?_ _ | refine blk_drew ?_ | refine blk_alloc ?_ _)); refine blk_put (cs := #[.int .i64 0, .int .i64 0]) ?_ 0 _ rfl; (with_reducible repeat (first | refine blk_drewN ?_ _ | refine blk_drew ?_ | refine blk_alloc ?_ _)); exact BK979.out) hb); have n2_ := kB HB hb; clear BK976; clear BK979; clear HB; have BK976 := n0_; have BK979 := n1_; have HB := n2_; clear n0_ n1_ n2_; (try clear hb); (try clear hb2); (try clear hk); (try clear hi)) | ((with_reducible refine gate_dst (N := 9) rfl ?_); refine box_event ?hg (N := 9) ?hd (cs := #[.int .i64 0, .int .i64 0]) (t := 62) ?hr ?_; (case hd => rfl); (case hg => rfl); (case hr => first | (go_simp; done) | (go_simp; rfl)); intro gb984 hg w54 hbox hb; have BK984 := Aside0.mk (hbox); have GW984 := kS HB hg; have GE984 := kS HB hg; have NB976_984 := kN BK976 hg; have NB984_976 := kM BK976 hg; have NB979_984 := kN BK979 hg; have NB984_979 := kM BK979 hg; replace BK976 := kb BK976 hb; replace BK979 := kb BK979 hb; replace HB := kB HB hb; clear hb hbox hg) | ((with_reducible refine gate_dst (N := 10) rfl ?_); refine box_event ?hg (N := 10) ?hd (cs := #[.int .i64 0, .int .i64 0]) (t := 62) ?hr ?_; (case hd => rfl); (case hg => rfl); (case hr => first | (go_simp; done) | (go_simp; rfl)); intro gb985 hg w55 hbox hb; have BK985 := Aside0.mk (hbox); have GW985 := kS HB hg; have GE985 := kS HB hg; have NB976_985 := kN BK976 hg; have NB985_976 := kM BK976 hg; have NB979_985 := kN BK979 hg; have NB985_979 := kM BK979 hg; have NB984_985 := kN BK984 hg; have NB985_984 := kM BK984 hg; replace BK976 := kb BK976 hb; replace BK979 := kb BK979 hb; replace BK984 := kb BK984 hb; replace HB := kB HB hb; clear hb hbox hg; have hnb56 := NB984_976.out; have hnc56 := NB976_984.out; have hnb57 := NB984_979.out; have hnc57 := NB979_984.out; have hnb58 := NB984_985.out; have hnc58 := NB985_984.out; have hcz59_0 : w55.cell? ⟨gb984, 0, none⟩ = some (.int .i64 0) := kc BK984 0; have hcz59_1 : w55.cell? ⟨gb984, 1, none⟩ = some (.int .i64 0) := kc BK984 1; have hfz59_0 := blk_frozen BK984.out 0; have hfz59_1 := blk_frozen BK984.out 1; have hnb60 := NB985_976.out; have hnc60 := NB976_985.out; have hnb61 := NB985_979.out; have hnc61 := NB979_985.out; have hcz62_0 : w55.cell? ⟨gb985, 0, none⟩ = some (.int .i64 0) := kc BK985 0; have hcz62_1 : w55.cell? ⟨gb985, 1, none⟩ = some (.int .i64 0) := kc BK985 1; have hfz62_0 := blk_frozen BK985.out 0; have hfz62_1 := blk_frozen BK985.out 1; have hcz63_0 : w55.cell? ⟨gb976, 0, none⟩ = some (.int .i64 a0) := kc BK976 0; have hcz63_1 : w55.cell? ⟨gb976, 1, none⟩ = some (.int .i64 a1) := kc BK976 1; have hfz63_0 := blk_frozen BK976.out 0; have hfz63_1 := blk_frozen BK976.out 1) | ((with_reducible refine gate_callee (f := 43) rfl ?_); refine goesL_ (some 26) rfl rfl Try.func43 (by kernel_rfl) rfl #[.agg #[.int .i64 a0, .int .i64 a1], .int .i64 a2] rfl (by (try simp only [List.map_toArray, List.map_cons, List.map_nil]); first | done | rfl | (simp only [List.length_drop, List.length_take]; rfl)) ?_; (with_reducible refine (cobwebref03_In.calls k a0 a1 a2 false _ A6.out).mono ?_); rintro e w64 ⟨rfl, hb⟩; refine ⟨_, rfl, ?_⟩; have n0_ := kb BK976 hb; have n1_ := kb BK979 hb; have n2_ := Aside0.mk (blk_below (g := gb984) (o := .cells #[.int .i64 t980, .int .i64 t981] 62 (0, 0)) (by (with_reducible repeat (first | refine blk_drewN ?_ _ | refine blk_drew ?_ | refine blk_alloc ?_ _)); refine blk_far ?_ NB984_985.out _; (with_reducible repeat (first | refine blk_drewN ?_ _ | refine blk_drew ?_ | refine blk_alloc ?_ _)); refine blk_far ?_ NB984_985.out _; (with_reducible repeat (first | refine blk_drewN ?_ _ | refine blk_drew ?_ | refine blk_alloc ?_ _)); refine blk_put (cs := #[.int .i64 t980, .int .i64 0]) ?_ 1 _ rfl; (with_reducible repeat (first | refine blk_drewN ?_ _ | refine blk_drew ?_ | refine blk_alloc ?_ _)); refine blk_put (cs := #[.int .i64 0, .int .i64 0]) ?_ 0 _ rfl; (with_reducible repeat (first | refine blk_drewN ?_ _ | refine blk_drew ?_ | refine blk_alloc ?_ _)); exact BK984.out) hb); have n3_ := Aside0.mk (blk_below (g := gb985) (o := .cells #[.int .i64 t982, .int .i64 t983] 62 (0, 0)) (by (with_reducible repeat (first | refine blk_drewN ?_ _ | refine blk_drew ?_ | refine blk_alloc ?_ _)); refine blk_put (cs := #[.int .i64 t982, .int .i64 0]) ?_ 1 _ rfl; (with_reducible repeat (first | refine blk_drewN ?_ _ | refine blk_drew ?_ | refine blk_alloc ?_ _)); refine blk_put (cs := #[.int .i64 0, .int .i64 0]) ?_ 0 _ rfl; (with_reducible repeat (first | refine blk_drewN ?_ _ | refine blk_drew ?_ | refine blk_alloc ?_ _)); refine blk_far ?_ NB985_984.out _; (with_reducible repeat (first | refine blk_drewN ?_ _ | refine blk_drew ?_ | refine blk_alloc ?_ _)); refine blk_far ?_ NB985_984.out _; (with_reducible repeat (first | refine blk_drewN ?_ _ | refine blk_drew ?_ | refine blk_alloc ?_ _)); exact BK985.out) hb); have n4_ := kB HB hb; clear BK976; clear BK979; clear BK984; clear BK985; clear HB; have BK976 := n0_; have BK979 := n1_; have BK984 := n2_; have BK985 := n3_; have HB := n4_; clear n0_ n1_ n2_ n3_ n4_; (try clear hb); (try clear hb2); (try clear hk); (try clear hi)) | ((with_reducible refine gate_callee (f := 38) rfl ?_); refine goesL_ (some 28) rfl rfl Try.func38 (by kernel_rfl) rfl #[] rfl (by (try simp only [List.map_toArray, List.map_cons, List.map_nil]); first | done | rfl | (simp only [List.length_drop, List.length_take]; rfl)) ?_; (with_reducible refine (cobweblaw03_alive.calls k  true _ A40.out).mono ?_); rintro e w65 ⟨rfl, hb⟩; refine ⟨_, rfl, ?_⟩; replace BK976 := kb BK976 hb; replace BK979 := kb BK979 hb; replace BK984 := kb BK984 hb; replace BK985 := kb BK985 hb; replace HB := kB HB hb; (try clear hb); (try clear hb2); (try clear hk); (try clear hi); have hcz66_0 : w65.cell? ⟨gb976, 0, none⟩ = some (.int .i64 a0) := kc BK976 0; have hcz66_1 : w65.cell? ⟨gb976, 1, none⟩ = some (.int .i64 a1) := kc BK976 1; have hfz66_0 := blk_frozen BK976.out 0; have hfz66_1 := blk_frozen BK976.out 1) | (go_at_call 44; (with_reducible refine (grid_In.calls a0 a1 a2 false _ A42.out).mono ?_); rintro e w67 ⟨rfl, hb⟩; replace BK976 := kb BK976 hb; replace BK979 := kb BK979 hb; replace BK984 := kb BK984 hb; replace BK985 := kb BK985 hb; replace HB := kB HB hb; (try clear hb); (try clear hb2); (try clear hk); (try clear hi); have hcz68_0 : w67.cell? ⟨gb979, 0, none⟩ = some (.int .i64 t977) := kc BK979 0; have hcz68_1 : w67.cell? ⟨gb979, 1, none⟩ = some (.int .i64 t978) := kc BK979 1; have hfz68_0 := blk_frozen BK979.out 0; have hfz68_1 := blk_frozen BK979.out 1; have hcz69_0 : w67.cell? ⟨gb984, 0, none⟩ = some (.int .i64 t980) := kc BK984 0; have hcz69_1 : w67.cell? ⟨gb984, 1, none⟩ = some (.int .i64 t981) := kc BK984 1; have hfz69_0 := blk_frozen BK984.out 0; have hfz69_1 := blk_frozen BK984.out 1; have hcz70_0 : w67.cell? ⟨gb985, 0, none⟩ = some (.int .i64 t982) := kc BK985 0; have hcz70_1 : w67.cell? ⟨gb985, 1, none⟩ = some (.int .i64 t983) := kc BK985 1; have hfz70_0 := blk_frozen BK985.out 0; have hfz70_1 := blk_frozen BK985.out 1))
    go_ret
    exact ⟨by first | rfl | (simp [errW_none, errW_some] <;> rfl) | (simp [*, errW_none, errW_some] <;> rfl), ky HB⟩
  subst c7
  have H1 : ((cobwebref03_Size.f k a2).bind fun t989 => ((cobweblaw03_alive.f k).bind fun t990 => (if t990 = true then ((grid_In.f a0 a1 a2).bind fun t991 => (if t991 = true then (if (t977 == (wrap64 (t989 * a0)) && (t978 == (wrap64 (t989 * a1)))) = true then (if (t980 == (wrap64 ((wrap64 ((wrap64 (2 * t989)) * a0)) - t989)) && (t981 == (wrap64 ((wrap64 ((wrap64 (2 * t989)) * a1)) - t989)))) = true then (if (t982 == (wrap64 ((wrap64 ((wrap64 (2 * t989)) * a0)) + t989)) && (t983 == (wrap64 ((wrap64 ((wrap64 (2 * t989)) * a1)) + t989)))) = true then ((grid_Of.f t977 t978 a2).bind fun bt992 => (some (bt992.1 == a0 && (bt992.2 == a1)))) else (none)) else (none)) else (none)) else (none))) else (none)))) = some r := by rw [if_pos rfl] at H; exact H
  clear H; have H := H1; clear H1
  replace H := Option.bind_eq_some_iff.mp H
  obtain ⟨t989, A80, H⟩ := H
  replace H : ((cobweblaw03_alive.f k).bind fun t990 => (if t990 = true then ((grid_In.f a0 a1 a2).bind fun t991 => (if t991 = true then (if (t977 == (wrap64 (t989 * a0)) && (t978 == (wrap64 (t989 * a1)))) = true then (if (t980 == (wrap64 ((wrap64 ((wrap64 (2 * t989)) * a0)) - t989)) && (t981 == (wrap64 ((wrap64 ((wrap64 (2 * t989)) * a1)) - t989)))) = true then (if (t982 == (wrap64 ((wrap64 ((wrap64 (2 * t989)) * a0)) + t989)) && (t983 == (wrap64 ((wrap64 ((wrap64 (2 * t989)) * a1)) + t989)))) = true then ((grid_Of.f t977 t978 a2).bind fun bt992 => (some (bt992.1 == a0 && (bt992.2 == a1)))) else (none)) else (none)) else (none)) else (none))) else (none))) = some r := H
  have A8 := Aside0.mk A80
  clear A80
  replace H := Option.bind_eq_some_iff.mp H
  obtain ⟨t990, A90, H⟩ := H
  replace H : (if t990 = true then ((grid_In.f a0 a1 a2).bind fun t991 => (if t991 = true then (if (t977 == (wrap64 (t989 * a0)) && (t978 == (wrap64 (t989 * a1)))) = true then (if (t980 == (wrap64 ((wrap64 ((wrap64 (2 * t989)) * a0)) - t989)) && (t981 == (wrap64 ((wrap64 ((wrap64 (2 * t989)) * a1)) - t989)))) = true then (if (t982 == (wrap64 ((wrap64 ((wrap64 (2 * t989)) * a0)) + t989)) && (t983 == (wrap64 ((wrap64 ((wrap64 (2 * t989)) * a1)) + t989)))) = true then ((grid_Of.f t977 t978 a2).bind fun bt992 => (some (bt992.1 == a0 && (bt992.2 == a1)))) else (none)) else (none)) else (none)) else (none))) else (none)) = some r := H
  have A9 := Aside0.mk A90
  clear A90
  by_cases c10 : t990 = true
  rotate_left
  · replace c10 := Bool.eq_false_iff.mpr c10
    subst c10
    have H1 : (none) = some r := by rw [if_neg (show ¬ (false = true) by decide)] at H; exact H
    clear H; have H := H1; clear H1
    exact absurd H (by simp)
  subst c10
  have H1 : ((grid_In.f a0 a1 a2).bind fun t991 => (if t991 = true then (if (t977 == (wrap64 (t989 * a0)) && (t978 == (wrap64 (t989 * a1)))) = true then (if (t980 == (wrap64 ((wrap64 ((wrap64 (2 * t989)) * a0)) - t989)) && (t981 == (wrap64 ((wrap64 ((wrap64 (2 * t989)) * a1)) - t989)))) = true then (if (t982 == (wrap64 ((wrap64 ((wrap64 (2 * t989)) * a0)) + t989)) && (t983 == (wrap64 ((wrap64 ((wrap64 (2 * t989)) * a1)) + t989)))) = true then ((grid_Of.f t977 t978 a2).bind fun bt992 => (some (bt992.1 == a0 && (bt992.2 == a1)))) else (none)) else (none)) else (none)) else (none))) = some r := by rw [if_pos rfl] at H; exact H
  clear H; have H := H1; clear H1
  replace H := Option.bind_eq_some_iff.mp H
  obtain ⟨t991, A110, H⟩ := H
  replace H : (if t991 = true then (if (t977 == (wrap64 (t989 * a0)) && (t978 == (wrap64 (t989 * a1)))) = true then (if (t980 == (wrap64 ((wrap64 ((wrap64 (2 * t989)) * a0)) - t989)) && (t981 == (wrap64 ((wrap64 ((wrap64 (2 * t989)) * a1)) - t989)))) = true then (if (t982 == (wrap64 ((wrap64 ((wrap64 (2 * t989)) * a0)) + t989)) && (t983 == (wrap64 ((wrap64 ((wrap64 (2 * t989)) * a1)) + t989)))) = true then ((grid_Of.f t977 t978 a2).bind fun bt992 => (some (bt992.1 == a0 && (bt992.2 == a1)))) else (none)) else (none)) else (none)) else (none)) = some r := H
  have A11 := Aside0.mk A110
  clear A110
  by_cases c12 : t991 = true
  rotate_left
  · replace c12 := Bool.eq_false_iff.mpr c12
    subst c12
    have H1 : (none) = some r := by rw [if_neg (show ¬ (false = true) by decide)] at H; exact H
    clear H; have H := H1; clear H1
    exact absurd H (by simp)
  subst c12
  have H1 : (if (t977 == (wrap64 (t989 * a0)) && (t978 == (wrap64 (t989 * a1)))) = true then (if (t980 == (wrap64 ((wrap64 ((wrap64 (2 * t989)) * a0)) - t989)) && (t981 == (wrap64 ((wrap64 ((wrap64 (2 * t989)) * a1)) - t989)))) = true then (if (t982 == (wrap64 ((wrap64 ((wrap64 (2 * t989)) * a0)) + t989)) && (t983 == (wrap64 ((wrap64 ((wrap64 (2 * t989)) * a1)) + t989)))) = true then ((grid_Of.f t977 t978 a2).bind fun bt992 => (some (bt992.1 == a0 && (bt992.2 == a1)))) else (none)) else (none)) else (none)) = some r := by rw [if_pos rfl] at H; exact H
  clear H; have H := H1; clear H1
  by_cases c13 : (t977 == (wrap64 (t989 * a0)) && (t978 == (wrap64 (t989 * a1)))) = true
  rotate_left
  · rw [if_neg c13] at H
    exact absurd H (by simp)
  rw [if_pos c13] at H
  have c13b0 : (t977 == (wrap64 (t989 * a0)) && (t978 == (wrap64 (t989 * a1)))) = true := c13
  (try (have c13b1 : decide (t977 = (wrap64 (t989 * a0)) && (t978 == (wrap64 (t989 * a1)))) = true := by simpa using c13))
  (try (have c13b2 : (t977 == (wrap64 (t989 * a0)) && (t978 == (wrap64 (t989 * a1)))) = true := by simpa using c13))
  clear c13
  by_cases c14 : (t980 == (wrap64 ((wrap64 ((wrap64 (2 * t989)) * a0)) - t989)) && (t981 == (wrap64 ((wrap64 ((wrap64 (2 * t989)) * a1)) - t989)))) = true
  rotate_left
  · rw [if_neg c14] at H
    exact absurd H (by simp)
  rw [if_pos c14] at H
  have c14b0 : (t980 == (wrap64 ((wrap64 ((wrap64 (2 * t989)) * a0)) - t989)) && (t981 == (wrap64 ((wrap64 ((wrap64 (2 * t989)) * a1)) - t989)))) = true := c14
  (try (have c14b1 : decide (t980 = (wrap64 ((wrap64 ((wrap64 (2 * t989)) * a0)) - t989)) && (t981 == (wrap64 ((wrap64 ((wrap64 (2 * t989)) * a1)) - t989)))) = true := by simpa using c14))
  (try (have c14b2 : (t980 == (wrap64 ((wrap64 ((wrap64 (2 * t989)) * a0)) - t989)) && (t981 == (wrap64 ((wrap64 ((wrap64 (2 * t989)) * a1)) - t989)))) = true := by simpa using c14))
  clear c14
  by_cases c15 : (t982 == (wrap64 ((wrap64 ((wrap64 (2 * t989)) * a0)) + t989)) && (t983 == (wrap64 ((wrap64 ((wrap64 (2 * t989)) * a1)) + t989)))) = true
  rotate_left
  · rw [if_neg c15] at H
    exact absurd H (by simp)
  rw [if_pos c15] at H
  have c15b0 : (t982 == (wrap64 ((wrap64 ((wrap64 (2 * t989)) * a0)) + t989)) && (t983 == (wrap64 ((wrap64 ((wrap64 (2 * t989)) * a1)) + t989)))) = true := c15
  (try (have c15b1 : decide (t982 = (wrap64 ((wrap64 ((wrap64 (2 * t989)) * a0)) + t989)) && (t983 == (wrap64 ((wrap64 ((wrap64 (2 * t989)) * a1)) + t989)))) = true := by simpa using c15))
  (try (have c15b2 : (t982 == (wrap64 ((wrap64 ((wrap64 (2 * t989)) * a0)) + t989)) && (t983 == (wrap64 ((wrap64 ((wrap64 (2 * t989)) * a1)) + t989)))) = true := by simpa using c15))
  clear c15
  replace H := Option.bind_eq_some_iff.mp H
  obtain ⟨⟨t992, t993⟩, A160, H⟩ := H
  replace H : (some (t992 == a0 && (t993 == a1))) = some r := H
  have A16 := Aside0.mk A160
  clear A160
  obtain rfl := Option.some.inj H
  go_enter Try.func10, Try.ntmps10
  try go_wp2_with (first | ((with_reducible refine gate_dst (N := 7) rfl ?_); refine box_event ?hg (N := 7) ?hd (cs := #[.int .i64 0, .int .i64 0]) (t := 60) ?hr ?_; (case hd => rfl); (case hg => rfl); (case hr => first | (go_simp; done) | (go_simp; rfl)); intro gb976 hg w17 hbox hb; have BK976 := Aside0.mk (hbox); have GW976 := kS HB hg; have GE976 := kS HB hg; replace HB := kB HB hb; clear hb hbox hg; have hcz18_0 : w17.cell? ⟨gb976, 0, none⟩ = some (.int .i64 0) := kc BK976 0; have hcz18_1 : w17.cell? ⟨gb976, 1, none⟩ = some (.int .i64 0) := kc BK976 1; have hfz18_0 := blk_frozen BK976.out 0; have hfz18_1 := blk_frozen BK976.out 1) | ((with_reducible refine gate_callee (f := 41) rfl ?_); refine goesL_ (some 17) rfl rfl Try.func41 (by kernel_rfl) rfl #[.agg #[.int .i64 a0, .int .i64 a1], .int .i64 a2] rfl (by (try simp only [List.map_toArray, List.map_cons, List.map_nil]); first | done | rfl | (simp only [List.length_drop, List.length_take]; rfl)) ?_; (with_reducible refine (grid_Center.calls a0 a1 a2 t977 t978 _ A4.out).mono ?_); rintro e w19 ⟨rfl, hb⟩; refine ⟨_, rfl, ?_⟩; have n0_ := Aside0.mk (blk_below (g := gb976) (o := .cells #[.int .i64 a0, .int .i64 a1] 60 (0, 0)) (by (with_reducible repeat (first | refine blk_drewN ?_ _ | refine blk_drew ?_ | refine blk_alloc ?_ _)); refine blk_put (cs := #[.int .i64 a0, .int .i64 0]) ?_ 1 _ rfl; (with_reducible repeat (first | refine blk_drewN ?_ _ | refine blk_drew ?_ | refine blk_alloc ?_ _)); refine blk_put (cs := #[.int .i64 0, .int .i64 0]) ?_ 0 _ rfl; (with_reducible repeat (first | refine blk_drewN ?_ _ | refine blk_drew ?_ | refine blk_alloc ?_ _)); exact BK976.out) hb); have n1_ := kB HB hb; clear BK976; clear HB; have BK976 := n0_; have HB := n1_; clear n0_ n1_; (try clear hb); (try clear hb2); (try clear hk); (try clear hi)) | ((with_reducible refine gate_dst (N := 8) rfl ?_); refine box_event ?hg (N := 8) ?hd (cs := #[.int .i64 0, .int .i64 0]) (t := 62) ?hr ?_; (case hd => rfl); (case hg => rfl); (case hr => first | (go_simp; done) | (go_simp; rfl)); intro gb979 hg w20 hbox hb; have BK979 := Aside0.mk (hbox); have GW979 := kS HB hg; have GE979 := kS HB hg; have NB976_979 := kN BK976 hg; have NB979_976 := kM BK976 hg; replace BK976 := kb BK976 hb; replace HB := kB HB hb; clear hb hbox hg; have hnb21 := NB979_976.out; have hnc21 := NB976_979.out; have hcz22_0 : w20.cell? ⟨gb979, 0, none⟩ = some (.int .i64 0) := kc BK979 0; have hcz22_1 : w20.cell? ⟨gb979, 1, none⟩ = some (.int .i64 0) := kc BK979 1; have hfz22_0 := blk_frozen BK979.out 0; have hfz22_1 := blk_frozen BK979.out 1; have hcz23_0 : w20.cell? ⟨gb976, 0, none⟩ = some (.int .i64 a0) := kc BK976 0; have hcz23_1 : w20.cell? ⟨gb976, 1, none⟩ = some (.int .i64 a1) := kc BK976 1; have hfz23_0 := blk_frozen BK976.out 0; have hfz23_1 := blk_frozen BK976.out 1) | ((with_reducible refine gate_callee (f := 42) rfl ?_); refine goesL_ (some 21) rfl rfl Try.func42 (by kernel_rfl) rfl #[.agg #[.int .i64 a0, .int .i64 a1], .int .i64 a2] rfl (by (try simp only [List.map_toArray, List.map_cons, List.map_nil]); first | done | rfl | (simp only [List.length_drop, List.length_take]; rfl)) ?_; (with_reducible refine (grid_Sides.calls a0 a1 a2 t980 t981 t982 t983 _ A5.out).mono ?_); rintro e w24 ⟨rfl, hb⟩; refine ⟨_, rfl, ?_⟩; have n0_ := kb BK976 hb; have n1_ := Aside0.mk (blk_below (g := gb979) (o := .cells #[.int .i64 t977, .int .i64 t978] 62 (0, 0)) (by (with_reducible repeat (first | refine blk_drewN ?_ _ | refine blk_drew ?_ | refine blk_alloc ?_ _)); refine blk_put (cs := #[.int .i64 t977, .int .i64 0]) ?_ 1 _ rfl; (with_reducible repeat (first | refine blk_drewN ?_ _ | refine blk_drew ?_ | refine blk_alloc ?_ _)); refine blk_put (cs := #[.int .i64 0, .int .i64 0]) ?_ 0 _ rfl; (with_reducible repeat (first | refine blk_drewN ?_ _ | refine blk_drew ?_ | refine blk_alloc ?_ _)); exact BK979.out) hb); have n2_ := kB HB hb; clear BK976; clear BK979; clear HB; have BK976 := n0_; have BK979 := n1_; have HB := n2_; clear n0_ n1_ n2_; (try clear hb); (try clear hb2); (try clear hk); (try clear hi)) | ((with_reducible refine gate_dst (N := 9) rfl ?_); refine box_event ?hg (N := 9) ?hd (cs := #[.int .i64 0, .int .i64 0]) (t := 62) ?hr ?_; (case hd => rfl); (case hg => rfl); (case hr => first | (go_simp; done) | (go_simp; rfl)); intro gb984 hg w25 hbox hb; have BK984 := Aside0.mk (hbox); have GW984 := kS HB hg; have GE984 := kS HB hg; have NB976_984 := kN BK976 hg; have NB984_976 := kM BK976 hg; have NB979_984 := kN BK979 hg; have NB984_979 := kM BK979 hg; replace BK976 := kb BK976 hb; replace BK979 := kb BK979 hb; replace HB := kB HB hb; clear hb hbox hg) | ((with_reducible refine gate_dst (N := 10) rfl ?_); refine box_event ?hg (N := 10) ?hd (cs := #[.int .i64 0, .int .i64 0]) (t := 62) ?hr ?_; (case hd => rfl); (case hg => rfl); (case hr => first | (go_simp; done) | (go_simp; rfl)); intro gb985 hg w26 hbox hb; have BK985 := Aside0.mk (hbox); have GW985 := kS HB hg; have GE985 := kS HB hg; have NB976_985 := kN BK976 hg; have NB985_976 := kM BK976 hg; have NB979_985 := kN BK979 hg; have NB985_979 := kM BK979 hg; have NB984_985 := kN BK984 hg; have NB985_984 := kM BK984 hg; replace BK976 := kb BK976 hb; replace BK979 := kb BK979 hb; replace BK984 := kb BK984 hb; replace HB := kB HB hb; clear hb hbox hg; have hnb27 := NB984_976.out; have hnc27 := NB976_984.out; have hnb28 := NB984_979.out; have hnc28 := NB979_984.out; have hnb29 := NB984_985.out; have hnc29 := NB985_984.out; have hcz30_0 : w26.cell? ⟨gb984, 0, none⟩ = some (.int .i64 0) := kc BK984 0; have hcz30_1 : w26.cell? ⟨gb984, 1, none⟩ = some (.int .i64 0) := kc BK984 1; have hfz30_0 := blk_frozen BK984.out 0; have hfz30_1 := blk_frozen BK984.out 1; have hnb31 := NB985_976.out; have hnc31 := NB976_985.out; have hnb32 := NB985_979.out; have hnc32 := NB979_985.out; have hcz33_0 : w26.cell? ⟨gb985, 0, none⟩ = some (.int .i64 0) := kc BK985 0; have hcz33_1 : w26.cell? ⟨gb985, 1, none⟩ = some (.int .i64 0) := kc BK985 1; have hfz33_0 := blk_frozen BK985.out 0; have hfz33_1 := blk_frozen BK985.out 1; have hcz34_0 : w26.cell? ⟨gb976, 0, none⟩ = some (.int .i64 a0) := kc BK976 0; have hcz34_1 : w26.cell? ⟨gb976, 1, none⟩ = some (.int .i64 a1) := kc BK976 1; have hfz34_0 := blk_frozen BK976.out 0; have hfz34_1 := blk_frozen BK976.out 1) | ((with_reducible refine gate_callee (f := 43) rfl ?_); refine goesL_ (some 26) rfl rfl Try.func43 (by kernel_rfl) rfl #[.agg #[.int .i64 a0, .int .i64 a1], .int .i64 a2] rfl (by (try simp only [List.map_toArray, List.map_cons, List.map_nil]); first | done | rfl | (simp only [List.length_drop, List.length_take]; rfl)) ?_; (with_reducible refine (cobwebref03_In.calls k a0 a1 a2 true _ A6.out).mono ?_); rintro e w35 ⟨rfl, hb⟩; refine ⟨_, rfl, ?_⟩; have n0_ := kb BK976 hb; have n1_ := kb BK979 hb; have n2_ := Aside0.mk (blk_below (g := gb984) (o := .cells #[.int .i64 t980, .int .i64 t981] 62 (0, 0)) (by (with_reducible repeat (first | refine blk_drewN ?_ _ | refine blk_drew ?_ | refine blk_alloc ?_ _)); refine blk_far ?_ NB984_985.out _; (with_reducible repeat (first | refine blk_drewN ?_ _ | refine blk_drew ?_ | refine blk_alloc ?_ _)); refine blk_far ?_ NB984_985.out _; (with_reducible repeat (first | refine blk_drewN ?_ _ | refine blk_drew ?_ | refine blk_alloc ?_ _)); refine blk_put (cs := #[.int .i64 t980, .int .i64 0]) ?_ 1 _ rfl; (with_reducible repeat (first | refine blk_drewN ?_ _ | refine blk_drew ?_ | refine blk_alloc ?_ _)); refine blk_put (cs := #[.int .i64 0, .int .i64 0]) ?_ 0 _ rfl; (with_reducible repeat (first | refine blk_drewN ?_ _ | refine blk_drew ?_ | refine blk_alloc ?_ _)); exact BK984.out) hb); have n3_ := Aside0.mk (blk_below (g := gb985) (o := .cells #[.int .i64 t982, .int .i64 t983] 62 (0, 0)) (by (with_reducible repeat (first | refine blk_drewN ?_ _ | refine blk_drew ?_ | refine blk_alloc ?_ _)); refine blk_put (cs := #[.int .i64 t982, .int .i64 0]) ?_ 1 _ rfl; (with_reducible repeat (first | refine blk_drewN ?_ _ | refine blk_drew ?_ | refine blk_alloc ?_ _)); refine blk_put (cs := #[.int .i64 0, .int .i64 0]) ?_ 0 _ rfl; (with_reducible repeat (first | refine blk_drewN ?_ _ | refine blk_drew ?_ | refine blk_alloc ?_ _)); refine blk_far ?_ NB985_984.out _; (with_reducible repeat (first | refine blk_drewN ?_ _ | refine blk_drew ?_ | refine blk_alloc ?_ _)); refine blk_far ?_ NB985_984.out _; (with_reducible repeat (first | refine blk_drewN ?_ _ | refine blk_drew ?_ | refine blk_alloc ?_ _)); exact BK985.out) hb); have n4_ := kB HB hb; clear BK976; clear BK979; clear BK984; clear BK985; clear HB; have BK976 := n0_; have BK979 := n1_; have BK984 := n2_; have BK985 := n3_; have HB := n4_; clear n0_ n1_ n2_ n3_ n4_; (try clear hb); (try clear hb2); (try clear hk); (try clear hi)) | ((with_reducible refine gate_callee (f := 45) rfl ?_); refine goesL_ (some 51) rfl rfl Try.func45 (by kernel_rfl) rfl #[.int .i64 a2] rfl (by (try simp only [List.map_toArray, List.map_cons, List.map_nil]); first | done | rfl | (simp only [List.length_drop, List.length_take]; rfl)) ?_; (with_reducible refine (cobwebref03_Size.calls k a2 t989 _ A8.out).mono ?_); rintro e w' ⟨rfl, ⟨nd, rfl⟩⟩; refine ⟨_, rfl, ?_⟩))
  (try (rw [drewN_self w35]; generalize hq_ : World.drewN w35 _ = w35; have n0_ : Aside0 (w35.heap[gb976]? = some (.cells #[.int .i64 a0, .int .i64 a1] 60 (0, 0))) := ⟨by rw [← hq_]; exact (kx BK976)⟩; have n1_ : Aside0 (w35.heap[gb979]? = some (.cells #[.int .i64 t977, .int .i64 t978] 62 (0, 0))) := ⟨by rw [← hq_]; exact (kx BK979)⟩; have n2_ : Aside0 (w35.heap[gb984]? = some (.cells #[.int .i64 t980, .int .i64 t981] 62 (0, 0))) := ⟨by rw [← hq_]; exact (kx BK984)⟩; have n3_ : Aside0 (w35.heap[gb985]? = some (.cells #[.int .i64 t982, .int .i64 t983] 62 (0, 0))) := ⟨by rw [← hq_]; exact (kx BK985)⟩; have n4_ : Aside0 (Below w.heap.size w w35) := ⟨by rw [← hq_]; exact (ky HB)⟩; clear BK976 BK979 BK984 BK985 HB hq_; have BK976 := n0_; have BK979 := n1_; have BK984 := n2_; have BK985 := n3_; have HB := n4_; clear n0_ n1_ n2_ n3_ n4_))
  replace BK976 := Aside0.mk (blk_drew BK976.out)
  replace BK979 := Aside0.mk (blk_drew BK979.out)
  replace BK984 := Aside0.mk (blk_drew BK984.out)
  replace BK985 := Aside0.mk (blk_drew BK985.out)
  replace HB := Aside0.mk (below_drew1 HB.out)
  refine start_ (n := 59) (S := fun w' => w'.cell? ⟨gb976, 0, none⟩ = some (.int .i64 a0) ∧ w'.cell? ⟨gb976, 1, none⟩ = some (.int .i64 a1) ∧ w'.cell? ⟨gb979, 0, none⟩ = some (.int .i64 t977) ∧ w'.cell? ⟨gb979, 1, none⟩ = some (.int .i64 t978) ∧ w'.cell? ⟨gb984, 0, none⟩ = some (.int .i64 t980) ∧ w'.cell? ⟨gb984, 1, none⟩ = some (.int .i64 t981) ∧ w'.cell? ⟨gb985, 0, none⟩ = some (.int .i64 t982) ∧ w'.cell? ⟨gb985, 1, none⟩ = some (.int .i64 t983)) (ds := []) #[O, O, O, O, O, O, O, O, O, O, O, O, O, O, O, O, O, O, O, O, O, O, O, O, O, O, O, O, O, O, O, O, O, O, O, O, O, O, O, O, O, O, O, O, O, O, O, O, O, O, O, O, O, O, O, O, O, O, O] (by kernel_rfl) rfl rfl ⟨kc BK976 0, kc BK976 1, kc BK979 0, kc BK979 1, kc BK984 0, kc BK984 1, kc BK985 0, kc BK985 1⟩ (fun hHeld => ?_); refine with_tabW cobweblaw03_GridCenters.tab7 cobweblaw03_GridCenters.bits7 (fun HT_ HW_ => ?_)
  generalize w35.drew = w36 at BK976 BK979 BK984 BK985 HB hHeld ⊢
  refine one_ (i := 0) (N := some 52) #[T, O, O, O, O, O, O, O, O, O, O, O, O, O, O, O, O, O, O, O, O, O, O, O, O, O, O, O, O, O, O, O, O, O, O, O, O, O, O, O, O, O, O, O, O, O, O, O, O, O, O, O, O, O, O, O, O, O, O] rfl rfl (one_of HT_.out (by kernel_rfl)) (by decide) (fun K hK => ?_)
  refine goes_ Try.func38 (by kernel_rfl) rfl #[] (by rfl) rfl rfl (by (try simp only [List.map_toArray, List.map_cons, List.map_nil]); first | done | rfl | (simp only [List.length_drop, List.length_take]; rfl)) ?_
  with_reducible refine (cobweblaw03_alive.calls k  true _ A9.out).mono ?_
  rintro e w37 ⟨rfl, hb⟩
  refine ⟨_, rfl, ?_⟩
  replace BK976 := kb BK976 hb
  replace BK979 := kb BK979 hb
  replace BK984 := kb BK984 hb
  replace BK985 := kb BK985 hb
  replace HB := kB HB hb
  (try clear hb); (try clear hb2); (try clear hk); (try clear hi)
  refine hK.out _ _ ⟨kc BK976 0, kc BK976 1, kc BK979 0, kc BK979 1, kc BK984 0, kc BK984 1, kc BK985 0, kc BK985 1⟩ (fun hHeld => ?_)
  clear hK K
  refine norm_ (a' := ?_) ?_ ?_; rotate_left; focus (show Act.put _ (some 52) _ = _; simp only [Act.put, s1, s2, s3, i64_w, i32_w]; rfl)
  refine pure_ (i := 1) (N := some 53) (v := ?_) (a' := ?_) #[T, T, O, O, O, O, O, O, O, O, O, O, O, O, O, O, O, O, O, O, O, O, O, O, O, O, O, O, O, O, O, O, O, O, O, O, O, O, O, O, O, O, O, O, O, O, O, O, O, O, O, O, O, O, O, O, O, O, O] rfl rfl (any_of HT_.out (by kernel_rfl)) (fun _ _ _ h => h) (Or.inl ⟨by rfl, ?_⟩) ?_ ?_; rotate_left; focus (intro w'; go_simp; with_reducible rfl)
  rotate_left; focus (simp only [Act.put, s1, s2, s3, i64_w, i32_w]; rfl)
  refine pure_ (i := 3) (N := some 55) (v := ?_) (a' := ?_) #[T, T, O, T, O, O, O, O, O, O, O, O, O, O, O, O, O, O, O, O, O, O, O, O, O, O, O, O, O, O, O, O, O, O, O, O, O, O, O, O, O, O, O, O, O, O, O, O, O, O, O, O, O, O, O, O, O, O, O] rfl rfl (any_of HT_.out (by kernel_rfl)) (fun _ _ _ h => h) (Or.inl ⟨by rfl, ?_⟩) ?_ ?_; rotate_left; focus (intro w'; go_simp; with_reducible rfl)
  rotate_left; focus (simp only [Act.put, s1, s2, s3, i64_w, i32_w]; rfl)
  refine take_ (i := 2) (N := some 54) (v := ?_) (a' := ?_) #[T, T, T, T, O, O, O, O, O, O, O, O, O, O, O, O, O, O, O, O, O, O, O, O, O, O, O, O, O, O, O, O, O, O, O, O, O, O, O, O, O, O, O, O, O, O, O, O, O, O, O, O, O, O, O, O, O, O, O] rfl rfl (take_ofW HT_.out HW_.out (by kernel_rfl)) (fun _ _ _ h => h) (Or.inl ⟨by rfl, ?_⟩) hHeld ?_ ?_; rotate_left; focus (rintro w' ⟨s0, s1, s2, s3, s4, s5, s6, s7⟩; go_simp; with_reducible rfl)
  rotate_left; focus (simp only [Act.put, s1, s2, s3, i64_w, i32_w]; rfl)
  refine one_ (i := 4) (N := some 56) #[T, T, T, T, T, O, O, O, O, O, O, O, O, O, O, O, O, O, O, O, O, O, O, O, O, O, O, O, O, O, O, O, O, O, O, O, O, O, O, O, O, O, O, O, O, O, O, O, O, O, O, O, O, O, O, O, O, O, O] rfl rfl (one_of HT_.out (by kernel_rfl)) (by decide) (fun K hK => ?_)
  refine goes_ Try.func44 (by kernel_rfl) rfl #[.agg #[.int .i64 a0, .int .i64 a1], .int .i64 a2] (by rfl) rfl rfl (by (try simp only [List.map_toArray, List.map_cons, List.map_nil]); first | done | rfl | (simp only [List.length_drop, List.length_take]; rfl)) ?_
  with_reducible refine (grid_In.calls a0 a1 a2 true _ A11.out).mono ?_
  rintro e w38 ⟨rfl, hb⟩
  refine ⟨_, rfl, ?_⟩
  replace BK976 := kb BK976 hb
  replace BK979 := kb BK979 hb
  replace BK984 := kb BK984 hb
  replace BK985 := kb BK985 hb
  replace HB := kB HB hb
  (try clear hb); (try clear hb2); (try clear hk); (try clear hi)
  refine hK.out _ _ ⟨kc BK976 0, kc BK976 1, kc BK979 0, kc BK979 1, kc BK984 0, kc BK984 1, kc BK985 0, kc BK985 1⟩ (fun hHeld => ?_)
  clear hK K
  refine norm_ (a' := ?_) ?_ ?_; rotate_left; focus (show Act.put _ (some 56) _ = _; simp only [Act.put, s1, s2, s3, i64_w, i32_w]; rfl)
  refine pure_ (i := 5) (N := some 57) (v := ?_) (a' := ?_) #[T, T, T, T, T, T, O, O, O, O, O, O, O, O, O, O, O, O, O, O, O, O, O, O, O, O, O, O, O, O, O, O, O, O, O, O, O, O, O, O, O, O, O, O, O, O, O, O, O, O, O, O, O, O, O, O, O, O, O] rfl rfl (any_of HT_.out (by kernel_rfl)) (fun _ _ _ h => h) (Or.inl ⟨by rfl, ?_⟩) ?_ ?_; rotate_left; focus (intro w'; go_simp; with_reducible rfl)
  rotate_left; focus (simp only [Act.put, s1, s2, s3, i64_w, i32_w]; rfl)
  refine pure_ (i := 6) (N := some 58) (v := ?_) (a' := ?_) #[T, T, T, T, T, T, T, O, O, O, O, O, O, O, O, O, O, O, O, O, O, O, O, O, O, O, O, O, O, O, O, O, O, O, O, O, O, O, O, O, O, O, O, O, O, O, O, O, O, O, O, O, O, O, O, O, O, O, O] rfl rfl (any_of HT_.out (by kernel_rfl)) (fun _ _ _ h => h) (Or.inl ⟨by rfl, ?_⟩) ?_ ?_; rotate_left; focus (intro w'; go_simp; with_reducible rfl)
  rotate_left; focus (simp only [Act.put, s1, s2, s3, i64_w, i32_w]; rfl)
  refine pure_ (i := 8) (N := some 60) (v := ?_) (a' := ?_) #[T, T, T, T, T, T, T, O, T, O, O, O, O, O, O, O, O, O, O, O, O, O, O, O, O, O, O, O, O, O, O, O, O, O, O, O, O, O, O, O, O, O, O, O, O, O, O, O, O, O, O, O, O, O, O, O, O, O, O] rfl rfl (any_of HT_.out (by kernel_rfl)) (fun _ _ _ h => h) (Or.inl ⟨by rfl, ?_⟩) ?_ ?_; rotate_left; focus (intro w'; go_simp; with_reducible rfl)
  rotate_left; focus (simp only [Act.put, s1, s2, s3, i64_w, i32_w]; rfl)
  refine pure_ (i := 9) (N := some 61) (v := ?_) (a' := ?_) #[T, T, T, T, T, T, T, O, T, T, O, O, O, O, O, O, O, O, O, O, O, O, O, O, O, O, O, O, O, O, O, O, O, O, O, O, O, O, O, O, O, O, O, O, O, O, O, O, O, O, O, O, O, O, O, O, O, O, O] rfl rfl (any_of HT_.out (by kernel_rfl)) (fun _ _ _ h => h) (Or.inl ⟨by rfl, ?_⟩) ?_ ?_; rotate_left; focus (intro w'; go_simp; with_reducible rfl)
  rotate_left; focus (simp only [Act.put, s1, s2, s3, i64_w, i32_w]; rfl)
  refine pure_ (i := 10) (N := some 62) (v := ?_) (a' := ?_) #[T, T, T, T, T, T, T, O, T, T, T, O, O, O, O, O, O, O, O, O, O, O, O, O, O, O, O, O, O, O, O, O, O, O, O, O, O, O, O, O, O, O, O, O, O, O, O, O, O, O, O, O, O, O, O, O, O, O, O] rfl rfl (any_of HT_.out (by kernel_rfl)) (fun _ _ _ h => h) (Or.inl ⟨by rfl, ?_⟩) ?_ ?_; rotate_left; focus (intro w'; go_simp; with_reducible rfl)
  rotate_left; focus (simp only [Act.put, s1, s2, s3, i64_w, i32_w]; rfl)
  refine pure_ (i := 11) (N := some 63) (v := ?_) (a' := ?_) #[T, T, T, T, T, T, T, O, T, T, T, T, O, O, O, O, O, O, O, O, O, O, O, O, O, O, O, O, O, O, O, O, O, O, O, O, O, O, O, O, O, O, O, O, O, O, O, O, O, O, O, O, O, O, O, O, O, O, O] rfl rfl (any_of HT_.out (by kernel_rfl)) (fun _ _ _ h => h) (Or.inl ⟨by rfl, ?_⟩) ?_ ?_; rotate_left; focus (intro w'; go_simp; with_reducible rfl)
  rotate_left; focus (simp only [Act.put, s1, s2, s3, i64_w, i32_w]; rfl)
  refine pure_ (i := 12) (N := some 64) (v := ?_) (a' := ?_) #[T, T, T, T, T, T, T, O, T, T, T, T, T, O, O, O, O, O, O, O, O, O, O, O, O, O, O, O, O, O, O, O, O, O, O, O, O, O, O, O, O, O, O, O, O, O, O, O, O, O, O, O, O, O, O, O, O, O, O] rfl rfl (any_of HT_.out (by kernel_rfl)) (fun _ _ _ h => h) (Or.inl ⟨by rfl, ?_⟩) ?_ ?_; rotate_left; focus (intro w'; go_simp; with_reducible rfl)
  rotate_left; focus (simp only [Act.put, s1, s2, s3, i64_w, i32_w]; rfl)
  refine pure_ (i := 13) (N := some 65) (v := ?_) (a' := ?_) #[T, T, T, T, T, T, T, O, T, T, T, T, T, T, O, O, O, O, O, O, O, O, O, O, O, O, O, O, O, O, O, O, O, O, O, O, O, O, O, O, O, O, O, O, O, O, O, O, O, O, O, O, O, O, O, O, O, O, O] rfl rfl (any_of HT_.out (by kernel_rfl)) (fun _ _ _ h => h) (Or.inl ⟨by rfl, ?_⟩) ?_ ?_; rotate_left; focus (intro w'; go_simp; with_reducible rfl)
  rotate_left; focus (simp only [Act.put, s1, s2, s3, i64_w, i32_w]; rfl)
  refine pure_ (i := 14) (N := some 66) (v := ?_) (a' := ?_) #[T, T, T, T, T, T, T, O, T, T, T, T, T, T, T, O, O, O, O, O, O, O, O, O, O, O, O, O, O, O, O, O, O, O, O, O, O, O, O, O, O, O, O, O, O, O, O, O, O, O, O, O, O, O, O, O, O, O, O] rfl rfl (any_of HT_.out (by kernel_rfl)) (fun _ _ _ h => h) (Or.inl ⟨by rfl, ?_⟩) ?_ ?_; rotate_left; focus (intro w'; go_simp; with_reducible rfl)
  rotate_left; focus (simp only [Act.put, s1, s2, s3, i64_w, i32_w]; rfl)
  refine take_ (i := 7) (N := some 59) (v := ?_) (a' := ?_) #[T, T, T, T, T, T, T, T, T, T, T, T, T, T, T, O, O, O, O, O, O, O, O, O, O, O, O, O, O, O, O, O, O, O, O, O, O, O, O, O, O, O, O, O, O, O, O, O, O, O, O, O, O, O, O, O, O, O, O] rfl rfl (take_ofW HT_.out HW_.out (by kernel_rfl)) (fun _ _ _ h => h) (Or.inl ⟨by rfl, ?_⟩) hHeld ?_ ?_; rotate_left; focus (rintro w' ⟨s0, s1, s2, s3, s4, s5, s6, s7⟩; go_simp; with_reducible rfl)
  rotate_left; focus (simp only [Act.put, s1, s2, s3, i64_w, i32_w]; rfl)
  refine pure_ (i := 15) (N := some 67) (v := ?_) (a' := ?_) #[T, T, T, T, T, T, T, T, T, T, T, T, T, T, T, T, O, O, O, O, O, O, O, O, O, O, O, O, O, O, O, O, O, O, O, O, O, O, O, O, O, O, O, O, O, O, O, O, O, O, O, O, O, O, O, O, O, O, O] rfl rfl (any_of HT_.out (by kernel_rfl)) (fun _ _ _ h => h) (Or.inl ⟨by rfl, ?_⟩) ?_ ?_; rotate_left; focus (intro w'; go_simp; with_reducible rfl)
  rotate_left; focus (simp only [Act.put, s1, s2, s3, i64_w, i32_w]; rfl)
  refine pure_ (i := 16) (N := some 68) (v := ?_) (a' := ?_) #[T, T, T, T, T, T, T, T, T, T, T, T, T, T, T, T, T, O, O, O, O, O, O, O, O, O, O, O, O, O, O, O, O, O, O, O, O, O, O, O, O, O, O, O, O, O, O, O, O, O, O, O, O, O, O, O, O, O, O] rfl rfl (any_of HT_.out (by kernel_rfl)) (fun _ _ _ h => h) (Or.inl ⟨by rfl, ?_⟩) ?_ ?_; rotate_left; focus (intro w'; go_simp; with_reducible rfl)
  rotate_left; focus (simp only [Act.put, s1, s2, s3, i64_w, i32_w]; rfl)
  refine pure_ (i := 17) (N := some 69) (v := ?_) (a' := ?_) #[T, T, T, T, T, T, T, T, T, T, T, T, T, T, T, T, T, T, O, O, O, O, O, O, O, O, O, O, O, O, O, O, O, O, O, O, O, O, O, O, O, O, O, O, O, O, O, O, O, O, O, O, O, O, O, O, O, O, O] rfl rfl (any_of HT_.out (by kernel_rfl)) (fun _ _ _ h => h) (Or.inl ⟨by rfl, ?_⟩) ?_ ?_; rotate_left; focus (intro w'; go_simp; with_reducible rfl)
  rotate_left; focus (simp only [Act.put, s1, s2, s3, i64_w, i32_w]; rfl)
  refine pure_ (i := 19) (N := some 71) (v := ?_) (a' := ?_) #[T, T, T, T, T, T, T, T, T, T, T, T, T, T, T, T, T, T, O, T, O, O, O, O, O, O, O, O, O, O, O, O, O, O, O, O, O, O, O, O, O, O, O, O, O, O, O, O, O, O, O, O, O, O, O, O, O, O, O] rfl rfl (any_of HT_.out (by kernel_rfl)) (fun _ _ _ h => h) (Or.inl ⟨by rfl, ?_⟩) ?_ ?_; rotate_left; focus (intro w'; go_simp; with_reducible rfl)
  rotate_left; focus (simp only [Act.put, s1, s2, s3, i64_w, i32_w]; rfl)
  refine pure_ (i := 20) (N := some 72) (v := ?_) (a' := ?_) #[T, T, T, T, T, T, T, T, T, T, T, T, T, T, T, T, T, T, O, T, T, O, O, O, O, O, O, O, O, O, O, O, O, O, O, O, O, O, O, O, O, O, O, O, O, O, O, O, O, O, O, O, O, O, O, O, O, O, O] rfl rfl (any_of HT_.out (by kernel_rfl)) (fun _ _ _ h => h) (Or.inl ⟨by rfl, ?_⟩) ?_ ?_; rotate_left; focus (intro w'; go_simp; with_reducible rfl)
  rotate_left; focus (simp only [Act.put, s1, s2, s3, i64_w, i32_w]; rfl)
  refine pure_ (i := 21) (N := some 73) (v := ?_) (a' := ?_) #[T, T, T, T, T, T, T, T, T, T, T, T, T, T, T, T, T, T, O, T, T, T, O, O, O, O, O, O, O, O, O, O, O, O, O, O, O, O, O, O, O, O, O, O, O, O, O, O, O, O, O, O, O, O, O, O, O, O, O] rfl rfl (any_of HT_.out (by kernel_rfl)) (fun _ _ _ h => h) (Or.inl ⟨by rfl, ?_⟩) ?_ ?_; rotate_left; focus (intro w'; go_simp; with_reducible rfl)
  rotate_left; focus (simp only [Act.put, s1, s2, s3, i64_w, i32_w]; rfl)
  refine pure_ (i := 22) (N := some 74) (v := ?_) (a' := ?_) #[T, T, T, T, T, T, T, T, T, T, T, T, T, T, T, T, T, T, O, T, T, T, T, O, O, O, O, O, O, O, O, O, O, O, O, O, O, O, O, O, O, O, O, O, O, O, O, O, O, O, O, O, O, O, O, O, O, O, O] rfl rfl (any_of HT_.out (by kernel_rfl)) (fun _ _ _ h => h) (Or.inl ⟨by rfl, ?_⟩) ?_ ?_; rotate_left; focus (intro w'; go_simp; with_reducible rfl)
  rotate_left; focus (simp only [Act.put, s1, s2, s3, i64_w, i32_w]; rfl)
  refine pure_ (i := 23) (N := some 75) (v := ?_) (a' := ?_) #[T, T, T, T, T, T, T, T, T, T, T, T, T, T, T, T, T, T, O, T, T, T, T, T, O, O, O, O, O, O, O, O, O, O, O, O, O, O, O, O, O, O, O, O, O, O, O, O, O, O, O, O, O, O, O, O, O, O, O] rfl rfl (any_of HT_.out (by kernel_rfl)) (fun _ _ _ h => h) (Or.inl ⟨by rfl, ?_⟩) ?_ ?_; rotate_left; focus (intro w'; go_simp; with_reducible rfl)
  rotate_left; focus (simp only [Act.put, s1, s2, s3, i64_w, i32_w]; rfl)
  refine pure_ (i := 24) (N := some 76) (v := ?_) (a' := ?_) #[T, T, T, T, T, T, T, T, T, T, T, T, T, T, T, T, T, T, O, T, T, T, T, T, T, O, O, O, O, O, O, O, O, O, O, O, O, O, O, O, O, O, O, O, O, O, O, O, O, O, O, O, O, O, O, O, O, O, O] rfl rfl (any_of HT_.out (by kernel_rfl)) (fun _ _ _ h => h) (Or.inl ⟨by rfl, ?_⟩) ?_ ?_; rotate_left; focus (intro w'; go_simp; with_reducible rfl)
  rotate_left; focus (simp only [Act.put, s1, s2, s3, i64_w, i32_w]; rfl)
  refine pure_ (i := 25) (N := some 77) (v := ?_) (a' := ?_) #[T, T, T, T, T, T, T, T, T, T, T, T, T, T, T, T, T, T, O, T, T, T, T, T, T, T, O, O, O, O, O, O, O, O, O, O, O, O, O, O, O, O, O, O, O, O, O, O, O, O, O, O, O, O, O, O, O, O, O] rfl rfl (any_of HT_.out (by kernel_rfl)) (fun _ _ _ h => h) (Or.inl ⟨by rfl, ?_⟩) ?_ ?_; rotate_left; focus (intro w'; go_simp; with_reducible rfl)
  rotate_left; focus (simp only [Act.put, s1, s2, s3, i64_w, i32_w]; rfl)
  refine pure_ (i := 26) (N := some 78) (v := ?_) (a' := ?_) #[T, T, T, T, T, T, T, T, T, T, T, T, T, T, T, T, T, T, O, T, T, T, T, T, T, T, T, O, O, O, O, O, O, O, O, O, O, O, O, O, O, O, O, O, O, O, O, O, O, O, O, O, O, O, O, O, O, O, O] rfl rfl (any_of HT_.out (by kernel_rfl)) (fun _ _ _ h => h) (Or.inl ⟨by rfl, ?_⟩) ?_ ?_; rotate_left; focus (intro w'; go_simp; with_reducible rfl)
  rotate_left; focus (simp only [Act.put, s1, s2, s3, i64_w, i32_w]; rfl)
  refine pure_ (i := 27) (N := some 79) (v := ?_) (a' := ?_) #[T, T, T, T, T, T, T, T, T, T, T, T, T, T, T, T, T, T, O, T, T, T, T, T, T, T, T, T, O, O, O, O, O, O, O, O, O, O, O, O, O, O, O, O, O, O, O, O, O, O, O, O, O, O, O, O, O, O, O] rfl rfl (any_of HT_.out (by kernel_rfl)) (fun _ _ _ h => h) (Or.inl ⟨by rfl, ?_⟩) ?_ ?_; rotate_left; focus (intro w'; go_simp; with_reducible rfl)
  rotate_left; focus (simp only [Act.put, s1, s2, s3, i64_w, i32_w]; rfl)
  refine pure_ (i := 28) (N := some 80) (v := ?_) (a' := ?_) #[T, T, T, T, T, T, T, T, T, T, T, T, T, T, T, T, T, T, O, T, T, T, T, T, T, T, T, T, T, O, O, O, O, O, O, O, O, O, O, O, O, O, O, O, O, O, O, O, O, O, O, O, O, O, O, O, O, O, O] rfl rfl (any_of HT_.out (by kernel_rfl)) (fun _ _ _ h => h) (Or.inl ⟨by rfl, ?_⟩) ?_ ?_; rotate_left; focus (intro w'; go_simp; with_reducible rfl)
  rotate_left; focus (simp only [Act.put, s1, s2, s3, i64_w, i32_w]; rfl)
  refine pure_ (i := 29) (N := some 81) (v := ?_) (a' := ?_) #[T, T, T, T, T, T, T, T, T, T, T, T, T, T, T, T, T, T, O, T, T, T, T, T, T, T, T, T, T, T, O, O, O, O, O, O, O, O, O, O, O, O, O, O, O, O, O, O, O, O, O, O, O, O, O, O, O, O, O] rfl rfl (any_of HT_.out (by kernel_rfl)) (fun _ _ _ h => h) (Or.inl ⟨by rfl, ?_⟩) ?_ ?_; rotate_left; focus (intro w'; go_simp; with_reducible rfl)
  rotate_left; focus (simp only [Act.put, s1, s2, s3, i64_w, i32_w]; rfl)
  refine pure_ (i := 30) (N := some 82) (v := ?_) (a' := ?_) #[T, T, T, T, T, T, T, T, T, T, T, T, T, T, T, T, T, T, O, T, T, T, T, T, T, T, T, T, T, T, T, O, O, O, O, O, O, O, O, O, O, O, O, O, O, O, O, O, O, O, O, O, O, O, O, O, O, O, O] rfl rfl (any_of HT_.out (by kernel_rfl)) (fun _ _ _ h => h) (Or.inl ⟨by rfl, ?_⟩) ?_ ?_; rotate_left; focus (intro w'; go_simp; with_reducible rfl)
  rotate_left; focus (simp only [Act.put, s1, s2, s3, i64_w, i32_w]; rfl)
  refine pure_ (i := 31) (N := some 83) (v := ?_) (a' := ?_) #[T, T, T, T, T, T, T, T, T, T, T, T, T, T, T, T, T, T, O, T, T, T, T, T, T, T, T, T, T, T, T, T, O, O, O, O, O, O, O, O, O, O, O, O, O, O, O, O, O, O, O, O, O, O, O, O, O, O, O] rfl rfl (any_of HT_.out (by kernel_rfl)) (fun _ _ _ h => h) (Or.inl ⟨by rfl, ?_⟩) ?_ ?_; rotate_left; focus (intro w'; go_simp; with_reducible rfl)
  rotate_left; focus (simp only [Act.put, s1, s2, s3, i64_w, i32_w]; rfl)
  refine take_ (i := 18) (N := some 70) (v := ?_) (a' := ?_) #[T, T, T, T, T, T, T, T, T, T, T, T, T, T, T, T, T, T, T, T, T, T, T, T, T, T, T, T, T, T, T, T, O, O, O, O, O, O, O, O, O, O, O, O, O, O, O, O, O, O, O, O, O, O, O, O, O, O, O] rfl rfl (take_ofW HT_.out HW_.out (by kernel_rfl)) (fun _ _ _ h => h) (Or.inl ⟨by rfl, ?_⟩) hHeld ?_ ?_; rotate_left; focus (rintro w' ⟨s0, s1, s2, s3, s4, s5, s6, s7⟩; go_simp; with_reducible rfl)
  rotate_left; focus (simp only [Act.put, s1, s2, s3, i64_w, i32_w]; rfl)
  refine pure_ (i := 32) (N := some 84) (v := ?_) (a' := ?_) #[T, T, T, T, T, T, T, T, T, T, T, T, T, T, T, T, T, T, T, T, T, T, T, T, T, T, T, T, T, T, T, T, T, O, O, O, O, O, O, O, O, O, O, O, O, O, O, O, O, O, O, O, O, O, O, O, O, O, O] rfl rfl (any_of HT_.out (by kernel_rfl)) (fun _ _ _ h => h) (Or.inl ⟨by rfl, ?_⟩) ?_ ?_; rotate_left; focus (intro w'; go_simp; with_reducible rfl)
  rotate_left; focus (simp only [Act.put, s1, s2, s3, i64_w, i32_w]; rfl)
  refine pure_ (i := 33) (N := some 85) (v := ?_) (a' := ?_) #[T, T, T, T, T, T, T, T, T, T, T, T, T, T, T, T, T, T, T, T, T, T, T, T, T, T, T, T, T, T, T, T, T, T, O, O, O, O, O, O, O, O, O, O, O, O, O, O, O, O, O, O, O, O, O, O, O, O, O] rfl rfl (any_of HT_.out (by kernel_rfl)) (fun _ _ _ h => h) (Or.inl ⟨by rfl, ?_⟩) ?_ ?_; rotate_left; focus (intro w'; go_simp; with_reducible rfl)
  rotate_left; focus (simp only [Act.put, s1, s2, s3, i64_w, i32_w]; rfl)
  refine pure_ (i := 34) (N := some 86) (v := ?_) (a' := ?_) #[T, T, T, T, T, T, T, T, T, T, T, T, T, T, T, T, T, T, T, T, T, T, T, T, T, T, T, T, T, T, T, T, T, T, T, O, O, O, O, O, O, O, O, O, O, O, O, O, O, O, O, O, O, O, O, O, O, O, O] rfl rfl (any_of HT_.out (by kernel_rfl)) (fun _ _ _ h => h) (Or.inl ⟨by rfl, ?_⟩) ?_ ?_; rotate_left; focus (intro w'; go_simp; with_reducible rfl)
  rotate_left; focus (simp only [Act.put, s1, s2, s3, i64_w, i32_w]; rfl)
  refine pure_ (i := 36) (N := some 88) (v := ?_) (a' := ?_) #[T, T, T, T, T, T, T, T, T, T, T, T, T, T, T, T, T, T, T, T, T, T, T, T, T, T, T, T, T, T, T, T, T, T, T, O, T, O, O, O, O, O, O, O, O, O, O, O, O, O, O, O, O, O, O, O, O, O, O] rfl rfl (any_of HT_.out (by kernel_rfl)) (fun _ _ _ h => h) (Or.inl ⟨by rfl, ?_⟩) ?_ ?_; rotate_left; focus (intro w'; go_simp; with_reducible rfl)
  rotate_left; focus (simp only [Act.put, s1, s2, s3, i64_w, i32_w]; rfl)
  refine pure_ (i := 37) (N := some 89) (v := ?_) (a' := ?_) #[T, T, T, T, T, T, T, T, T, T, T, T, T, T, T, T, T, T, T, T, T, T, T, T, T, T, T, T, T, T, T, T, T, T, T, O, T, T, O, O, O, O, O, O, O, O, O, O, O, O, O, O, O, O, O, O, O, O, O] rfl rfl (any_of HT_.out (by kernel_rfl)) (fun _ _ _ h => h) (Or.inl ⟨by rfl, ?_⟩) ?_ ?_; rotate_left; focus (intro w'; go_simp; with_reducible rfl)
  rotate_left; focus (simp only [Act.put, s1, s2, s3, i64_w, i32_w]; rfl)
  refine pure_ (i := 38) (N := some 90) (v := ?_) (a' := ?_) #[T, T, T, T, T, T, T, T, T, T, T, T, T, T, T, T, T, T, T, T, T, T, T, T, T, T, T, T, T, T, T, T, T, T, T, O, T, T, T, O, O, O, O, O, O, O, O, O, O, O, O, O, O, O, O, O, O, O, O] rfl rfl (any_of HT_.out (by kernel_rfl)) (fun _ _ _ h => h) (Or.inl ⟨by rfl, ?_⟩) ?_ ?_; rotate_left; focus (intro w'; go_simp; with_reducible rfl)
  rotate_left; focus (simp only [Act.put, s1, s2, s3, i64_w, i32_w]; rfl)
  refine pure_ (i := 39) (N := some 91) (v := ?_) (a' := ?_) #[T, T, T, T, T, T, T, T, T, T, T, T, T, T, T, T, T, T, T, T, T, T, T, T, T, T, T, T, T, T, T, T, T, T, T, O, T, T, T, T, O, O, O, O, O, O, O, O, O, O, O, O, O, O, O, O, O, O, O] rfl rfl (any_of HT_.out (by kernel_rfl)) (fun _ _ _ h => h) (Or.inl ⟨by rfl, ?_⟩) ?_ ?_; rotate_left; focus (intro w'; go_simp; with_reducible rfl)
  rotate_left; focus (simp only [Act.put, s1, s2, s3, i64_w, i32_w]; rfl)
  refine pure_ (i := 40) (N := some 92) (v := ?_) (a' := ?_) #[T, T, T, T, T, T, T, T, T, T, T, T, T, T, T, T, T, T, T, T, T, T, T, T, T, T, T, T, T, T, T, T, T, T, T, O, T, T, T, T, T, O, O, O, O, O, O, O, O, O, O, O, O, O, O, O, O, O, O] rfl rfl (any_of HT_.out (by kernel_rfl)) (fun _ _ _ h => h) (Or.inl ⟨by rfl, ?_⟩) ?_ ?_; rotate_left; focus (intro w'; go_simp; with_reducible rfl)
  rotate_left; focus (simp only [Act.put, s1, s2, s3, i64_w, i32_w]; rfl)
  refine pure_ (i := 41) (N := some 93) (v := ?_) (a' := ?_) #[T, T, T, T, T, T, T, T, T, T, T, T, T, T, T, T, T, T, T, T, T, T, T, T, T, T, T, T, T, T, T, T, T, T, T, O, T, T, T, T, T, T, O, O, O, O, O, O, O, O, O, O, O, O, O, O, O, O, O] rfl rfl (any_of HT_.out (by kernel_rfl)) (fun _ _ _ h => h) (Or.inl ⟨by rfl, ?_⟩) ?_ ?_; rotate_left; focus (intro w'; go_simp; with_reducible rfl)
  rotate_left; focus (simp only [Act.put, s1, s2, s3, i64_w, i32_w]; rfl)
  refine pure_ (i := 42) (N := some 94) (v := ?_) (a' := ?_) #[T, T, T, T, T, T, T, T, T, T, T, T, T, T, T, T, T, T, T, T, T, T, T, T, T, T, T, T, T, T, T, T, T, T, T, O, T, T, T, T, T, T, T, O, O, O, O, O, O, O, O, O, O, O, O, O, O, O, O] rfl rfl (any_of HT_.out (by kernel_rfl)) (fun _ _ _ h => h) (Or.inl ⟨by rfl, ?_⟩) ?_ ?_; rotate_left; focus (intro w'; go_simp; with_reducible rfl)
  rotate_left; focus (simp only [Act.put, s1, s2, s3, i64_w, i32_w]; rfl)
  refine pure_ (i := 43) (N := some 95) (v := ?_) (a' := ?_) #[T, T, T, T, T, T, T, T, T, T, T, T, T, T, T, T, T, T, T, T, T, T, T, T, T, T, T, T, T, T, T, T, T, T, T, O, T, T, T, T, T, T, T, T, O, O, O, O, O, O, O, O, O, O, O, O, O, O, O] rfl rfl (any_of HT_.out (by kernel_rfl)) (fun _ _ _ h => h) (Or.inl ⟨by rfl, ?_⟩) ?_ ?_; rotate_left; focus (intro w'; go_simp; with_reducible rfl)
  rotate_left; focus (simp only [Act.put, s1, s2, s3, i64_w, i32_w]; rfl)
  refine pure_ (i := 44) (N := some 96) (v := ?_) (a' := ?_) #[T, T, T, T, T, T, T, T, T, T, T, T, T, T, T, T, T, T, T, T, T, T, T, T, T, T, T, T, T, T, T, T, T, T, T, O, T, T, T, T, T, T, T, T, T, O, O, O, O, O, O, O, O, O, O, O, O, O, O] rfl rfl (any_of HT_.out (by kernel_rfl)) (fun _ _ _ h => h) (Or.inl ⟨by rfl, ?_⟩) ?_ ?_; rotate_left; focus (intro w'; go_simp; with_reducible rfl)
  rotate_left; focus (simp only [Act.put, s1, s2, s3, i64_w, i32_w]; rfl)
  refine pure_ (i := 45) (N := some 97) (v := ?_) (a' := ?_) #[T, T, T, T, T, T, T, T, T, T, T, T, T, T, T, T, T, T, T, T, T, T, T, T, T, T, T, T, T, T, T, T, T, T, T, O, T, T, T, T, T, T, T, T, T, T, O, O, O, O, O, O, O, O, O, O, O, O, O] rfl rfl (any_of HT_.out (by kernel_rfl)) (fun _ _ _ h => h) (Or.inl ⟨by rfl, ?_⟩) ?_ ?_; rotate_left; focus (intro w'; go_simp; with_reducible rfl)
  rotate_left; focus (simp only [Act.put, s1, s2, s3, i64_w, i32_w]; rfl)
  refine pure_ (i := 46) (N := some 98) (v := ?_) (a' := ?_) #[T, T, T, T, T, T, T, T, T, T, T, T, T, T, T, T, T, T, T, T, T, T, T, T, T, T, T, T, T, T, T, T, T, T, T, O, T, T, T, T, T, T, T, T, T, T, T, O, O, O, O, O, O, O, O, O, O, O, O] rfl rfl (any_of HT_.out (by kernel_rfl)) (fun _ _ _ h => h) (Or.inl ⟨by rfl, ?_⟩) ?_ ?_; rotate_left; focus (intro w'; go_simp; with_reducible rfl)
  rotate_left; focus (simp only [Act.put, s1, s2, s3, i64_w, i32_w]; rfl)
  refine pure_ (i := 47) (N := some 99) (v := ?_) (a' := ?_) #[T, T, T, T, T, T, T, T, T, T, T, T, T, T, T, T, T, T, T, T, T, T, T, T, T, T, T, T, T, T, T, T, T, T, T, O, T, T, T, T, T, T, T, T, T, T, T, T, O, O, O, O, O, O, O, O, O, O, O] rfl rfl (any_of HT_.out (by kernel_rfl)) (fun _ _ _ h => h) (Or.inl ⟨by rfl, ?_⟩) ?_ ?_; rotate_left; focus (intro w'; go_simp; with_reducible rfl)
  rotate_left; focus (simp only [Act.put, s1, s2, s3, i64_w, i32_w]; rfl)
  refine pure_ (i := 48) (N := some 100) (v := ?_) (a' := ?_) #[T, T, T, T, T, T, T, T, T, T, T, T, T, T, T, T, T, T, T, T, T, T, T, T, T, T, T, T, T, T, T, T, T, T, T, O, T, T, T, T, T, T, T, T, T, T, T, T, T, O, O, O, O, O, O, O, O, O, O] rfl rfl (any_of HT_.out (by kernel_rfl)) (fun _ _ _ h => h) (Or.inl ⟨by rfl, ?_⟩) ?_ ?_; rotate_left; focus (intro w'; go_simp; with_reducible rfl)
  rotate_left; focus (simp only [Act.put, s1, s2, s3, i64_w, i32_w]; rfl)
  refine take_ (i := 35) (N := some 87) (v := ?_) (a' := ?_) #[T, T, T, T, T, T, T, T, T, T, T, T, T, T, T, T, T, T, T, T, T, T, T, T, T, T, T, T, T, T, T, T, T, T, T, T, T, T, T, T, T, T, T, T, T, T, T, T, T, O, O, O, O, O, O, O, O, O, O] rfl rfl (take_ofW HT_.out HW_.out (by kernel_rfl)) (fun _ _ _ h => h) (Or.inl ⟨by rfl, ?_⟩) hHeld ?_ ?_; rotate_left; focus (rintro w' ⟨s0, s1, s2, s3, s4, s5, s6, s7⟩; go_simp; with_reducible rfl)
  rotate_left; focus (simp only [Act.put, s1, s2, s3, i64_w, i32_w]; rfl)
  refine pure_ (i := 49) (N := some 101) (v := ?_) (a' := ?_) #[T, T, T, T, T, T, T, T, T, T, T, T, T, T, T, T, T, T, T, T, T, T, T, T, T, T, T, T, T, T, T, T, T, T, T, T, T, T, T, T, T, T, T, T, T, T, T, T, T, T, O, O, O, O, O, O, O, O, O] rfl rfl (any_of HT_.out (by kernel_rfl)) (fun _ _ _ h => h) (Or.inl ⟨by rfl, ?_⟩) ?_ ?_; rotate_left; focus (intro w'; go_simp; with_reducible rfl)
  rotate_left; focus (simp only [Act.put, s1, s2, s3, i64_w, i32_w]; rfl)
  refine pure_ (i := 50) (N := some 102) (v := ?_) (a' := ?_) #[T, T, T, T, T, T, T, T, T, T, T, T, T, T, T, T, T, T, T, T, T, T, T, T, T, T, T, T, T, T, T, T, T, T, T, T, T, T, T, T, T, T, T, T, T, T, T, T, T, T, T, O, O, O, O, O, O, O, O] rfl rfl (any_of HT_.out (by kernel_rfl)) (fun _ _ _ h => h) (Or.inl ⟨by rfl, ?_⟩) ?_ ?_; rotate_left; focus (intro w'; go_simp; with_reducible rfl)
  rotate_left; focus (simp only [Act.put, s1, s2, s3, i64_w, i32_w]; rfl)
  refine pure_ (i := 51) (N := some 103) (v := ?_) (a' := ?_) #[T, T, T, T, T, T, T, T, T, T, T, T, T, T, T, T, T, T, T, T, T, T, T, T, T, T, T, T, T, T, T, T, T, T, T, T, T, T, T, T, T, T, T, T, T, T, T, T, T, T, T, T, O, O, O, O, O, O, O] rfl rfl (any_of HT_.out (by kernel_rfl)) (fun _ _ _ h => h) (Or.inl ⟨by rfl, ?_⟩) ?_ ?_; rotate_left; focus (intro w'; go_simp; with_reducible rfl)
  rotate_left; focus (simp only [Act.put, s1, s2, s3, i64_w, i32_w]; rfl)
  refine pure_ (i := 53) (N := some 105) (v := ?_) (a' := ?_) #[T, T, T, T, T, T, T, T, T, T, T, T, T, T, T, T, T, T, T, T, T, T, T, T, T, T, T, T, T, T, T, T, T, T, T, T, T, T, T, T, T, T, T, T, T, T, T, T, T, T, T, T, O, T, O, O, O, O, O] rfl rfl (any_of HT_.out (by kernel_rfl)) (fun _ _ _ h => h) (Or.inl ⟨by rfl, ?_⟩) ?_ ?_; rotate_left; focus (intro w'; go_simp; with_reducible rfl)
  rotate_left; focus (simp only [Act.put, s1, s2, s3, i64_w, i32_w]; rfl)
  refine take_ (i := 52) (N := some 104) (v := ?_) (a' := ?_) #[T, T, T, T, T, T, T, T, T, T, T, T, T, T, T, T, T, T, T, T, T, T, T, T, T, T, T, T, T, T, T, T, T, T, T, T, T, T, T, T, T, T, T, T, T, T, T, T, T, T, T, T, T, T, O, O, O, O, O] rfl rfl (take_ofW HT_.out HW_.out (by kernel_rfl)) (fun _ _ _ h => h) (Or.inl ⟨by rfl, ?_⟩) hHeld ?_ ?_; rotate_left; focus (rintro w' ⟨s0, s1, s2, s3, s4, s5, s6, s7⟩; go_simp; with_reducible rfl)
  rotate_left; focus (simp only [Act.put, s1, s2, s3, i64_w, i32_w]; rfl)
  refine take_ (i := 55) (N := some 107) (v := ?_) (a' := ?_) #[T, T, T, T, T, T, T, T, T, T, T, T, T, T, T, T, T, T, T, T, T, T, T, T, T, T, T, T, T, T, T, T, T, T, T, T, T, T, T, T, T, T, T, T, T, T, T, T, T, T, T, T, T, T, O, T, O, O, O] rfl rfl (take_ofW HT_.out HW_.out (by kernel_rfl)) (fun _ _ _ h => h) (Or.inl ⟨by rfl, ?_⟩) hHeld ?_ ?_; rotate_left; focus (rintro w' ⟨s0, s1, s2, s3, s4, s5, s6, s7⟩; go_simp; with_reducible rfl)
  rotate_left; focus (simp only [Act.put, s1, s2, s3, i64_w, i32_w]; rfl)
  refine one_ (i := 54) (N := some 106) #[T, T, T, T, T, T, T, T, T, T, T, T, T, T, T, T, T, T, T, T, T, T, T, T, T, T, T, T, T, T, T, T, T, T, T, T, T, T, T, T, T, T, T, T, T, T, T, T, T, T, T, T, T, T, T, T, O, O, O] rfl rfl (one_of HT_.out (by kernel_rfl)) (by decide) (fun K hK => ?_)
  refine goes_ Try.func37 (by kernel_rfl) rfl #[.agg #[.int .i64 t977, .int .i64 t978], .int .i64 a2] (by rfl) rfl rfl (by (try simp only [List.map_toArray, List.map_cons, List.map_nil]); first | done | rfl | (simp only [List.length_drop, List.length_take]; rfl)) ?_
  with_reducible refine (grid_Of.calls t977 t978 a2 t992 t993 _ A16.out).mono ?_
  rintro e w39 ⟨rfl, hb⟩
  refine ⟨_, rfl, ?_⟩
  replace BK976 := kb BK976 hb
  replace BK979 := kb BK979 hb
  replace BK984 := kb BK984 hb
  replace BK985 := kb BK985 hb
  replace HB := kB HB hb
  (try clear hb); (try clear hb2); (try clear hk); (try clear hi)
  refine hK.out _ _ ⟨kc BK976 0, kc BK976 1, kc BK979 0, kc BK979 1, kc BK984 0, kc BK984 1, kc BK985 0, kc BK985 1⟩ (fun hHeld => ?_)
  clear hK K
  refine norm_ (a' := ?_) ?_ ?_; rotate_left; focus (show Act.put _ (some 106) _ = _; simp only [Act.put, s1, s2, s3, i64_w, i32_w]; rfl)
  refine pure_ (i := 56) (N := some 108) (v := ?_) (a' := ?_) #[T, T, T, T, T, T, T, T, T, T, T, T, T, T, T, T, T, T, T, T, T, T, T, T, T, T, T, T, T, T, T, T, T, T, T, T, T, T, T, T, T, T, T, T, T, T, T, T, T, T, T, T, T, T, T, T, T, O, O] rfl rfl (any_of HT_.out (by kernel_rfl)) (fun _ _ _ h => h) (Or.inl ⟨by rfl, ?_⟩) ?_ ?_; rotate_left; focus (intro w'; go_simp; with_reducible rfl)
  rotate_left; focus (simp only [Act.put, s1, s2, s3, i64_w, i32_w]; rfl)
  refine pure_ (i := 57) (N := some 109) (v := ?_) (a' := ?_) #[T, T, T, T, T, T, T, T, T, T, T, T, T, T, T, T, T, T, T, T, T, T, T, T, T, T, T, T, T, T, T, T, T, T, T, T, T, T, T, T, T, T, T, T, T, T, T, T, T, T, T, T, T, T, T, T, T, T, O] rfl rfl (any_of HT_.out (by kernel_rfl)) (fun _ _ _ h => h) (Or.inl ⟨by rfl, ?_⟩) ?_ ?_; rotate_left; focus (intro w'; go_simp; with_reducible rfl)
  rotate_left; focus (simp only [Act.put, s1, s2, s3, i64_w, i32_w]; rfl)
  refine pure_ (i := 58) (N := some 6) (v := ?_) (a' := ?_) #[T, T, T, T, T, T, T, T, T, T, T, T, T, T, T, T, T, T, T, T, T, T, T, T, T, T, T, T, T, T, T, T, T, T, T, T, T, T, T, T, T, T, T, T, T, T, T, T, T, T, T, T, T, T, T, T, T, T, T] rfl rfl (any_of HT_.out (by kernel_rfl)) (fun _ _ _ h => h) (Or.inl ⟨by rfl, ?_⟩) ?_ ?_; rotate_left; focus (intro w'; go_simp; with_reducible rfl)
  rotate_left; focus (simp only [Act.put, s1, s2, s3, i64_w, i32_w]; rfl)
  refine done_ (done_of HT_.out (by kernel_rfl)) ?_
  try go_wp2
  go_ret
  exact ⟨by first | rfl | (simp [errW_none, errW_some] <;> rfl) | (simp [*, errW_none, errW_some] <;> rfl), ky HB⟩
/-- THE ONE PURE STATEMENT of cobweblaw03_GridCenters: yours. -/
def cobweblaw03_GridCenters.Pure : Prop := ∀ (a0 : Int) (a1 : Int) (a2 : Int), (Lit.int .i64 a0).wf = true → (Lit.int .i64 a1).wf = true → (Lit.int .i64 a2).wf = true → ∃ k, cobweblaw03_GridCenters.f k a0 a1 a2 = some true
theorem cobweblaw03_GridCenters.walk (P : cobweblaw03_GridCenters.Pure) (a0 : Int) (a1 : Int) (a2 : Int) (w : World) (w0 : (Lit.int .i64 a0).wf = true) (w1 : (Lit.int .i64 a1).wf = true) (w2 : (Lit.int .i64 a2).wf = true) :
    Calls Try.prog 10 #[.int .i64 a0, .int .i64 a1, .int .i64 a2] w fun e w' => e = .returned (.bool true) ∧ Below w.heap.size w w' := by
  obtain ⟨k, h⟩ := P a0 a1 a2 w0 w1 w2
  refine (cobweblaw03_GridCenters.calls k a0 a1 a2 true w h).mono ?_
  rintro e w' ⟨rfl, hd⟩
  exact ⟨rfl, hd⟩

end Go.Proofs.Ytpjbniihdndlmab.Q
