-- Printed by wip/pp.sh (a session's own turning of the kit's print) for this seat.
import Derived.Test.YtpjbniihdndlmaaQx0
import Derived.Test.YtpjbniihdndlmaaQx7
import Derived.Test.YtpjbniihdndlmaaQx27
namespace Go.Proofs.Ytpjbniihdndlmaa.Q
open Go.RowKit Go.Proofs.YtpjbniihdndlmaaW.PrintWords Go.Proofs.YtpjbniihdndlmaaW.PrintLast Go.Proofs.YtpjbniihdndlmaaW.PrintMore
open Go.Proofs.Ytpjbniihdndlmaa.H
attribute [local go_sem] hq_add64 hq_sub64 hq_not64 add64c_nn sub64c_nn sub64c_le
attribute [local go_sem] max2_int min2_int max_two min_two max_three min_three max_four min_four   -- for this text's walks alone
set_option linter.unusedVariables false
set_option linter.unusedSimpArgs false

/-! ### frac_Cmp: function 41 -/
mutual
def frac_Cmp.j0 : Nat → Bool → Int → Int → Int → Int → Int → Int → Int → Int → Option (Int)
  | 0, _, _, _, _, _, _, _, _, _ => none
  | k + 1, x21, x866000, x866001, x866002, x866003, x867000, x867001, x867002, x867003 => if x21 = true then (some 0) else (frac_Cmp.l0 k x866000 x866001 x867000 x867001 x866002 x866003 x867002 x867003)
def frac_Cmp.l0 : Nat → Int → Int → Int → Int → Int → Int → Int → Int → Option (Int)
  | 0, _, _, _, _, _, _, _, _ => none
  | k + 1, x870000, x870001, x870002, x870003, x871000, x871001, x871002, x871003 => (wide_Div.f k x870000 x870001 x871000 x871001).bind fun bt871 => ((wide_Div.f k x870002 x870003 x871002 x871003).bind fun bt878 => ((wide_Cmp.f k bt871.1 bt871.2.1 bt878.1 bt878.2.1).bind fun t885 => (if t885 = 0 then ((wide_Sign.f bt871.2.2.1 bt871.2.2.2.1).bind fun t886 => (if t886 = 0 then (frac_Cmp.j2 k true x871000 x871001 x871002 x871003 bt871.2.2.1 bt871.2.2.2.1 bt878.2.2.1 bt878.2.2.2.1) else ((wide_Sign.f bt878.2.2.1 bt878.2.2.2.1).bind fun t887 => (frac_Cmp.j2 k (t887 == 0) x871000 x871001 x871002 x871003 bt871.2.2.1 bt871.2.2.2.1 bt878.2.2.1 bt878.2.2.2.1)))) else (some t885))))
def frac_Cmp.j2 : Nat → Bool → Int → Int → Int → Int → Int → Int → Int → Int → Option (Int)
  | 0, _, _, _, _, _, _, _, _, _ => none
  | k + 1, x63, x871000, x871001, x871002, x871003, x878000, x878001, x885000, x885001 => if x63 = true then ((wide_Sign.f x878000 x878001).bind fun t888 => ((wide_Sign.f x885000 x885001).bind fun t889 => (some (wrap64 (t888 - t889))))) else (frac_Cmp.l0 k x871002 x871003 x871000 x871001 x885000 x885001 x878000 x878001)
end
def frac_Cmp.f (k : Nat) (a0_0 : Int) (a0_1 : Int) (a0_2 : Int) (a0_3 : Int) (a1_0 : Int) (a1_1 : Int) (a1_2 : Int) (a1_3 : Int) : Option (Int) := (frac_Right.f a0_0 a0_1 a0_2 a0_3).bind fun t867 => (if t867 = true then ((frac_Right.f a1_0 a1_1 a1_2 a1_3).bind fun t868 => (frac_Cmp.j0 k (!t868) a0_0 a0_1 a0_2 a0_3 a1_0 a1_1 a1_2 a1_3)) else (frac_Cmp.j0 k true a0_0 a0_1 a0_2 a0_3 a1_0 a1_1 a1_2 a1_3))
theorem frac_Cmp.mono_l : ∀ k, (∀ y0 y1 y2 y3 y4 y5 y6 y7 y8, LeO (frac_Cmp.j0 k y0 y1 y2 y3 y4 y5 y6 y7 y8) (frac_Cmp.j0 (k + 1) y0 y1 y2 y3 y4 y5 y6 y7 y8)) ∧ (∀ y0 y1 y2 y3 y4 y5 y6 y7, LeO (frac_Cmp.l0 k y0 y1 y2 y3 y4 y5 y6 y7) (frac_Cmp.l0 (k + 1) y0 y1 y2 y3 y4 y5 y6 y7)) ∧ (∀ y0 y1 y2 y3 y4 y5 y6 y7 y8, LeO (frac_Cmp.j2 k y0 y1 y2 y3 y4 y5 y6 y7 y8) (frac_Cmp.j2 (k + 1) y0 y1 y2 y3 y4 y5 y6 y7 y8))
  | 0 => ⟨fun _ _ _ _ _ _ _ _ _ r h => by simp [frac_Cmp.j0] at h, fun _ _ _ _ _ _ _ _ r h => by simp [frac_Cmp.l0] at h, fun _ _ _ _ _ _ _ _ _ r h => by simp [frac_Cmp.j2] at h⟩
  | k + 1 => by
    obtain ⟨ih0, ih1, ih2⟩ := frac_Cmp.mono_l k
    refine ⟨?_, ?_, ?_⟩
    · intro y0 y1 y2 y3 y4 y5 y6 y7 y8
      unfold frac_Cmp.j0
      repeat' first
      | (with_reducible exact ih0 _ _ _ _ _ _ _ _ _)
      | (with_reducible exact ih1 _ _ _ _ _ _ _ _)
      | (with_reducible exact ih2 _ _ _ _ _ _ _ _ _)
      | (with_reducible exact wide_Cmp.mono _ _ _ _ _)
      | (with_reducible exact wide_Div.mono _ _ _ _ _)
      | (with_reducible exact LeO.refl _)
      | (with_reducible exact LeO.none _)
      | (with_reducible refine LeO.ite ?_ ?_)
      | (with_reducible refine LeO.bind ?_ (fun _ => ?_))
      | exact ih0 _ _ _ _ _ _ _ _ _
      | exact ih1 _ _ _ _ _ _ _ _
      | exact ih2 _ _ _ _ _ _ _ _ _
      | exact wide_Cmp.mono _ _ _ _ _
      | exact wide_Div.mono _ _ _ _ _
      | exact LeO.none _
      | refine LeO.ite ?_ ?_
      | refine LeO.bind ?_ (fun _ => ?_)
    · intro y0 y1 y2 y3 y4 y5 y6 y7
      unfold frac_Cmp.l0
      repeat' first
      | (with_reducible exact ih0 _ _ _ _ _ _ _ _ _)
      | (with_reducible exact ih1 _ _ _ _ _ _ _ _)
      | (with_reducible exact ih2 _ _ _ _ _ _ _ _ _)
      | (with_reducible exact wide_Cmp.mono _ _ _ _ _)
      | (with_reducible exact wide_Div.mono _ _ _ _ _)
      | (with_reducible exact LeO.refl _)
      | (with_reducible exact LeO.none _)
      | (with_reducible refine LeO.ite ?_ ?_)
      | (with_reducible refine LeO.bind ?_ (fun _ => ?_))
      | exact ih0 _ _ _ _ _ _ _ _ _
      | exact ih1 _ _ _ _ _ _ _ _
      | exact ih2 _ _ _ _ _ _ _ _ _
      | exact wide_Cmp.mono _ _ _ _ _
      | exact wide_Div.mono _ _ _ _ _
      | exact LeO.none _
      | refine LeO.ite ?_ ?_
      | refine LeO.bind ?_ (fun _ => ?_)
    · intro y0 y1 y2 y3 y4 y5 y6 y7 y8
      unfold frac_Cmp.j2
      repeat' first
      | (with_reducible exact ih0 _ _ _ _ _ _ _ _ _)
      | (with_reducible exact ih1 _ _ _ _ _ _ _ _)
      | (with_reducible exact ih2 _ _ _ _ _ _ _ _ _)
      | (with_reducible exact wide_Cmp.mono _ _ _ _ _)
      | (with_reducible exact wide_Div.mono _ _ _ _ _)
      | (with_reducible exact LeO.refl _)
      | (with_reducible exact LeO.none _)
      | (with_reducible refine LeO.ite ?_ ?_)
      | (with_reducible refine LeO.bind ?_ (fun _ => ?_))
      | exact ih0 _ _ _ _ _ _ _ _ _
      | exact ih1 _ _ _ _ _ _ _ _
      | exact ih2 _ _ _ _ _ _ _ _ _
      | exact wide_Cmp.mono _ _ _ _ _
      | exact wide_Div.mono _ _ _ _ _
      | exact LeO.none _
      | refine LeO.ite ?_ ?_
      | refine LeO.bind ?_ (fun _ => ?_)
theorem frac_Cmp.mono : ∀ a0 a1 a2 a3 a4 a5 a6 a7 k, LeO (frac_Cmp.f k a0 a1 a2 a3 a4 a5 a6 a7) (frac_Cmp.f (k + 1) a0 a1 a2 a3 a4 a5 a6 a7) := by
  intro a0 a1 a2 a3 a4 a5 a6 a7 k
  obtain ⟨ih0, ih1, ih2⟩ := frac_Cmp.mono_l k
  unfold frac_Cmp.f
  repeat' first
      | (with_reducible exact ih0 _ _ _ _ _ _ _ _ _)
      | (with_reducible exact ih1 _ _ _ _ _ _ _ _)
      | (with_reducible exact ih2 _ _ _ _ _ _ _ _ _)
      | (with_reducible exact wide_Cmp.mono _ _ _ _ _)
      | (with_reducible exact wide_Div.mono _ _ _ _ _)
      | (with_reducible exact LeO.refl _)
      | (with_reducible exact LeO.none _)
      | (with_reducible refine LeO.ite ?_ ?_)
      | (with_reducible refine LeO.bind ?_ (fun _ => ?_))
      | exact ih0 _ _ _ _ _ _ _ _ _
      | exact ih1 _ _ _ _ _ _ _ _
      | exact ih2 _ _ _ _ _ _ _ _ _
      | exact wide_Cmp.mono _ _ _ _ _
      | exact wide_Div.mono _ _ _ _ _
      | exact LeO.none _
      | refine LeO.ite ?_ ?_
      | refine LeO.bind ?_ (fun _ => ?_)
def frac_Cmp.T3 : Bool × List (List Nat × List Nat) := (true, [([], []), ([0], [0]), ([], []), ([2], [2]), ([1, 3], [1, 3]), ([], []), ([5], [5]), ([], []), ([7], [7]), ([6, 8], [6, 8]), ([], []), ([], []), ([10, 4, 0, 1, 2, 3, 4, 10, 11], [4, 10]), ([11, 9, 12, 0, 1, 2, 3, 4, 5, 6, 7, 8, 9, 10, 11, 12], [9, 11])])
def frac_Cmp.B3 : List Nat := [0, 1, 0, 4, 15, 0, 32, 0, 128, 480, 0, 0, 3103, 8191]
theorem frac_Cmp.tab3 : rtab .any (opsOf Try.f41 3) = frac_Cmp.T3 := by kernel_rfl
theorem frac_Cmp.bits3 : waitsOk frac_Cmp.T3.2 frac_Cmp.B3 = true := by kernel_rfl
def frac_Cmp.T11 : Bool × List (List Nat × List Nat) := (true, [([], []), ([0], [0]), ([], []), ([2], [2]), ([1, 3], [1, 3]), ([], []), ([], []), ([5, 6], [5, 6]), ([4, 0, 1, 2, 3, 4], [4]), ([7, 8, 0, 1, 2, 3, 4, 5, 6, 7, 8], [7])])
def frac_Cmp.B11 : List Nat := [0, 1, 0, 4, 15, 0, 0, 96, 31, 511]
theorem frac_Cmp.tab11 : rtab .any (opsOf Try.f41 11) = frac_Cmp.T11 := by kernel_rfl
theorem frac_Cmp.bits11 : waitsOk frac_Cmp.T11.2 frac_Cmp.B11 = true := by kernel_rfl
set_option maxHeartbeats 8000000 in
set_option maxRecDepth 100000 in
theorem frac_Cmp.calls (k : Nat) (a0_0 : Int) (a0_1 : Int) (a0_2 : Int) (a0_3 : Int) (a1_0 : Int) (a1_1 : Int) (a1_2 : Int) (a1_3 : Int) (r : Int) (w : World) (h : frac_Cmp.f k a0_0 a0_1 a0_2 a0_3 a1_0 a1_1 a1_2 a1_3 = some r) :
    Calls Try.prog 41 #[.agg #[.int .i64 a0_0, .int .u64 a0_1, .int .i64 a0_2, .int .u64 a0_3], .agg #[.int .i64 a1_0, .int .u64 a1_1, .int .i64 a1_2, .int .u64 a1_3]] w fun e w' => e = .returned (.int .i64 r) ∧ Below w.heap.size w w' := by
  have hu62 := Try.underlying62
  have hu24 := Try.underlying24
  have hu107 := Try.underlying107
  have HB := Aside0.mk (Below.refl w.heap.size w)
  have H : ((frac_Right.f a0_0 a0_1 a0_2 a0_3).bind fun t867 => (if t867 = true then ((frac_Right.f a1_0 a1_1 a1_2 a1_3).bind fun t868 => (frac_Cmp.j0 k (!t868) a0_0 a0_1 a0_2 a0_3 a1_0 a1_1 a1_2 a1_3)) else (frac_Cmp.j0 k true a0_0 a0_1 a0_2 a0_3 a1_0 a1_1 a1_2 a1_3))) = some r := h
  clear h
  have HC3 := Aside0.mk H
  clear H
  go_enter Try.func41, Try.ntmps41
  go_upto_region 1 with (first | ((with_reducible refine gate_dst (N := 2) rfl ?_); refine box_event ?hg (N := 2) ?hd (cs := #[.int .i64 a0_0, .int .u64 a0_1, .int .i64 a0_2, .int .u64 a0_3]) (t := 62) ?hr ?_; (case hd => rfl); (case hg => rfl); (case hr => first | (go_simp; done) | (go_simp; rfl)); intro gb865 hg w4 hbox hb; have BK865 := Aside0.mk (hbox); have GW865 := kS HB hg; have GE865 := kS HB hg; replace HB := kB HB hb; clear hb hbox hg) | ((with_reducible refine gate_dst (N := 3) rfl ?_); refine box_event ?hg (N := 3) ?hd (cs := #[.int .i64 a1_0, .int .u64 a1_1, .int .i64 a1_2, .int .u64 a1_3]) (t := 62) ?hr ?_; (case hd => rfl); (case hg => rfl); (case hr => first | (go_simp; done) | (go_simp; rfl)); intro gb866 hg w5 hbox hb; have BK866 := Aside0.mk (hbox); have GW866 := kS HB hg; have GE866 := kS HB hg; have NB865_866 := kN BK865 hg; have NB866_865 := kM BK865 hg; replace BK865 := kb BK865 hb; replace HB := kB HB hb; clear hb hbox hg))
  (try simp only [Act.put, s1, s2, s3])
  go_cut [21] (fun v21 wc => ∃ (kq : Nat) (x21_2 : Bool), v21 = .bool x21_2 ∧ Aside0 (frac_Cmp.j0 kq x21_2 a0_0 a0_1 a0_2 a0_3 a1_0 a1_1 a1_2 a1_3 = some r) ∧ Aside0 (kq ≤ k) ∧ Aside0 (wc.heap[gb865]? = some (.cells #[.int .i64 a0_0, .int .u64 a0_1, .int .i64 a0_2, .int .u64 a0_3] 62 (0, 0))) ∧ Aside0 (wc.heap[gb866]? = some (.cells #[.int .i64 a1_0, .int .u64 a1_1, .int .i64 a1_2, .int .u64 a1_3] 62 (0, 0))) ∧ Aside0 (Below w.heap.size w wc))
  case first =>
    have H := HC3.out; clear HC3
    replace H := Option.bind_eq_some_iff.mp H
    obtain ⟨t867, A60, H⟩ := H
    replace H : (if t867 = true then ((frac_Right.f a1_0 a1_1 a1_2 a1_3).bind fun t868 => (frac_Cmp.j0 k (!t868) a0_0 a0_1 a0_2 a0_3 a1_0 a1_1 a1_2 a1_3)) else (frac_Cmp.j0 k true a0_0 a0_1 a0_2 a0_3 a1_0 a1_1 a1_2 a1_3)) = some r := H
    have A6 := Aside0.mk A60
    clear A60
    by_cases c7 : t867 = true
    rotate_left
    · replace c7 := Bool.eq_false_iff.mpr c7
      subst c7
      have H1 : (frac_Cmp.j0 k true a0_0 a0_1 a0_2 a0_3 a1_0 a1_1 a1_2 a1_3) = some r := by rw [if_neg (show ¬ (false = true) by decide)] at H; exact H
      clear H; have H := H1; clear H1
      have H' := Aside0.mk H
      clear H; have hnb14 := NB865_866.out; have hnc14 := NB866_865.out
      have hcz15_0 : w5.cell? ⟨gb865, 0, none⟩ = some (.int .i64 a0_0) := kc BK865 0
      have hcz15_1 : w5.cell? ⟨gb865, 1, none⟩ = some (.int .u64 a0_1) := kc BK865 1
      have hcz15_2 : w5.cell? ⟨gb865, 2, none⟩ = some (.int .i64 a0_2) := kc BK865 2
      have hcz15_3 : w5.cell? ⟨gb865, 3, none⟩ = some (.int .u64 a0_3) := kc BK865 3
      have hfz15_0 := blk_frozen BK865.out 0
      have hfz15_1 := blk_frozen BK865.out 1
      have hfz15_2 := blk_frozen BK865.out 2
      have hfz15_3 := blk_frozen BK865.out 3
      go_wp2_with (first | ((with_reducible refine gate_callee (f := 49) rfl ?_); refine goesL_ (some 15) rfl rfl Try.func49 (by kernel_rfl) rfl #[.agg #[.int .i64 a0_0, .int .u64 a0_1, .int .i64 a0_2, .int .u64 a0_3]] rfl (by (try simp only [List.map_toArray, List.map_cons, List.map_nil]); first | done | rfl | (simp only [List.length_drop, List.length_take]; rfl)) ?_; (with_reducible refine (frac_Right.calls a0_0 a0_1 a0_2 a0_3 false _ A6.out).mono ?_); rintro e w16 ⟨rfl, hb⟩; refine ⟨_, rfl, ?_⟩; replace BK865 := kb BK865 hb; replace BK866 := kb BK866 hb; replace HB := kB HB hb; (try clear hb); (try clear hb2); (try clear hk); (try clear hi)))
      go_meet
      case rel => exact ⟨_, (true), (by first | rfl | (simp; done) | (simp [*]; done)), H', ⟨by first | omega | exact Nat.le_refl _⟩, ⟨kx BK865⟩, ⟨kx BK866⟩, ⟨ky HB⟩⟩
    subst c7
    have H1 : ((frac_Right.f a1_0 a1_1 a1_2 a1_3).bind fun t868 => (frac_Cmp.j0 k (!t868) a0_0 a0_1 a0_2 a0_3 a1_0 a1_1 a1_2 a1_3)) = some r := by rw [if_pos rfl] at H; exact H
    clear H; have H := H1; clear H1
    replace H := Option.bind_eq_some_iff.mp H
    obtain ⟨t868, A80, H⟩ := H
    replace H : (frac_Cmp.j0 k (!t868) a0_0 a0_1 a0_2 a0_3 a1_0 a1_1 a1_2 a1_3) = some r := H
    have A8 := Aside0.mk A80
    clear A80
    have H' := Aside0.mk H
    clear H; have hnb9 := NB865_866.out; have hnc9 := NB866_865.out
    have hcz10_0 : w5.cell? ⟨gb865, 0, none⟩ = some (.int .i64 a0_0) := kc BK865 0
    have hcz10_1 : w5.cell? ⟨gb865, 1, none⟩ = some (.int .u64 a0_1) := kc BK865 1
    have hcz10_2 : w5.cell? ⟨gb865, 2, none⟩ = some (.int .i64 a0_2) := kc BK865 2
    have hcz10_3 : w5.cell? ⟨gb865, 3, none⟩ = some (.int .u64 a0_3) := kc BK865 3
    have hfz10_0 := blk_frozen BK865.out 0
    have hfz10_1 := blk_frozen BK865.out 1
    have hfz10_2 := blk_frozen BK865.out 2
    have hfz10_3 := blk_frozen BK865.out 3
    go_wp2_with (first | ((with_reducible refine gate_callee (f := 49) rfl ?_); refine goesL_ (some 15) rfl rfl Try.func49 (by kernel_rfl) rfl #[.agg #[.int .i64 a0_0, .int .u64 a0_1, .int .i64 a0_2, .int .u64 a0_3]] rfl (by (try simp only [List.map_toArray, List.map_cons, List.map_nil]); first | done | rfl | (simp only [List.length_drop, List.length_take]; rfl)) ?_; (with_reducible refine (frac_Right.calls a0_0 a0_1 a0_2 a0_3 true _ A6.out).mono ?_); rintro e w11 ⟨rfl, hb⟩; refine ⟨_, rfl, ?_⟩; replace BK865 := kb BK865 hb; replace BK866 := kb BK866 hb; replace HB := kB HB hb; (try clear hb); (try clear hb2); (try clear hk); (try clear hi); have hcz12_0 : w11.cell? ⟨gb866, 0, none⟩ = some (.int .i64 a1_0) := kc BK866 0; have hcz12_1 : w11.cell? ⟨gb866, 1, none⟩ = some (.int .u64 a1_1) := kc BK866 1; have hcz12_2 : w11.cell? ⟨gb866, 2, none⟩ = some (.int .i64 a1_2) := kc BK866 2; have hcz12_3 : w11.cell? ⟨gb866, 3, none⟩ = some (.int .u64 a1_3) := kc BK866 3; have hfz12_0 := blk_frozen BK866.out 0; have hfz12_1 := blk_frozen BK866.out 1; have hfz12_2 := blk_frozen BK866.out 2; have hfz12_3 := blk_frozen BK866.out 3) | (go_at_call 49; (with_reducible refine (frac_Right.calls a1_0 a1_1 a1_2 a1_3 t868 _ A8.out).mono ?_); rintro e w13 ⟨rfl, hb⟩; replace BK865 := kb BK865 hb; replace BK866 := kb BK866 hb; replace HB := kB HB hb; (try clear hb); (try clear hb2); (try clear hk); (try clear hi)))
    go_meet
    case rel => exact ⟨_, (!t868), (by first | rfl | (simp; done) | (simp [*]; done)), H', ⟨by first | omega | exact Nat.le_refl _⟩, ⟨kx BK865⟩, ⟨kx BK866⟩, ⟨ky HB⟩⟩
  case rest =>
    clear HC3; try clear c1; try clear p2; try clear c4; try clear c7; try clear c9; try clear c14; try clear hcz10_0; try clear hcz10_1; try clear hcz10_2; try clear hcz10_3; try clear hcz12_0; try clear hcz12_1; try clear hcz12_2; try clear hcz12_3; try clear hcz15_0; try clear hcz15_1; try clear hcz15_2; try clear hcz15_3; try clear hfz10_0; try clear hfz10_1; try clear hfz10_2; try clear hfz10_3; try clear hfz12_0; try clear hfz12_1; try clear hfz12_2; try clear hfz12_3; try clear hfz15_0; try clear hfz15_1; try clear hfz15_2; try clear hfz15_3
    obtain ⟨kq, x21_2, rfl, HA, HJ2, BK865, BK866, HB⟩ := hcut
    cases kq with
    | zero => exact absurd HA.out (by simp [frac_Cmp.j0])
    | succ kj2 =>
      have H := HA.out; clear HA
      simp only [frac_Cmp.j0] at H
      by_cases c17 : x21_2 = true
      · subst c17
        have H1 : (some 0) = some r := by rw [if_pos rfl] at H; exact H
        clear H; have H := H1; clear H1
        obtain rfl := Option.some.inj H
        go_wp2
        go_ret
        exact ⟨by first | rfl | (simp [errW_none, errW_some] <;> rfl) | (simp [*, errW_none, errW_some] <;> rfl), ky HB⟩
      replace c17 := Bool.eq_false_iff.mpr c17
      subst c17
      have H1 : (frac_Cmp.l0 kj2 a0_0 a0_1 a1_0 a1_1 a0_2 a0_3 a1_2 a1_3) = some r := by rw [if_neg (show ¬ (false = true) by decide)] at H; exact H
      clear H; have H := H1; clear H1
      have H' := Aside0.mk H
      clear H
      try go_wp2
      replace BK865 := Aside0.mk (blk_drew BK865.out)
      replace BK866 := Aside0.mk (blk_drew BK866.out)
      replace HB := Aside0.mk (below_drew1 HB.out)
      refine start_ (n := 14) (S := fun w' => w'.cell? ⟨gb865, 0, none⟩ = some (.int .i64 a0_0) ∧ w'.cell? ⟨gb865, 1, none⟩ = some (.int .u64 a0_1) ∧ w'.cell? ⟨gb865, 2, none⟩ = some (.int .i64 a0_2) ∧ w'.cell? ⟨gb865, 3, none⟩ = some (.int .u64 a0_3) ∧ w'.cell? ⟨gb866, 0, none⟩ = some (.int .i64 a1_0) ∧ w'.cell? ⟨gb866, 1, none⟩ = some (.int .u64 a1_1) ∧ w'.cell? ⟨gb866, 2, none⟩ = some (.int .i64 a1_2) ∧ w'.cell? ⟨gb866, 3, none⟩ = some (.int .u64 a1_3)) (ds := []) #[O, O, O, O, O, O, O, O, O, O, O, O, O, O] (by kernel_rfl) rfl rfl ⟨kc BK865 0, kc BK865 1, kc BK865 2, kc BK865 3, kc BK866 0, kc BK866 1, kc BK866 2, kc BK866 3⟩ (fun hHeld => ?_); refine with_tabW frac_Cmp.tab3 frac_Cmp.bits3 (fun HT_ HW_ => ?_)
      generalize wc.drew = w18 at BK865 BK866 HB hHeld ⊢
      refine pure_ (i := 0) (N := some 22) (v := ?_) (a' := ?_) #[T, O, O, O, O, O, O, O, O, O, O, O, O, O] rfl rfl (any_of HT_.out (by kernel_rfl)) (fun _ _ _ h => h) (Or.inl ⟨by rfl, ?_⟩) ?_ ?_; rotate_left; focus (intro w'; go_simp; with_reducible rfl)
      rotate_left; focus (simp only [Act.put, s1, s2, s3, i64_w, i32_w]; rfl)
      refine pure_ (i := 2) (N := some 24) (v := ?_) (a' := ?_) #[T, O, T, O, O, O, O, O, O, O, O, O, O, O] rfl rfl (any_of HT_.out (by kernel_rfl)) (fun _ _ _ h => h) (Or.inl ⟨by rfl, ?_⟩) ?_ ?_; rotate_left; focus (intro w'; go_simp; with_reducible rfl)
      rotate_left; focus (simp only [Act.put, s1, s2, s3, i64_w, i32_w]; rfl)
      refine pure_ (i := 5) (N := some 27) (v := ?_) (a' := ?_) #[T, O, T, O, O, T, O, O, O, O, O, O, O, O] rfl rfl (any_of HT_.out (by kernel_rfl)) (fun _ _ _ h => h) (Or.inl ⟨by rfl, ?_⟩) ?_ ?_; rotate_left; focus (intro w'; go_simp; with_reducible rfl)
      rotate_left; focus (simp only [Act.put, s1, s2, s3, i64_w, i32_w]; rfl)
      refine pure_ (i := 7) (N := some 29) (v := ?_) (a' := ?_) #[T, O, T, O, O, T, O, T, O, O, O, O, O, O] rfl rfl (any_of HT_.out (by kernel_rfl)) (fun _ _ _ h => h) (Or.inl ⟨by rfl, ?_⟩) ?_ ?_; rotate_left; focus (intro w'; go_simp; with_reducible rfl)
      rotate_left; focus (simp only [Act.put, s1, s2, s3, i64_w, i32_w]; rfl)
      refine take_ (i := 1) (N := some 23) (v := ?_) (a' := ?_) #[T, T, T, O, O, T, O, T, O, O, O, O, O, O] rfl rfl (take_ofW HT_.out HW_.out (by kernel_rfl)) (fun _ _ _ h => h) (Or.inl ⟨by rfl, ?_⟩) hHeld ?_ ?_; rotate_left; focus (rintro w' ⟨s0, s1, s2, s3, s4, s5, s6, s7⟩; go_simp; with_reducible rfl)
      rotate_left; focus (simp only [Act.put, s1, s2, s3, i64_w, i32_w]; rfl)
      refine take_ (i := 3) (N := some 25) (v := ?_) (a' := ?_) #[T, T, T, T, O, T, O, T, O, O, O, O, O, O] rfl rfl (take_ofW HT_.out HW_.out (by kernel_rfl)) (fun _ _ _ h => h) (Or.inl ⟨by rfl, ?_⟩) hHeld ?_ ?_; rotate_left; focus (rintro w' ⟨s0, s1, s2, s3, s4, s5, s6, s7⟩; go_simp; with_reducible rfl)
      rotate_left; focus (simp only [Act.put, s1, s2, s3, i64_w, i32_w]; rfl)
      refine pure_ (i := 4) (N := some 26) (v := ?_) (a' := ?_) #[T, T, T, T, T, T, O, T, O, O, O, O, O, O] rfl rfl (any_of HT_.out (by kernel_rfl)) (fun _ _ _ h => h) (Or.inl ⟨by rfl, ?_⟩) ?_ ?_; rotate_left; focus (intro w'; go_simp; with_reducible rfl)
      rotate_left; focus (simp only [Act.put, s1, s2, s3, i64_w, i32_w]; rfl)
      refine take_ (i := 6) (N := some 28) (v := ?_) (a' := ?_) #[T, T, T, T, T, T, T, T, O, O, O, O, O, O] rfl rfl (take_ofW HT_.out HW_.out (by kernel_rfl)) (fun _ _ _ h => h) (Or.inl ⟨by rfl, ?_⟩) hHeld ?_ ?_; rotate_left; focus (rintro w' ⟨s0, s1, s2, s3, s4, s5, s6, s7⟩; go_simp; with_reducible rfl)
      rotate_left; focus (simp only [Act.put, s1, s2, s3, i64_w, i32_w]; rfl)
      refine take_ (i := 8) (N := some 30) (v := ?_) (a' := ?_) #[T, T, T, T, T, T, T, T, T, O, O, O, O, O] rfl rfl (take_ofW HT_.out HW_.out (by kernel_rfl)) (fun _ _ _ h => h) (Or.inl ⟨by rfl, ?_⟩) hHeld ?_ ?_; rotate_left; focus (rintro w' ⟨s0, s1, s2, s3, s4, s5, s6, s7⟩; go_simp; with_reducible rfl)
      rotate_left; focus (simp only [Act.put, s1, s2, s3, i64_w, i32_w]; rfl)
      refine pure_ (i := 9) (N := some 31) (v := ?_) (a' := ?_) #[T, T, T, T, T, T, T, T, T, T, O, O, O, O] rfl rfl (any_of HT_.out (by kernel_rfl)) (fun _ _ _ h => h) (Or.inl ⟨by rfl, ?_⟩) ?_ ?_; rotate_left; focus (intro w'; go_simp; with_reducible rfl)
      rotate_left; focus (simp only [Act.put, s1, s2, s3, i64_w, i32_w]; rfl)
      refine join_ (σ := Nat × Nat) 2 #[T, T, T, T, T, T, T, T, T, T, T, T, O, O] (fun s_ => [(5, .pointer (some ⟨s_.1, 0, none⟩)), (6, .pointer (some ⟨s_.2, 0, none⟩))]) (fun s_ w' => (w'.cell? ⟨gb865, 0, none⟩ = some (.int .i64 a0_0) ∧ w'.cell? ⟨gb865, 1, none⟩ = some (.int .u64 a0_1) ∧ w'.cell? ⟨gb865, 2, none⟩ = some (.int .i64 a0_2) ∧ w'.cell? ⟨gb865, 3, none⟩ = some (.int .u64 a0_3) ∧ w'.cell? ⟨gb866, 0, none⟩ = some (.int .i64 a1_0) ∧ w'.cell? ⟨gb866, 1, none⟩ = some (.int .u64 a1_1) ∧ w'.cell? ⟨gb866, 2, none⟩ = some (.int .i64 a1_2) ∧ w'.cell? ⟨gb866, 3, none⟩ = some (.int .u64 a1_3)) ∧ (w'.heap[gb865]? = some (.cells #[.int .i64 a0_0, .int .u64 a0_1, .int .i64 a0_2, .int .u64 a0_3] 62 (0, 0))) ∧ (w'.heap[gb866]? = some (.cells #[.int .i64 a1_0, .int .u64 a1_1, .int .i64 a1_2, .int .u64 a1_3] 62 (0, 0))) ∧ (w'.heap[s_.1]? = some (.cells #[.int .i64 0, .int .u64 0, .int .i64 0, .int .u64 0] 107 (0, 0))) ∧ (w'.heap[s_.2]? = some (.cells #[.int .i64 0, .int .u64 0, .int .i64 0, .int .u64 0] 107 (0, 0))) ∧ (w.heap.size ≤ s_.1) ∧ (w.heap.size ≤ s_.1) ∧ (gb865 ≠ s_.1) ∧ (s_.1 ≠ gb865) ∧ (gb866 ≠ s_.1) ∧ (s_.1 ≠ gb866) ∧ (s_.2 ≠ s_.1) ∧ (s_.1 ≠ s_.2) ∧ (w.heap.size ≤ s_.2) ∧ (w.heap.size ≤ s_.2) ∧ (gb865 ≠ s_.2) ∧ (s_.2 ≠ gb865) ∧ (gb866 ≠ s_.2) ∧ (s_.2 ≠ gb866) ∧ (Below w.heap.size w w')) ?_ ?_
      rotate_left
      · intro hCont
        refine two_ (i := 10) (j := 11) (Ni := some 5) (Nj := some 6) #[T, T, T, T, T, T, T, T, T, T, T, O, O, O] #[T, T, T, T, T, T, T, T, T, T, O, T, O, O] rfl rfl rfl rfl (two_of HT_.out (by kernel_rfl)) (by decide) (by decide) (fun K hK => ?_) (fun K hK => ?_)
        · skip
          refine box_step ?hg (N := 5) ?hd (cs := #[.int .i64 0, .int .u64 0, .int .i64 0, .int .u64 0]) (t := 107) ?hr ?_; (case hd => rfl); (case hg => rfl); (case hr => first | (go_simp; done) | (go_simp; rfl))
          intro gb869 hg w19 hbox hb
          have BK869 := Aside0.mk (hbox)
          have GW869 := kS HB hg
          have GE869 := kS HB hg
          have NB865_869 := kN BK865 hg
          have NB869_865 := kM BK865 hg
          have NB866_869 := kN BK866 hg
          have NB869_866 := kM BK866 hg
          replace BK865 := kb BK865 hb
          replace BK866 := kb BK866 hb
          replace HB := kB HB hb
          clear hb hbox hg
          refine hK.out _ _ ⟨kc BK865 0, kc BK865 1, kc BK865 2, kc BK865 3, kc BK866 0, kc BK866 1, kc BK866 2, kc BK866 3⟩ (fun hHeld => ?_)
          clear hK K
          refine norm_ (a' := ?_) ?_ ?_; rotate_left; focus (show Act.put _ (some 5) _ = _; simp only [Act.put, s1, s2, s3, i64_w, i32_w]; rfl)
          refine one_ (i := 11) (N := some 6) #[T, T, T, T, T, T, T, T, T, T, T, T, O, O] rfl rfl (one_of HT_.out (by kernel_rfl)) (by decide) (fun K hK => ?_)
          refine box_step ?hg (N := 6) ?hd (cs := #[.int .i64 0, .int .u64 0, .int .i64 0, .int .u64 0]) (t := 107) ?hr ?_; (case hd => rfl); (case hg => rfl); (case hr => first | (go_simp; done) | (go_simp; rfl))
          intro gb870 hg w20 hbox hb
          have BK870 := Aside0.mk (hbox)
          have GW870 := kS HB hg
          have GE870 := kS HB hg
          have NB865_870 := kN BK865 hg
          have NB870_865 := kM BK865 hg
          have NB866_870 := kN BK866 hg
          have NB870_866 := kM BK866 hg
          have NB869_870 := kN BK869 hg
          have NB870_869 := kM BK869 hg
          replace BK865 := kb BK865 hb
          replace BK866 := kb BK866 hb
          replace BK869 := kb BK869 hb
          replace HB := kB HB hb
          clear hb hbox hg
          refine hK.out _ _ ⟨kc BK865 0, kc BK865 1, kc BK865 2, kc BK865 3, kc BK866 0, kc BK866 1, kc BK866 2, kc BK866 3⟩ (fun hHeld => ?_)
          clear hK K
          refine norm_ (a' := ?_) ?_ ?_; rotate_left; focus (show Act.put _ (some 6) _ = _; simp only [Act.put, s1, s2, s3, i64_w, i32_w]; rfl)
          exact norm_ (by simp only [putAll, Act.put, s1, s2, s3]) (hCont (gb869, gb870) _ ⟨hHeld, (kx BK865), (kx BK866), (kx BK869), (kx BK870), GW869.out, GE869.out, NB865_869.out, NB869_865.out, NB866_869.out, NB869_866.out, NB870_869.out, NB869_870.out, GW870.out, GE870.out, NB865_870.out, NB870_865.out, NB866_870.out, NB870_866.out, (ky HB)⟩)
        · skip
          refine box_step ?hg (N := 6) ?hd (cs := #[.int .i64 0, .int .u64 0, .int .i64 0, .int .u64 0]) (t := 107) ?hr ?_; (case hd => rfl); (case hg => rfl); (case hr => first | (go_simp; done) | (go_simp; rfl))
          intro gb870 hg w19 hbox hb
          have BK870 := Aside0.mk (hbox)
          have GW870 := kS HB hg
          have GE870 := kS HB hg
          have NB865_870 := kN BK865 hg
          have NB870_865 := kM BK865 hg
          have NB866_870 := kN BK866 hg
          have NB870_866 := kM BK866 hg
          replace BK865 := kb BK865 hb
          replace BK866 := kb BK866 hb
          replace HB := kB HB hb
          clear hb hbox hg
          refine hK.out _ _ ⟨kc BK865 0, kc BK865 1, kc BK865 2, kc BK865 3, kc BK866 0, kc BK866 1, kc BK866 2, kc BK866 3⟩ (fun hHeld => ?_)
          clear hK K
          refine norm_ (a' := ?_) ?_ ?_; rotate_left; focus (show Act.put _ (some 6) _ = _; simp only [Act.put, s1, s2, s3, i64_w, i32_w]; rfl)
          refine one_ (i := 10) (N := some 5) #[T, T, T, T, T, T, T, T, T, T, T, T, O, O] rfl rfl (one_of HT_.out (by kernel_rfl)) (by decide) (fun K hK => ?_)
          refine box_step ?hg (N := 5) ?hd (cs := #[.int .i64 0, .int .u64 0, .int .i64 0, .int .u64 0]) (t := 107) ?hr ?_; (case hd => rfl); (case hg => rfl); (case hr => first | (go_simp; done) | (go_simp; rfl))
          intro gb869 hg w20 hbox hb
          have BK869 := Aside0.mk (hbox)
          have GW869 := kS HB hg
          have GE869 := kS HB hg
          have NB865_869 := kN BK865 hg
          have NB869_865 := kM BK865 hg
          have NB866_869 := kN BK866 hg
          have NB869_866 := kM BK866 hg
          have NB870_869 := kN BK870 hg
          have NB869_870 := kM BK870 hg
          replace BK865 := kb BK865 hb
          replace BK866 := kb BK866 hb
          replace BK870 := kb BK870 hb
          replace HB := kB HB hb
          clear hb hbox hg
          refine hK.out _ _ ⟨kc BK865 0, kc BK865 1, kc BK865 2, kc BK865 3, kc BK866 0, kc BK866 1, kc BK866 2, kc BK866 3⟩ (fun hHeld => ?_)
          clear hK K
          refine norm_ (a' := ?_) ?_ ?_; rotate_left; focus (show Act.put _ (some 5) _ = _; simp only [Act.put, s1, s2, s3, i64_w, i32_w]; rfl)
          exact norm_ (by simp only [putAll, Act.put, s1, s2, s3]) (hCont (gb869, gb870) _ ⟨hHeld, (kx BK865), (kx BK866), (kx BK869), (kx BK870), GW869.out, GE869.out, NB865_869.out, NB869_865.out, NB866_869.out, NB869_866.out, NB870_869.out, NB869_870.out, GW870.out, GE870.out, NB865_870.out, NB870_865.out, NB866_870.out, NB870_866.out, (ky HB)⟩)
      rintro ⟨gb869, gb870⟩ w21 ⟨hS_, h0_, h1_, h2_, h3_, h4_, h5_, h6_, h7_, h8_, h9_, h10_, h11_, h12_, h13_, h14_, h15_, h16_, h17_, h18_⟩
      clear BK865 BK866 HB
      have BK865 := A0 h0_; have BK866 := A0 h1_; have BK869 := A0 h2_; have BK870 := A0 h3_; have GW869 := A0 h4_; have GE869 := A0 h5_; have NB865_869 := A0 h6_; have NB869_865 := A0 h7_; have NB866_869 := A0 h8_; have NB869_866 := A0 h9_; have NB870_869 := A0 h10_; have NB869_870 := A0 h11_; have GW870 := A0 h12_; have GE870 := A0 h13_; have NB865_870 := A0 h14_; have NB870_865 := A0 h15_; have NB866_870 := A0 h16_; have NB870_866 := A0 h17_; have HB := A0 h18_
      clear h0_ h1_ h2_ h3_ h4_ h5_ h6_ h7_ h8_ h9_ h10_ h11_ h12_ h13_ h14_ h15_ h16_ h17_ h18_
      have hHeld := hS_
      refine norm_ (a' := ?_) ?_ ?_; rotate_left; focus (simp only [putAll, Act.put, s1, s2, s3]; rfl)
      refine one_ (i := 12) (N := none) #[T, T, T, T, T, T, T, T, T, T, T, T, T, O] rfl rfl (one_of HT_.out (by kernel_rfl)) (by decide) (fun K hK => ?_)
      have hs22 : w21.cell? ⟨gb869, 0, none⟩ = some (.int .i64 0) := kc BK869 0
      have hfs22 := blk_frozen BK869.out 0
      have hns22_0 := NB865_869.out; have hns22_1 := NB866_869.out; have hns22_3 := NB870_869.out; have hms22_0 := NB869_865.out; have hms22_1 := NB869_866.out; have hms22_3 := NB869_870.out
      have hs23 : w21.cell? ⟨gb869, 1, none⟩ = some (.int .u64 0) := kc BK869 1
      have hfs23 := blk_frozen BK869.out 1
      have hns23_0 := NB865_869.out; have hns23_1 := NB866_869.out; have hns23_3 := NB870_869.out; have hms23_0 := NB869_865.out; have hms23_1 := NB869_866.out; have hms23_3 := NB869_870.out
      have hs24 : w21.cell? ⟨gb869, 2, none⟩ = some (.int .i64 0) := kc BK869 2
      have hfs24 := blk_frozen BK869.out 2
      have hns24_0 := NB865_869.out; have hns24_1 := NB866_869.out; have hns24_3 := NB870_869.out; have hms24_0 := NB869_865.out; have hms24_1 := NB869_866.out; have hms24_3 := NB869_870.out
      have hs25 : w21.cell? ⟨gb869, 3, none⟩ = some (.int .u64 0) := kc BK869 3
      have hfs25 := blk_frozen BK869.out 3
      have hns25_0 := NB865_869.out; have hns25_1 := NB866_869.out; have hns25_3 := NB870_869.out; have hms25_0 := NB869_865.out; have hms25_1 := NB869_866.out; have hms25_3 := NB869_870.out
      refine skip_ (w1 := ?_) (by rfl) rfl ?_ ?_
      rotate_left
      · go_simp
        rfl
      refine hK.out _ _ ⟨((cell_far (p := ⟨gb869, _, none⟩) NB865_869.out _).trans (((cell_far (p := ⟨gb869, _, none⟩) NB865_869.out _).trans (((cell_far (p := ⟨gb869, _, none⟩) NB865_869.out _).trans (((cell_far (p := ⟨gb869, _, none⟩) NB865_869.out _).trans (hHeld.1)))))))), ((cell_far (p := ⟨gb869, _, none⟩) NB865_869.out _).trans (((cell_far (p := ⟨gb869, _, none⟩) NB865_869.out _).trans (((cell_far (p := ⟨gb869, _, none⟩) NB865_869.out _).trans (((cell_far (p := ⟨gb869, _, none⟩) NB865_869.out _).trans (hHeld.2.1)))))))), ((cell_far (p := ⟨gb869, _, none⟩) NB865_869.out _).trans (((cell_far (p := ⟨gb869, _, none⟩) NB865_869.out _).trans (((cell_far (p := ⟨gb869, _, none⟩) NB865_869.out _).trans (((cell_far (p := ⟨gb869, _, none⟩) NB865_869.out _).trans (hHeld.2.2.1)))))))), ((cell_far (p := ⟨gb869, _, none⟩) NB865_869.out _).trans (((cell_far (p := ⟨gb869, _, none⟩) NB865_869.out _).trans (((cell_far (p := ⟨gb869, _, none⟩) NB865_869.out _).trans (((cell_far (p := ⟨gb869, _, none⟩) NB865_869.out _).trans (hHeld.2.2.2.1)))))))), ((cell_far (p := ⟨gb869, _, none⟩) NB866_869.out _).trans (((cell_far (p := ⟨gb869, _, none⟩) NB866_869.out _).trans (((cell_far (p := ⟨gb869, _, none⟩) NB866_869.out _).trans (((cell_far (p := ⟨gb869, _, none⟩) NB866_869.out _).trans (hHeld.2.2.2.2.1)))))))), ((cell_far (p := ⟨gb869, _, none⟩) NB866_869.out _).trans (((cell_far (p := ⟨gb869, _, none⟩) NB866_869.out _).trans (((cell_far (p := ⟨gb869, _, none⟩) NB866_869.out _).trans (((cell_far (p := ⟨gb869, _, none⟩) NB866_869.out _).trans (hHeld.2.2.2.2.2.1)))))))), ((cell_far (p := ⟨gb869, _, none⟩) NB866_869.out _).trans (((cell_far (p := ⟨gb869, _, none⟩) NB866_869.out _).trans (((cell_far (p := ⟨gb869, _, none⟩) NB866_869.out _).trans (((cell_far (p := ⟨gb869, _, none⟩) NB866_869.out _).trans (hHeld.2.2.2.2.2.2.1)))))))), ((cell_far (p := ⟨gb869, _, none⟩) NB866_869.out _).trans (((cell_far (p := ⟨gb869, _, none⟩) NB866_869.out _).trans (((cell_far (p := ⟨gb869, _, none⟩) NB866_869.out _).trans (((cell_far (p := ⟨gb869, _, none⟩) NB866_869.out _).trans (hHeld.2.2.2.2.2.2.2))))))))⟩ (fun hHeld => ?_)
      clear hK K
      refine one_ (i := 13) (N := none) #[T, T, T, T, T, T, T, T, T, T, T, T, T, T] rfl rfl (one_of HT_.out (by kernel_rfl)) (by decide) (fun K hK => ?_)
      have hs26 : w21.cell? ⟨gb870, 0, none⟩ = some (.int .i64 0) := kc BK870 0
      have hfs26 := blk_frozen BK870.out 0
      have hns26_0 := NB865_870.out; have hns26_1 := NB866_870.out; have hns26_2 := NB869_870.out; have hms26_0 := NB870_865.out; have hms26_1 := NB870_866.out; have hms26_2 := NB870_869.out
      have hs27 : w21.cell? ⟨gb870, 1, none⟩ = some (.int .u64 0) := kc BK870 1
      have hfs27 := blk_frozen BK870.out 1
      have hns27_0 := NB865_870.out; have hns27_1 := NB866_870.out; have hns27_2 := NB869_870.out; have hms27_0 := NB870_865.out; have hms27_1 := NB870_866.out; have hms27_2 := NB870_869.out
      have hs28 : w21.cell? ⟨gb870, 2, none⟩ = some (.int .i64 0) := kc BK870 2
      have hfs28 := blk_frozen BK870.out 2
      have hns28_0 := NB865_870.out; have hns28_1 := NB866_870.out; have hns28_2 := NB869_870.out; have hms28_0 := NB870_865.out; have hms28_1 := NB870_866.out; have hms28_2 := NB870_869.out
      have hs29 : w21.cell? ⟨gb870, 3, none⟩ = some (.int .u64 0) := kc BK870 3
      have hfs29 := blk_frozen BK870.out 3
      have hns29_0 := NB865_870.out; have hns29_1 := NB866_870.out; have hns29_2 := NB869_870.out; have hms29_0 := NB870_865.out; have hms29_1 := NB870_866.out; have hms29_2 := NB870_869.out
      refine skip_ (w1 := ?_) (by rfl) rfl ?_ ?_
      rotate_left
      · go_simp
        rfl
      refine hK.out _ _ ⟨((cell_far (p := ⟨gb870, _, none⟩) NB865_870.out _).trans (((cell_far (p := ⟨gb870, _, none⟩) NB865_870.out _).trans (((cell_far (p := ⟨gb870, _, none⟩) NB865_870.out _).trans (((cell_far (p := ⟨gb870, _, none⟩) NB865_870.out _).trans (hHeld.1)))))))), ((cell_far (p := ⟨gb870, _, none⟩) NB865_870.out _).trans (((cell_far (p := ⟨gb870, _, none⟩) NB865_870.out _).trans (((cell_far (p := ⟨gb870, _, none⟩) NB865_870.out _).trans (((cell_far (p := ⟨gb870, _, none⟩) NB865_870.out _).trans (hHeld.2.1)))))))), ((cell_far (p := ⟨gb870, _, none⟩) NB865_870.out _).trans (((cell_far (p := ⟨gb870, _, none⟩) NB865_870.out _).trans (((cell_far (p := ⟨gb870, _, none⟩) NB865_870.out _).trans (((cell_far (p := ⟨gb870, _, none⟩) NB865_870.out _).trans (hHeld.2.2.1)))))))), ((cell_far (p := ⟨gb870, _, none⟩) NB865_870.out _).trans (((cell_far (p := ⟨gb870, _, none⟩) NB865_870.out _).trans (((cell_far (p := ⟨gb870, _, none⟩) NB865_870.out _).trans (((cell_far (p := ⟨gb870, _, none⟩) NB865_870.out _).trans (hHeld.2.2.2.1)))))))), ((cell_far (p := ⟨gb870, _, none⟩) NB866_870.out _).trans (((cell_far (p := ⟨gb870, _, none⟩) NB866_870.out _).trans (((cell_far (p := ⟨gb870, _, none⟩) NB866_870.out _).trans (((cell_far (p := ⟨gb870, _, none⟩) NB866_870.out _).trans (hHeld.2.2.2.2.1)))))))), ((cell_far (p := ⟨gb870, _, none⟩) NB866_870.out _).trans (((cell_far (p := ⟨gb870, _, none⟩) NB866_870.out _).trans (((cell_far (p := ⟨gb870, _, none⟩) NB866_870.out _).trans (((cell_far (p := ⟨gb870, _, none⟩) NB866_870.out _).trans (hHeld.2.2.2.2.2.1)))))))), ((cell_far (p := ⟨gb870, _, none⟩) NB866_870.out _).trans (((cell_far (p := ⟨gb870, _, none⟩) NB866_870.out _).trans (((cell_far (p := ⟨gb870, _, none⟩) NB866_870.out _).trans (((cell_far (p := ⟨gb870, _, none⟩) NB866_870.out _).trans (hHeld.2.2.2.2.2.2.1)))))))), ((cell_far (p := ⟨gb870, _, none⟩) NB866_870.out _).trans (((cell_far (p := ⟨gb870, _, none⟩) NB866_870.out _).trans (((cell_far (p := ⟨gb870, _, none⟩) NB866_870.out _).trans (((cell_far (p := ⟨gb870, _, none⟩) NB866_870.out _).trans (hHeld.2.2.2.2.2.2.2))))))))⟩ (fun hHeld => ?_)
      clear hK K
      refine done_ (done_of HT_.out (by kernel_rfl)) ?_
      try go_wp2
      go_loopg [] kj2 (fun kq w' => ∃ (x870000_2 : Int) (x870001_2 : Int) (x870002_2 : Int) (x870003_2 : Int) (x871000_2 : Int) (x871001_2 : Int) (x871002_2 : Int) (x871003_2 : Int), Aside0 (frac_Cmp.l0 kq x870000_2 x870001_2 x870002_2 x870003_2 x871000_2 x871001_2 x871002_2 x871003_2 = some r) ∧ Aside0 (kq ≤ kj2) ∧ Aside0 (w'.heap[gb865]? = some (.cells #[.int .i64 a0_0, .int .u64 a0_1, .int .i64 a0_2, .int .u64 a0_3] 62 (0, 0))) ∧ Aside0 (w'.heap[gb866]? = some (.cells #[.int .i64 a1_0, .int .u64 a1_1, .int .i64 a1_2, .int .u64 a1_3] 62 (0, 0))) ∧ Aside0 (w'.heap[gb869]? = some (.cells #[.int .i64 x870000_2, .int .u64 x870001_2, .int .i64 x870002_2, .int .u64 x870003_2] 107 (0, 0))) ∧ Aside0 (w'.heap[gb870]? = some (.cells #[.int .i64 x871000_2, .int .u64 x871001_2, .int .i64 x871002_2, .int .u64 x871003_2] 107 (0, 0))) ∧ Aside0 (Below w.heap.size w w'))
      case atStart => exact ⟨(a0_0), (a0_1), (a1_0), (a1_1), (a0_2), (a0_3), (a1_2), (a1_3), H', ⟨Nat.le_refl _⟩, ⟨kx BK865⟩, ⟨kx BK866⟩, ⟨by (with_reducible repeat (first | refine blk_drewN ?_ _ | refine blk_drew ?_ | refine blk_alloc ?_ _)); refine blk_far ?_ NB869_870.out _; (with_reducible repeat (first | refine blk_drewN ?_ _ | refine blk_drew ?_ | refine blk_alloc ?_ _)); refine blk_far ?_ NB869_870.out _; (with_reducible repeat (first | refine blk_drewN ?_ _ | refine blk_drew ?_ | refine blk_alloc ?_ _)); refine blk_far ?_ NB869_870.out _; (with_reducible repeat (first | refine blk_drewN ?_ _ | refine blk_drew ?_ | refine blk_alloc ?_ _)); refine blk_far ?_ NB869_870.out _; (with_reducible repeat (first | refine blk_drewN ?_ _ | refine blk_drew ?_ | refine blk_alloc ?_ _)); refine blk_put (cs := #[.int .i64 a0_0, .int .u64 a0_1, .int .i64 a1_0, .int .u64 0]) ?_ 3 _ rfl; (with_reducible repeat (first | refine blk_drewN ?_ _ | refine blk_drew ?_ | refine blk_alloc ?_ _)); refine blk_put (cs := #[.int .i64 a0_0, .int .u64 a0_1, .int .i64 0, .int .u64 0]) ?_ 2 _ rfl; (with_reducible repeat (first | refine blk_drewN ?_ _ | refine blk_drew ?_ | refine blk_alloc ?_ _)); refine blk_put (cs := #[.int .i64 a0_0, .int .u64 0, .int .i64 0, .int .u64 0]) ?_ 1 _ rfl; (with_reducible repeat (first | refine blk_drewN ?_ _ | refine blk_drew ?_ | refine blk_alloc ?_ _)); refine blk_put (cs := #[.int .i64 0, .int .u64 0, .int .i64 0, .int .u64 0]) ?_ 0 _ rfl; (with_reducible repeat (first | refine blk_drewN ?_ _ | refine blk_drew ?_ | refine blk_alloc ?_ _)); exact BK869.out⟩, ⟨by (with_reducible repeat (first | refine blk_drewN ?_ _ | refine blk_drew ?_ | refine blk_alloc ?_ _)); refine blk_put (cs := #[.int .i64 a0_2, .int .u64 a0_3, .int .i64 a1_2, .int .u64 0]) ?_ 3 _ rfl; (with_reducible repeat (first | refine blk_drewN ?_ _ | refine blk_drew ?_ | refine blk_alloc ?_ _)); refine blk_put (cs := #[.int .i64 a0_2, .int .u64 a0_3, .int .i64 0, .int .u64 0]) ?_ 2 _ rfl; (with_reducible repeat (first | refine blk_drewN ?_ _ | refine blk_drew ?_ | refine blk_alloc ?_ _)); refine blk_put (cs := #[.int .i64 a0_2, .int .u64 0, .int .i64 0, .int .u64 0]) ?_ 1 _ rfl; (with_reducible repeat (first | refine blk_drewN ?_ _ | refine blk_drew ?_ | refine blk_alloc ?_ _)); refine blk_put (cs := #[.int .i64 0, .int .u64 0, .int .i64 0, .int .u64 0]) ?_ 0 _ rfl; (with_reducible repeat (first | refine blk_drewN ?_ _ | refine blk_drew ?_ | refine blk_alloc ?_ _)); refine blk_far ?_ NB870_869.out _; (with_reducible repeat (first | refine blk_drewN ?_ _ | refine blk_drew ?_ | refine blk_alloc ?_ _)); refine blk_far ?_ NB870_869.out _; (with_reducible repeat (first | refine blk_drewN ?_ _ | refine blk_drew ?_ | refine blk_alloc ?_ _)); refine blk_far ?_ NB870_869.out _; (with_reducible repeat (first | refine blk_drewN ?_ _ | refine blk_drew ?_ | refine blk_alloc ?_ _)); refine blk_far ?_ NB870_869.out _; (with_reducible repeat (first | refine blk_drewN ?_ _ | refine blk_drew ?_ | refine blk_alloc ?_ _)); exact BK870.out⟩, ⟨ky HB⟩⟩
      case round =>
        clear H'
        try clear c1; try clear p2; try clear c4; try clear c7; try clear c9; try clear c14; try clear c17; try clear hcz10_0; try clear hcz10_1; try clear hcz10_2; try clear hcz10_3; try clear hcz12_0; try clear hcz12_1; try clear hcz12_2; try clear hcz12_3; try clear hcz15_0; try clear hcz15_1; try clear hcz15_2; try clear hcz15_3; try clear hfz10_0; try clear hfz10_1; try clear hfz10_2; try clear hfz10_3; try clear hfz12_0; try clear hfz12_1; try clear hfz12_2; try clear hfz12_3; try clear hfz15_0; try clear hfz15_1; try clear hfz15_2; try clear hfz15_3; try clear p2
        obtain ⟨x870000_2, x870001_2, x870002_2, x870003_2, x871000_2, x871001_2, x871002_2, x871003_2, HA, HK2, BK865, BK866, BK869, BK870, HB⟩ := hrel
        cases gk with
        | zero => exact absurd HA.out (by simp [frac_Cmp.l0])
        | succ k2 =>
          have H := HA.out; clear HA
          simp only [frac_Cmp.l0] at H
          replace H := Option.bind_eq_some_iff.mp H
          obtain ⟨⟨t871, t872, t873, t874, t875⟩, A300, H⟩ := H
          replace H : ((wide_Div.f k2 x870002_2 x870003_2 x871002_2 x871003_2).bind fun bt878 => ((wide_Cmp.f k2 t871 t872 bt878.1 bt878.2.1).bind fun t885 => (if t885 = 0 then ((wide_Sign.f t873 t874).bind fun t886 => (if t886 = 0 then (frac_Cmp.j2 k2 true x871000_2 x871001_2 x871002_2 x871003_2 t873 t874 bt878.2.2.1 bt878.2.2.2.1) else ((wide_Sign.f bt878.2.2.1 bt878.2.2.2.1).bind fun t887 => (frac_Cmp.j2 k2 (t887 == 0) x871000_2 x871001_2 x871002_2 x871003_2 t873 t874 bt878.2.2.1 bt878.2.2.2.1)))) else (some t885)))) = some r := H
          have A30 := Aside0.mk A300
          clear A300
          replace H := Option.bind_eq_some_iff.mp H
          obtain ⟨⟨t878, t879, t880, t881, t882⟩, A310, H⟩ := H
          replace H : ((wide_Cmp.f k2 t871 t872 t878 t879).bind fun t885 => (if t885 = 0 then ((wide_Sign.f t873 t874).bind fun t886 => (if t886 = 0 then (frac_Cmp.j2 k2 true x871000_2 x871001_2 x871002_2 x871003_2 t873 t874 t880 t881) else ((wide_Sign.f t880 t881).bind fun t887 => (frac_Cmp.j2 k2 (t887 == 0) x871000_2 x871001_2 x871002_2 x871003_2 t873 t874 t880 t881)))) else (some t885))) = some r := H
          have A31 := Aside0.mk A310
          clear A310
          replace H := Option.bind_eq_some_iff.mp H
          obtain ⟨t885, A320, H⟩ := H
          replace H : (if t885 = 0 then ((wide_Sign.f t873 t874).bind fun t886 => (if t886 = 0 then (frac_Cmp.j2 k2 true x871000_2 x871001_2 x871002_2 x871003_2 t873 t874 t880 t881) else ((wide_Sign.f t880 t881).bind fun t887 => (frac_Cmp.j2 k2 (t887 == 0) x871000_2 x871001_2 x871002_2 x871003_2 t873 t874 t880 t881)))) else (some t885)) = some r := H
          have A32 := Aside0.mk A320
          clear A320
          by_cases c33 : t885 = 0
          rotate_left
          · rw [if_neg c33] at H
            have c33b0 : (t885 == 0) = false := beq_eq_false_iff_ne.mpr c33
            have c33b1 : (t885 != 0) = true := bne_iff_ne.mpr c33
            obtain rfl := Option.some.inj H
            have hnb122 := NB869_865.out; have hnc122 := NB865_869.out; have hnb123 := NB869_866.out; have hnc123 := NB866_869.out; have hnb124 := NB869_870.out; have hnc124 := NB870_869.out
            have hcz125_0 : wr.cell? ⟨gb869, 0, none⟩ = some (.int .i64 x870000_2) := kc BK869 0
            have hcz125_1 : wr.cell? ⟨gb869, 1, none⟩ = some (.int .u64 x870001_2) := kc BK869 1
            have hcz125_2 : wr.cell? ⟨gb869, 2, none⟩ = some (.int .i64 x870002_2) := kc BK869 2
            have hcz125_3 : wr.cell? ⟨gb869, 3, none⟩ = some (.int .u64 x870003_2) := kc BK869 3
            have hfz125_0 := blk_frozen BK869.out 0
            have hfz125_1 := blk_frozen BK869.out 1
            have hfz125_2 := blk_frozen BK869.out 2
            have hfz125_3 := blk_frozen BK869.out 3
            have hnb126 := NB870_865.out; have hnc126 := NB865_870.out; have hnb127 := NB870_866.out; have hnc127 := NB866_870.out
            have hcz128_0 : wr.cell? ⟨gb870, 0, none⟩ = some (.int .i64 x871000_2) := kc BK870 0
            have hcz128_1 : wr.cell? ⟨gb870, 1, none⟩ = some (.int .u64 x871001_2) := kc BK870 1
            have hcz128_2 : wr.cell? ⟨gb870, 2, none⟩ = some (.int .i64 x871002_2) := kc BK870 2
            have hcz128_3 : wr.cell? ⟨gb870, 3, none⟩ = some (.int .u64 x871003_2) := kc BK870 3
            have hfz128_0 := blk_frozen BK870.out 0
            have hfz128_1 := blk_frozen BK870.out 1
            have hfz128_2 := blk_frozen BK870.out 2
            have hfz128_3 := blk_frozen BK870.out 3
            go_wp2_with (first | ((with_reducible refine gate_callee (f := 27) rfl ?_); refine goesL_ (some 37) rfl rfl Try.func27 (by kernel_rfl) rfl #[.agg #[.int .i64 x870000_2, .int .u64 x870001_2], .agg #[.int .i64 x871000_2, .int .u64 x871001_2]] rfl (by (try simp only [List.map_toArray, List.map_cons, List.map_nil]); first | done | rfl | (simp only [List.length_drop, List.length_take]; rfl)) ?_; (with_reducible refine (wide_Div.calls k2 x870000_2 x870001_2 x871000_2 x871001_2 t871 t872 t873 t874 t875 _ A30.out).mono ?_); rintro e w129 ⟨rfl, hb⟩; refine ⟨_, rfl, ?_⟩; replace BK865 := kb BK865 hb; replace BK866 := kb BK866 hb; replace BK869 := kb BK869 hb; replace BK870 := kb BK870 hb; replace HB := kB HB hb; (try clear hb); (try clear hb2); (try clear hk); (try clear hi)) | ((with_reducible refine gate_dst (N := 7) rfl ?_); refine box_event ?hg (N := 7) ?hd (cs := #[.int .i64 0, .int .u64 0]) (t := 24) ?hr ?_; (case hd => rfl); (case hg => rfl); (case hr => first | (go_simp; done) | (go_simp; rfl)); intro gb876 hg w130 hbox hb; have BK876 := Aside0.mk (hbox); have GW876 := kS HB hg; have GE876 := kS HB hg; have NB865_876 := kN BK865 hg; have NB876_865 := kM BK865 hg; have NB866_876 := kN BK866 hg; have NB876_866 := kM BK866 hg; have NB869_876 := kN BK869 hg; have NB876_869 := kM BK869 hg; have NB870_876 := kN BK870 hg; have NB876_870 := kM BK870 hg; replace BK865 := kb BK865 hb; replace BK866 := kb BK866 hb; replace BK869 := kb BK869 hb; replace BK870 := kb BK870 hb; replace HB := kB HB hb; clear hb hbox hg) | ((with_reducible refine gate_dst (N := 8) rfl ?_); refine box_event ?hg (N := 8) ?hd (cs := #[.int .i64 0, .int .u64 0]) (t := 24) ?hr ?_; (case hd => rfl); (case hg => rfl); (case hr => first | (go_simp; done) | (go_simp; rfl)); intro gb877 hg w131 hbox hb; have BK877 := Aside0.mk (hbox); have GW877 := kS HB hg; have GE877 := kS HB hg; have NB865_877 := kN BK865 hg; have NB877_865 := kM BK865 hg; have NB866_877 := kN BK866 hg; have NB877_866 := kM BK866 hg; have NB869_877 := kN BK869 hg; have NB877_869 := kM BK869 hg; have NB870_877 := kN BK870 hg; have NB877_870 := kM BK870 hg; have NB876_877 := kN BK876 hg; have NB877_876 := kM BK876 hg; replace BK865 := kb BK865 hb; replace BK866 := kb BK866 hb; replace BK869 := kb BK869 hb; replace BK870 := kb BK870 hb; replace BK876 := kb BK876 hb; replace HB := kB HB hb; clear hb hbox hg; have hnb132 := NB876_865.out; have hnc132 := NB865_876.out; have hnb133 := NB876_866.out; have hnc133 := NB866_876.out; have hnb134 := NB876_869.out; have hnc134 := NB869_876.out; have hnb135 := NB876_870.out; have hnc135 := NB870_876.out; have hnb136 := NB876_877.out; have hnc136 := NB877_876.out; have hcz137_0 : w131.cell? ⟨gb876, 0, none⟩ = some (.int .i64 0) := kc BK876 0; have hcz137_1 : w131.cell? ⟨gb876, 1, none⟩ = some (.int .u64 0) := kc BK876 1; have hfz137_0 := blk_frozen BK876.out 0; have hfz137_1 := blk_frozen BK876.out 1; have hnb138 := NB877_865.out; have hnc138 := NB865_877.out; have hnb139 := NB877_866.out; have hnc139 := NB866_877.out; have hnb140 := NB877_869.out; have hnc140 := NB869_877.out; have hnb141 := NB877_870.out; have hnc141 := NB870_877.out; have hcz142_0 : w131.cell? ⟨gb877, 0, none⟩ = some (.int .i64 0) := kc BK877 0; have hcz142_1 : w131.cell? ⟨gb877, 1, none⟩ = some (.int .u64 0) := kc BK877 1; have hfz142_0 := blk_frozen BK877.out 0; have hfz142_1 := blk_frozen BK877.out 1; have hcz143_0 : w131.cell? ⟨gb869, 0, none⟩ = some (.int .i64 x870000_2) := kc BK869 0; have hcz143_1 : w131.cell? ⟨gb869, 1, none⟩ = some (.int .u64 x870001_2) := kc BK869 1; have hcz143_2 : w131.cell? ⟨gb869, 2, none⟩ = some (.int .i64 x870002_2) := kc BK869 2; have hcz143_3 : w131.cell? ⟨gb869, 3, none⟩ = some (.int .u64 x870003_2) := kc BK869 3; have hfz143_0 := blk_frozen BK869.out 0; have hfz143_1 := blk_frozen BK869.out 1; have hfz143_2 := blk_frozen BK869.out 2; have hfz143_3 := blk_frozen BK869.out 3; have hcz144_0 : w131.cell? ⟨gb870, 0, none⟩ = some (.int .i64 x871000_2) := kc BK870 0; have hcz144_1 : w131.cell? ⟨gb870, 1, none⟩ = some (.int .u64 x871001_2) := kc BK870 1; have hcz144_2 : w131.cell? ⟨gb870, 2, none⟩ = some (.int .i64 x871002_2) := kc BK870 2; have hcz144_3 : w131.cell? ⟨gb870, 3, none⟩ = some (.int .u64 x871003_2) := kc BK870 3; have hfz144_0 := blk_frozen BK870.out 0; have hfz144_1 := blk_frozen BK870.out 1; have hfz144_2 := blk_frozen BK870.out 2; have hfz144_3 := blk_frozen BK870.out 3) | ((with_reducible refine gate_callee (f := 27) rfl ?_); refine goesL_ (some 46) rfl rfl Try.func27 (by kernel_rfl) rfl #[.agg #[.int .i64 x870002_2, .int .u64 x870003_2], .agg #[.int .i64 x871002_2, .int .u64 x871003_2]] rfl (by (try simp only [List.map_toArray, List.map_cons, List.map_nil]); first | done | rfl | (simp only [List.length_drop, List.length_take]; rfl)) ?_; (with_reducible refine (wide_Div.calls k2 x870002_2 x870003_2 x871002_2 x871003_2 t878 t879 t880 t881 t882 _ A31.out).mono ?_); rintro e w145 ⟨rfl, hb⟩; refine ⟨_, rfl, ?_⟩; have n0_ := kb BK865 hb; have n1_ := kb BK866 hb; have n2_ := kb BK869 hb; have n3_ := kb BK870 hb; have n4_ := Aside0.mk (blk_below (g := gb876) (o := .cells #[.int .i64 t871, .int .u64 t872] 24 (0, 0)) (by (with_reducible repeat (first | refine blk_drewN ?_ _ | refine blk_drew ?_ | refine blk_alloc ?_ _)); refine blk_far ?_ NB876_877.out _; (with_reducible repeat (first | refine blk_drewN ?_ _ | refine blk_drew ?_ | refine blk_alloc ?_ _)); refine blk_far ?_ NB876_877.out _; (with_reducible repeat (first | refine blk_drewN ?_ _ | refine blk_drew ?_ | refine blk_alloc ?_ _)); refine blk_put (cs := #[.int .i64 t871, .int .u64 0]) ?_ 1 _ rfl; (with_reducible repeat (first | refine blk_drewN ?_ _ | refine blk_drew ?_ | refine blk_alloc ?_ _)); refine blk_put (cs := #[.int .i64 0, .int .u64 0]) ?_ 0 _ rfl; (with_reducible repeat (first | refine blk_drewN ?_ _ | refine blk_drew ?_ | refine blk_alloc ?_ _)); exact BK876.out) hb); have n5_ := Aside0.mk (blk_below (g := gb877) (o := .cells #[.int .i64 t873, .int .u64 t874] 24 (0, 0)) (by (with_reducible repeat (first | refine blk_drewN ?_ _ | refine blk_drew ?_ | refine blk_alloc ?_ _)); refine blk_put (cs := #[.int .i64 t873, .int .u64 0]) ?_ 1 _ rfl; (with_reducible repeat (first | refine blk_drewN ?_ _ | refine blk_drew ?_ | refine blk_alloc ?_ _)); refine blk_put (cs := #[.int .i64 0, .int .u64 0]) ?_ 0 _ rfl; (with_reducible repeat (first | refine blk_drewN ?_ _ | refine blk_drew ?_ | refine blk_alloc ?_ _)); refine blk_far ?_ NB877_876.out _; (with_reducible repeat (first | refine blk_drewN ?_ _ | refine blk_drew ?_ | refine blk_alloc ?_ _)); refine blk_far ?_ NB877_876.out _; (with_reducible repeat (first | refine blk_drewN ?_ _ | refine blk_drew ?_ | refine blk_alloc ?_ _)); exact BK877.out) hb); have n6_ := kB HB hb; clear BK865; clear BK866; clear BK869; clear BK870; clear BK876; clear BK877; clear HB; have BK865 := n0_; have BK866 := n1_; have BK869 := n2_; have BK870 := n3_; have BK876 := n4_; have BK877 := n5_; have HB := n6_; clear n0_ n1_ n2_ n3_ n4_ n5_ n6_; (try clear hb); (try clear hb2); (try clear hk); (try clear hi)) | ((with_reducible refine gate_dst (N := 10) rfl ?_); refine box_event ?hg (N := 10) ?hd (cs := #[.int .i64 0, .int .u64 0]) (t := 24) ?hr ?_; (case hd => rfl); (case hg => rfl); (case hr => first | (go_simp; done) | (go_simp; rfl)); intro gb883 hg w146 hbox hb; have BK883 := Aside0.mk (hbox); have GW883 := kS HB hg; have GE883 := kS HB hg; have NB865_883 := kN BK865 hg; have NB883_865 := kM BK865 hg; have NB866_883 := kN BK866 hg; have NB883_866 := kM BK866 hg; have NB869_883 := kN BK869 hg; have NB883_869 := kM BK869 hg; have NB870_883 := kN BK870 hg; have NB883_870 := kM BK870 hg; have NB876_883 := kN BK876 hg; have NB883_876 := kM BK876 hg; have NB877_883 := kN BK877 hg; have NB883_877 := kM BK877 hg; replace BK865 := kb BK865 hb; replace BK866 := kb BK866 hb; replace BK869 := kb BK869 hb; replace BK870 := kb BK870 hb; replace BK876 := kb BK876 hb; replace BK877 := kb BK877 hb; replace HB := kB HB hb; clear hb hbox hg) | ((with_reducible refine gate_dst (N := 11) rfl ?_); refine box_event ?hg (N := 11) ?hd (cs := #[.int .i64 0, .int .u64 0]) (t := 24) ?hr ?_; (case hd => rfl); (case hg => rfl); (case hr => first | (go_simp; done) | (go_simp; rfl)); intro gb884 hg w147 hbox hb; have BK884 := Aside0.mk (hbox); have GW884 := kS HB hg; have GE884 := kS HB hg; have NB865_884 := kN BK865 hg; have NB884_865 := kM BK865 hg; have NB866_884 := kN BK866 hg; have NB884_866 := kM BK866 hg; have NB869_884 := kN BK869 hg; have NB884_869 := kM BK869 hg; have NB870_884 := kN BK870 hg; have NB884_870 := kM BK870 hg; have NB876_884 := kN BK876 hg; have NB884_876 := kM BK876 hg; have NB877_884 := kN BK877 hg; have NB884_877 := kM BK877 hg; have NB883_884 := kN BK883 hg; have NB884_883 := kM BK883 hg; replace BK865 := kb BK865 hb; replace BK866 := kb BK866 hb; replace BK869 := kb BK869 hb; replace BK870 := kb BK870 hb; replace BK876 := kb BK876 hb; replace BK877 := kb BK877 hb; replace BK883 := kb BK883 hb; replace HB := kB HB hb; clear hb hbox hg; have hnb148 := NB883_865.out; have hnc148 := NB865_883.out; have hnb149 := NB883_866.out; have hnc149 := NB866_883.out; have hnb150 := NB883_869.out; have hnc150 := NB869_883.out; have hnb151 := NB883_870.out; have hnc151 := NB870_883.out; have hnb152 := NB883_876.out; have hnc152 := NB876_883.out; have hnb153 := NB883_877.out; have hnc153 := NB877_883.out; have hnb154 := NB883_884.out; have hnc154 := NB884_883.out; have hcz155_0 : w147.cell? ⟨gb883, 0, none⟩ = some (.int .i64 0) := kc BK883 0; have hcz155_1 : w147.cell? ⟨gb883, 1, none⟩ = some (.int .u64 0) := kc BK883 1; have hfz155_0 := blk_frozen BK883.out 0; have hfz155_1 := blk_frozen BK883.out 1; have hnb156 := NB884_865.out; have hnc156 := NB865_884.out; have hnb157 := NB884_866.out; have hnc157 := NB866_884.out; have hnb158 := NB884_869.out; have hnc158 := NB869_884.out; have hnb159 := NB884_870.out; have hnc159 := NB870_884.out; have hnb160 := NB884_876.out; have hnc160 := NB876_884.out; have hnb161 := NB884_877.out; have hnc161 := NB877_884.out; have hcz162_0 : w147.cell? ⟨gb884, 0, none⟩ = some (.int .i64 0) := kc BK884 0; have hcz162_1 : w147.cell? ⟨gb884, 1, none⟩ = some (.int .u64 0) := kc BK884 1; have hfz162_0 := blk_frozen BK884.out 0; have hfz162_1 := blk_frozen BK884.out 1; have hcz163_0 : w147.cell? ⟨gb876, 0, none⟩ = some (.int .i64 t871) := kc BK876 0; have hcz163_1 : w147.cell? ⟨gb876, 1, none⟩ = some (.int .u64 t872) := kc BK876 1; have hfz163_0 := blk_frozen BK876.out 0; have hfz163_1 := blk_frozen BK876.out 1) | ((with_reducible refine gate_callee (f := 24) rfl ?_); refine goesL_ (some 52) rfl rfl Try.func24 (by kernel_rfl) rfl #[.agg #[.int .i64 t871, .int .u64 t872], .agg #[.int .i64 t878, .int .u64 t879]] rfl (by (try simp only [List.map_toArray, List.map_cons, List.map_nil]); first | done | rfl | (simp only [List.length_drop, List.length_take]; rfl)) ?_; (with_reducible refine (wide_Cmp.calls k2 t871 t872 t878 t879 t885 _ A32.out).mono ?_); rintro e w164 ⟨rfl, hb⟩; refine ⟨_, rfl, ?_⟩; have n0_ := kb BK865 hb; have n1_ := kb BK866 hb; have n2_ := kb BK869 hb; have n3_ := kb BK870 hb; have n4_ := kb BK876 hb; have n5_ := kb BK877 hb; have n6_ := Aside0.mk (blk_below (g := gb883) (o := .cells #[.int .i64 t878, .int .u64 t879] 24 (0, 0)) (by (with_reducible repeat (first | refine blk_drewN ?_ _ | refine blk_drew ?_ | refine blk_alloc ?_ _)); refine blk_far ?_ NB883_884.out _; (with_reducible repeat (first | refine blk_drewN ?_ _ | refine blk_drew ?_ | refine blk_alloc ?_ _)); refine blk_far ?_ NB883_884.out _; (with_reducible repeat (first | refine blk_drewN ?_ _ | refine blk_drew ?_ | refine blk_alloc ?_ _)); refine blk_put (cs := #[.int .i64 t878, .int .u64 0]) ?_ 1 _ rfl; (with_reducible repeat (first | refine blk_drewN ?_ _ | refine blk_drew ?_ | refine blk_alloc ?_ _)); refine blk_put (cs := #[.int .i64 0, .int .u64 0]) ?_ 0 _ rfl; (with_reducible repeat (first | refine blk_drewN ?_ _ | refine blk_drew ?_ | refine blk_alloc ?_ _)); exact BK883.out) hb); have n7_ := Aside0.mk (blk_below (g := gb884) (o := .cells #[.int .i64 t880, .int .u64 t881] 24 (0, 0)) (by (with_reducible repeat (first | refine blk_drewN ?_ _ | refine blk_drew ?_ | refine blk_alloc ?_ _)); refine blk_put (cs := #[.int .i64 t880, .int .u64 0]) ?_ 1 _ rfl; (with_reducible repeat (first | refine blk_drewN ?_ _ | refine blk_drew ?_ | refine blk_alloc ?_ _)); refine blk_put (cs := #[.int .i64 0, .int .u64 0]) ?_ 0 _ rfl; (with_reducible repeat (first | refine blk_drewN ?_ _ | refine blk_drew ?_ | refine blk_alloc ?_ _)); refine blk_far ?_ NB884_883.out _; (with_reducible repeat (first | refine blk_drewN ?_ _ | refine blk_drew ?_ | refine blk_alloc ?_ _)); refine blk_far ?_ NB884_883.out _; (with_reducible repeat (first | refine blk_drewN ?_ _ | refine blk_drew ?_ | refine blk_alloc ?_ _)); exact BK884.out) hb); have n8_ := kB HB hb; clear BK865; clear BK866; clear BK869; clear BK870; clear BK876; clear BK877; clear BK883; clear BK884; clear HB; have BK865 := n0_; have BK866 := n1_; have BK869 := n2_; have BK870 := n3_; have BK876 := n4_; have BK877 := n5_; have BK883 := n6_; have BK884 := n7_; have HB := n8_; clear n0_ n1_ n2_ n3_ n4_ n5_ n6_ n7_ n8_; (try clear hb); (try clear hb2); (try clear hk); (try clear hi)))
            go_ret
            exact ⟨by first | rfl | (simp [errW_none, errW_some] <;> rfl) | (simp [*, errW_none, errW_some] <;> rfl), ky HB⟩

          rw [if_pos c33] at H
          have c33b0 : (t885 == 0) = true := beq_iff_eq.mpr c33
          have c33b1 : (t885 != 0) = false := bne_eq_false_iff_eq.mpr c33
          clear c33
          have HC34 := Aside0.mk H
          clear H; have hnb35 := NB869_865.out; have hnc35 := NB865_869.out; have hnb36 := NB869_866.out; have hnc36 := NB866_869.out; have hnb37 := NB869_870.out; have hnc37 := NB870_869.out
          have hcz38_0 : wr.cell? ⟨gb869, 0, none⟩ = some (.int .i64 x870000_2) := kc BK869 0
          have hcz38_1 : wr.cell? ⟨gb869, 1, none⟩ = some (.int .u64 x870001_2) := kc BK869 1
          have hcz38_2 : wr.cell? ⟨gb869, 2, none⟩ = some (.int .i64 x870002_2) := kc BK869 2
          have hcz38_3 : wr.cell? ⟨gb869, 3, none⟩ = some (.int .u64 x870003_2) := kc BK869 3
          have hfz38_0 := blk_frozen BK869.out 0
          have hfz38_1 := blk_frozen BK869.out 1
          have hfz38_2 := blk_frozen BK869.out 2
          have hfz38_3 := blk_frozen BK869.out 3
          have hnb39 := NB870_865.out; have hnc39 := NB865_870.out; have hnb40 := NB870_866.out; have hnc40 := NB866_870.out
          have hcz41_0 : wr.cell? ⟨gb870, 0, none⟩ = some (.int .i64 x871000_2) := kc BK870 0
          have hcz41_1 : wr.cell? ⟨gb870, 1, none⟩ = some (.int .u64 x871001_2) := kc BK870 1
          have hcz41_2 : wr.cell? ⟨gb870, 2, none⟩ = some (.int .i64 x871002_2) := kc BK870 2
          have hcz41_3 : wr.cell? ⟨gb870, 3, none⟩ = some (.int .u64 x871003_2) := kc BK870 3
          have hfz41_0 := blk_frozen BK870.out 0
          have hfz41_1 := blk_frozen BK870.out 1
          have hfz41_2 := blk_frozen BK870.out 2
          have hfz41_3 := blk_frozen BK870.out 3
          go_upto_region 9 with (first | ((with_reducible refine gate_callee (f := 27) rfl ?_); refine goesL_ (some 37) rfl rfl Try.func27 (by kernel_rfl) rfl #[.agg #[.int .i64 x870000_2, .int .u64 x870001_2], .agg #[.int .i64 x871000_2, .int .u64 x871001_2]] rfl (by (try simp only [List.map_toArray, List.map_cons, List.map_nil]); first | done | rfl | (simp only [List.length_drop, List.length_take]; rfl)) ?_; (with_reducible refine (wide_Div.calls k2 x870000_2 x870001_2 x871000_2 x871001_2 t871 t872 t873 t874 t875 _ A30.out).mono ?_); rintro e w42 ⟨rfl, hb⟩; refine ⟨_, rfl, ?_⟩; replace BK865 := kb BK865 hb; replace BK866 := kb BK866 hb; replace BK869 := kb BK869 hb; replace BK870 := kb BK870 hb; replace HB := kB HB hb; (try clear hb); (try clear hb2); (try clear hk); (try clear hi)) | ((with_reducible refine gate_dst (N := 7) rfl ?_); refine box_event ?hg (N := 7) ?hd (cs := #[.int .i64 0, .int .u64 0]) (t := 24) ?hr ?_; (case hd => rfl); (case hg => rfl); (case hr => first | (go_simp; done) | (go_simp; rfl)); intro gb876 hg w43 hbox hb; have BK876 := Aside0.mk (hbox); have GW876 := kS HB hg; have GE876 := kS HB hg; have NB865_876 := kN BK865 hg; have NB876_865 := kM BK865 hg; have NB866_876 := kN BK866 hg; have NB876_866 := kM BK866 hg; have NB869_876 := kN BK869 hg; have NB876_869 := kM BK869 hg; have NB870_876 := kN BK870 hg; have NB876_870 := kM BK870 hg; replace BK865 := kb BK865 hb; replace BK866 := kb BK866 hb; replace BK869 := kb BK869 hb; replace BK870 := kb BK870 hb; replace HB := kB HB hb; clear hb hbox hg) | ((with_reducible refine gate_dst (N := 8) rfl ?_); refine box_event ?hg (N := 8) ?hd (cs := #[.int .i64 0, .int .u64 0]) (t := 24) ?hr ?_; (case hd => rfl); (case hg => rfl); (case hr => first | (go_simp; done) | (go_simp; rfl)); intro gb877 hg w44 hbox hb; have BK877 := Aside0.mk (hbox); have GW877 := kS HB hg; have GE877 := kS HB hg; have NB865_877 := kN BK865 hg; have NB877_865 := kM BK865 hg; have NB866_877 := kN BK866 hg; have NB877_866 := kM BK866 hg; have NB869_877 := kN BK869 hg; have NB877_869 := kM BK869 hg; have NB870_877 := kN BK870 hg; have NB877_870 := kM BK870 hg; have NB876_877 := kN BK876 hg; have NB877_876 := kM BK876 hg; replace BK865 := kb BK865 hb; replace BK866 := kb BK866 hb; replace BK869 := kb BK869 hb; replace BK870 := kb BK870 hb; replace BK876 := kb BK876 hb; replace HB := kB HB hb; clear hb hbox hg; have hnb45 := NB876_865.out; have hnc45 := NB865_876.out; have hnb46 := NB876_866.out; have hnc46 := NB866_876.out; have hnb47 := NB876_869.out; have hnc47 := NB869_876.out; have hnb48 := NB876_870.out; have hnc48 := NB870_876.out; have hnb49 := NB876_877.out; have hnc49 := NB877_876.out; have hcz50_0 : w44.cell? ⟨gb876, 0, none⟩ = some (.int .i64 0) := kc BK876 0; have hcz50_1 : w44.cell? ⟨gb876, 1, none⟩ = some (.int .u64 0) := kc BK876 1; have hfz50_0 := blk_frozen BK876.out 0; have hfz50_1 := blk_frozen BK876.out 1; have hnb51 := NB877_865.out; have hnc51 := NB865_877.out; have hnb52 := NB877_866.out; have hnc52 := NB866_877.out; have hnb53 := NB877_869.out; have hnc53 := NB869_877.out; have hnb54 := NB877_870.out; have hnc54 := NB870_877.out; have hcz55_0 : w44.cell? ⟨gb877, 0, none⟩ = some (.int .i64 0) := kc BK877 0; have hcz55_1 : w44.cell? ⟨gb877, 1, none⟩ = some (.int .u64 0) := kc BK877 1; have hfz55_0 := blk_frozen BK877.out 0; have hfz55_1 := blk_frozen BK877.out 1; have hcz56_0 : w44.cell? ⟨gb869, 0, none⟩ = some (.int .i64 x870000_2) := kc BK869 0; have hcz56_1 : w44.cell? ⟨gb869, 1, none⟩ = some (.int .u64 x870001_2) := kc BK869 1; have hcz56_2 : w44.cell? ⟨gb869, 2, none⟩ = some (.int .i64 x870002_2) := kc BK869 2; have hcz56_3 : w44.cell? ⟨gb869, 3, none⟩ = some (.int .u64 x870003_2) := kc BK869 3; have hfz56_0 := blk_frozen BK869.out 0; have hfz56_1 := blk_frozen BK869.out 1; have hfz56_2 := blk_frozen BK869.out 2; have hfz56_3 := blk_frozen BK869.out 3; have hcz57_0 : w44.cell? ⟨gb870, 0, none⟩ = some (.int .i64 x871000_2) := kc BK870 0; have hcz57_1 : w44.cell? ⟨gb870, 1, none⟩ = some (.int .u64 x871001_2) := kc BK870 1; have hcz57_2 : w44.cell? ⟨gb870, 2, none⟩ = some (.int .i64 x871002_2) := kc BK870 2; have hcz57_3 : w44.cell? ⟨gb870, 3, none⟩ = some (.int .u64 x871003_2) := kc BK870 3; have hfz57_0 := blk_frozen BK870.out 0; have hfz57_1 := blk_frozen BK870.out 1; have hfz57_2 := blk_frozen BK870.out 2; have hfz57_3 := blk_frozen BK870.out 3) | ((with_reducible refine gate_callee (f := 27) rfl ?_); refine goesL_ (some 46) rfl rfl Try.func27 (by kernel_rfl) rfl #[.agg #[.int .i64 x870002_2, .int .u64 x870003_2], .agg #[.int .i64 x871002_2, .int .u64 x871003_2]] rfl (by (try simp only [List.map_toArray, List.map_cons, List.map_nil]); first | done | rfl | (simp only [List.length_drop, List.length_take]; rfl)) ?_; (with_reducible refine (wide_Div.calls k2 x870002_2 x870003_2 x871002_2 x871003_2 t878 t879 t880 t881 t882 _ A31.out).mono ?_); rintro e w58 ⟨rfl, hb⟩; refine ⟨_, rfl, ?_⟩; have n0_ := kb BK865 hb; have n1_ := kb BK866 hb; have n2_ := kb BK869 hb; have n3_ := kb BK870 hb; have n4_ := Aside0.mk (blk_below (g := gb876) (o := .cells #[.int .i64 t871, .int .u64 t872] 24 (0, 0)) (by (with_reducible repeat (first | refine blk_drewN ?_ _ | refine blk_drew ?_ | refine blk_alloc ?_ _)); refine blk_far ?_ NB876_877.out _; (with_reducible repeat (first | refine blk_drewN ?_ _ | refine blk_drew ?_ | refine blk_alloc ?_ _)); refine blk_far ?_ NB876_877.out _; (with_reducible repeat (first | refine blk_drewN ?_ _ | refine blk_drew ?_ | refine blk_alloc ?_ _)); refine blk_put (cs := #[.int .i64 t871, .int .u64 0]) ?_ 1 _ rfl; (with_reducible repeat (first | refine blk_drewN ?_ _ | refine blk_drew ?_ | refine blk_alloc ?_ _)); refine blk_put (cs := #[.int .i64 0, .int .u64 0]) ?_ 0 _ rfl; (with_reducible repeat (first | refine blk_drewN ?_ _ | refine blk_drew ?_ | refine blk_alloc ?_ _)); exact BK876.out) hb); have n5_ := Aside0.mk (blk_below (g := gb877) (o := .cells #[.int .i64 t873, .int .u64 t874] 24 (0, 0)) (by (with_reducible repeat (first | refine blk_drewN ?_ _ | refine blk_drew ?_ | refine blk_alloc ?_ _)); refine blk_put (cs := #[.int .i64 t873, .int .u64 0]) ?_ 1 _ rfl; (with_reducible repeat (first | refine blk_drewN ?_ _ | refine blk_drew ?_ | refine blk_alloc ?_ _)); refine blk_put (cs := #[.int .i64 0, .int .u64 0]) ?_ 0 _ rfl; (with_reducible repeat (first | refine blk_drewN ?_ _ | refine blk_drew ?_ | refine blk_alloc ?_ _)); refine blk_far ?_ NB877_876.out _; (with_reducible repeat (first | refine blk_drewN ?_ _ | refine blk_drew ?_ | refine blk_alloc ?_ _)); refine blk_far ?_ NB877_876.out _; (with_reducible repeat (first | refine blk_drewN ?_ _ | refine blk_drew ?_ | refine blk_alloc ?_ _)); exact BK877.out) hb); have n6_ := kB HB hb; clear BK865; clear BK866; clear BK869; clear BK870; clear BK876; clear BK877; clear HB; have BK865 := n0_; have BK866 := n1_; have BK869 := n2_; have BK870 := n3_; have BK876 := n4_; have BK877 := n5_; have HB := n6_; clear n0_ n1_ n2_ n3_ n4_ n5_ n6_; (try clear hb); (try clear hb2); (try clear hk); (try clear hi)) | ((with_reducible refine gate_dst (N := 10) rfl ?_); refine box_event ?hg (N := 10) ?hd (cs := #[.int .i64 0, .int .u64 0]) (t := 24) ?hr ?_; (case hd => rfl); (case hg => rfl); (case hr => first | (go_simp; done) | (go_simp; rfl)); intro gb883 hg w59 hbox hb; have BK883 := Aside0.mk (hbox); have GW883 := kS HB hg; have GE883 := kS HB hg; have NB865_883 := kN BK865 hg; have NB883_865 := kM BK865 hg; have NB866_883 := kN BK866 hg; have NB883_866 := kM BK866 hg; have NB869_883 := kN BK869 hg; have NB883_869 := kM BK869 hg; have NB870_883 := kN BK870 hg; have NB883_870 := kM BK870 hg; have NB876_883 := kN BK876 hg; have NB883_876 := kM BK876 hg; have NB877_883 := kN BK877 hg; have NB883_877 := kM BK877 hg; replace BK865 := kb BK865 hb; replace BK866 := kb BK866 hb; replace BK869 := kb BK869 hb; replace BK870 := kb BK870 hb; replace BK876 := kb BK876 hb; replace BK877 := kb BK877 hb; replace HB := kB HB hb; clear hb hbox hg) | ((with_reducible refine gate_dst (N := 11) rfl ?_); refine box_event ?hg (N := 11) ?hd (cs := #[.int .i64 0, .int .u64 0]) (t := 24) ?hr ?_; (case hd => rfl); (case hg => rfl); (case hr => first | (go_simp; done) | (go_simp; rfl)); intro gb884 hg w60 hbox hb; have BK884 := Aside0.mk (hbox); have GW884 := kS HB hg; have GE884 := kS HB hg; have NB865_884 := kN BK865 hg; have NB884_865 := kM BK865 hg; have NB866_884 := kN BK866 hg; have NB884_866 := kM BK866 hg; have NB869_884 := kN BK869 hg; have NB884_869 := kM BK869 hg; have NB870_884 := kN BK870 hg; have NB884_870 := kM BK870 hg; have NB876_884 := kN BK876 hg; have NB884_876 := kM BK876 hg; have NB877_884 := kN BK877 hg; have NB884_877 := kM BK877 hg; have NB883_884 := kN BK883 hg; have NB884_883 := kM BK883 hg; replace BK865 := kb BK865 hb; replace BK866 := kb BK866 hb; replace BK869 := kb BK869 hb; replace BK870 := kb BK870 hb; replace BK876 := kb BK876 hb; replace BK877 := kb BK877 hb; replace BK883 := kb BK883 hb; replace HB := kB HB hb; clear hb hbox hg; have hnb61 := NB883_865.out; have hnc61 := NB865_883.out; have hnb62 := NB883_866.out; have hnc62 := NB866_883.out; have hnb63 := NB883_869.out; have hnc63 := NB869_883.out; have hnb64 := NB883_870.out; have hnc64 := NB870_883.out; have hnb65 := NB883_876.out; have hnc65 := NB876_883.out; have hnb66 := NB883_877.out; have hnc66 := NB877_883.out; have hnb67 := NB883_884.out; have hnc67 := NB884_883.out; have hcz68_0 : w60.cell? ⟨gb883, 0, none⟩ = some (.int .i64 0) := kc BK883 0; have hcz68_1 : w60.cell? ⟨gb883, 1, none⟩ = some (.int .u64 0) := kc BK883 1; have hfz68_0 := blk_frozen BK883.out 0; have hfz68_1 := blk_frozen BK883.out 1; have hnb69 := NB884_865.out; have hnc69 := NB865_884.out; have hnb70 := NB884_866.out; have hnc70 := NB866_884.out; have hnb71 := NB884_869.out; have hnc71 := NB869_884.out; have hnb72 := NB884_870.out; have hnc72 := NB870_884.out; have hnb73 := NB884_876.out; have hnc73 := NB876_884.out; have hnb74 := NB884_877.out; have hnc74 := NB877_884.out; have hcz75_0 : w60.cell? ⟨gb884, 0, none⟩ = some (.int .i64 0) := kc BK884 0; have hcz75_1 : w60.cell? ⟨gb884, 1, none⟩ = some (.int .u64 0) := kc BK884 1; have hfz75_0 := blk_frozen BK884.out 0; have hfz75_1 := blk_frozen BK884.out 1; have hcz76_0 : w60.cell? ⟨gb876, 0, none⟩ = some (.int .i64 t871) := kc BK876 0; have hcz76_1 : w60.cell? ⟨gb876, 1, none⟩ = some (.int .u64 t872) := kc BK876 1; have hfz76_0 := blk_frozen BK876.out 0; have hfz76_1 := blk_frozen BK876.out 1) | ((with_reducible refine gate_callee (f := 24) rfl ?_); refine goesL_ (some 52) rfl rfl Try.func24 (by kernel_rfl) rfl #[.agg #[.int .i64 t871, .int .u64 t872], .agg #[.int .i64 t878, .int .u64 t879]] rfl (by (try simp only [List.map_toArray, List.map_cons, List.map_nil]); first | done | rfl | (simp only [List.length_drop, List.length_take]; rfl)) ?_; (with_reducible refine (wide_Cmp.calls k2 t871 t872 t878 t879 t885 _ A32.out).mono ?_); rintro e w77 ⟨rfl, hb⟩; refine ⟨_, rfl, ?_⟩; have n0_ := kb BK865 hb; have n1_ := kb BK866 hb; have n2_ := kb BK869 hb; have n3_ := kb BK870 hb; have n4_ := kb BK876 hb; have n5_ := kb BK877 hb; have n6_ := Aside0.mk (blk_below (g := gb883) (o := .cells #[.int .i64 t878, .int .u64 t879] 24 (0, 0)) (by (with_reducible repeat (first | refine blk_drewN ?_ _ | refine blk_drew ?_ | refine blk_alloc ?_ _)); refine blk_far ?_ NB883_884.out _; (with_reducible repeat (first | refine blk_drewN ?_ _ | refine blk_drew ?_ | refine blk_alloc ?_ _)); refine blk_far ?_ NB883_884.out _; (with_reducible repeat (first | refine blk_drewN ?_ _ | refine blk_drew ?_ | refine blk_alloc ?_ _)); refine blk_put (cs := #[.int .i64 t878, .int .u64 0]) ?_ 1 _ rfl; (with_reducible repeat (first | refine blk_drewN ?_ _ | refine blk_drew ?_ | refine blk_alloc ?_ _)); refine blk_put (cs := #[.int .i64 0, .int .u64 0]) ?_ 0 _ rfl; (with_reducible repeat (first | refine blk_drewN ?_ _ | refine blk_drew ?_ | refine blk_alloc ?_ _)); exact BK883.out) hb); have n7_ := Aside0.mk (blk_below (g := gb884) (o := .cells #[.int .i64 t880, .int .u64 t881] 24 (0, 0)) (by (with_reducible repeat (first | refine blk_drewN ?_ _ | refine blk_drew ?_ | refine blk_alloc ?_ _)); refine blk_put (cs := #[.int .i64 t880, .int .u64 0]) ?_ 1 _ rfl; (with_reducible repeat (first | refine blk_drewN ?_ _ | refine blk_drew ?_ | refine blk_alloc ?_ _)); refine blk_put (cs := #[.int .i64 0, .int .u64 0]) ?_ 0 _ rfl; (with_reducible repeat (first | refine blk_drewN ?_ _ | refine blk_drew ?_ | refine blk_alloc ?_ _)); refine blk_far ?_ NB884_883.out _; (with_reducible repeat (first | refine blk_drewN ?_ _ | refine blk_drew ?_ | refine blk_alloc ?_ _)); refine blk_far ?_ NB884_883.out _; (with_reducible repeat (first | refine blk_drewN ?_ _ | refine blk_drew ?_ | refine blk_alloc ?_ _)); exact BK884.out) hb); have n8_ := kB HB hb; clear BK865; clear BK866; clear BK869; clear BK870; clear BK876; clear BK877; clear BK883; clear BK884; clear HB; have BK865 := n0_; have BK866 := n1_; have BK869 := n2_; have BK870 := n3_; have BK876 := n4_; have BK877 := n5_; have BK883 := n6_; have BK884 := n7_; have HB := n8_; clear n0_ n1_ n2_ n3_ n4_ n5_ n6_ n7_ n8_; (try clear hb); (try clear hb2); (try clear hk); (try clear hi)))
          (try simp only [Act.put, s1, s2, s3])
          go_cut [63] (fun v63 wc => ∃ (kq : Nat) (x63_33 : Bool), v63 = .bool x63_33 ∧ Aside0 (frac_Cmp.j2 kq x63_33 x871000_2 x871001_2 x871002_2 x871003_2 t873 t874 t880 t881 = some r) ∧ Aside0 (kq ≤ k2) ∧ Aside0 (wc.heap[gb865]? = some (.cells #[.int .i64 a0_0, .int .u64 a0_1, .int .i64 a0_2, .int .u64 a0_3] 62 (0, 0))) ∧ Aside0 (wc.heap[gb866]? = some (.cells #[.int .i64 a1_0, .int .u64 a1_1, .int .i64 a1_2, .int .u64 a1_3] 62 (0, 0))) ∧ Aside0 (wc.heap[gb869]? = some (.cells #[.int .i64 x870000_2, .int .u64 x870001_2, .int .i64 x870002_2, .int .u64 x870003_2] 107 (0, 0))) ∧ Aside0 (wc.heap[gb870]? = some (.cells #[.int .i64 x871000_2, .int .u64 x871001_2, .int .i64 x871002_2, .int .u64 x871003_2] 107 (0, 0))) ∧ Aside0 (wc.heap[gb876]? = some (.cells #[.int .i64 t871, .int .u64 t872] 24 (0, 0))) ∧ Aside0 (wc.heap[gb877]? = some (.cells #[.int .i64 t873, .int .u64 t874] 24 (0, 0))) ∧ Aside0 (wc.heap[gb883]? = some (.cells #[.int .i64 t878, .int .u64 t879] 24 (0, 0))) ∧ Aside0 (wc.heap[gb884]? = some (.cells #[.int .i64 t880, .int .u64 t881] 24 (0, 0))) ∧ Aside0 (Below w.heap.size w wc))
          case first =>
            have H := HC34.out; clear HC34
            replace H := Option.bind_eq_some_iff.mp H
            obtain ⟨t886, A780, H⟩ := H
            replace H : (if t886 = 0 then (frac_Cmp.j2 k2 true x871000_2 x871001_2 x871002_2 x871003_2 t873 t874 t880 t881) else ((wide_Sign.f t880 t881).bind fun t887 => (frac_Cmp.j2 k2 (t887 == 0) x871000_2 x871001_2 x871002_2 x871003_2 t873 t874 t880 t881))) = some r := H
            have A78 := Aside0.mk A780
            clear A780
            by_cases c79 : t886 = 0
            · rw [if_pos c79] at H
              have c79b0 : (t886 == 0) = true := beq_iff_eq.mpr c79
              have c79b1 : (t886 != 0) = false := bne_eq_false_iff_eq.mpr c79
              clear c79
              (first | rw [c79b0] | (simp only [i64_w, i32_w]; rw [c79b0]) | skip)
              have H' := Aside0.mk H
              clear H; have hnb80 := NB877_865.out; have hnc80 := NB865_877.out; have hnb81 := NB877_866.out; have hnc81 := NB866_877.out; have hnb82 := NB877_869.out; have hnc82 := NB869_877.out; have hnb83 := NB877_870.out; have hnc83 := NB870_877.out; have hnb84 := NB877_876.out; have hnc84 := NB876_877.out; have hnb85 := NB877_883.out; have hnc85 := NB883_877.out; have hnb86 := NB877_884.out; have hnc86 := NB884_877.out
              have hcz87_0 : w77.cell? ⟨gb877, 0, none⟩ = some (.int .i64 t873) := kc BK877 0
              have hcz87_1 : w77.cell? ⟨gb877, 1, none⟩ = some (.int .u64 t874) := kc BK877 1
              have hfz87_0 := blk_frozen BK877.out 0
              have hfz87_1 := blk_frozen BK877.out 1
              go_wp2_with (first | ((with_reducible refine gate_callee (f := 26) rfl ?_); refine goesL_ (some 57) rfl rfl Try.func26 (by kernel_rfl) rfl #[.agg #[.int .i64 t873, .int .u64 t874]] rfl (by (try simp only [List.map_toArray, List.map_cons, List.map_nil]); first | done | rfl | (simp only [List.length_drop, List.length_take]; rfl)) ?_; (with_reducible refine (wide_Sign.calls t873 t874 t886 _ A78.out).mono ?_); rintro e w88 ⟨rfl, hb⟩; refine ⟨_, rfl, ?_⟩; replace BK865 := kb BK865 hb; replace BK866 := kb BK866 hb; replace BK869 := kb BK869 hb; replace BK870 := kb BK870 hb; replace BK876 := kb BK876 hb; replace BK877 := kb BK877 hb; replace BK883 := kb BK883 hb; replace BK884 := kb BK884 hb; replace HB := kB HB hb; (try clear hb); (try clear hb2); (try clear hk); (try clear hi)))
              go_meet
              case rel => exact ⟨_, (true), (by first | rfl | (simp; done) | (simp [*]; done)), H', ⟨by have := HJ2.out; have := HK2.out; first | omega | exact Nat.le_refl _⟩, ⟨kx BK865⟩, ⟨kx BK866⟩, ⟨kx BK869⟩, ⟨kx BK870⟩, ⟨kx BK876⟩, ⟨kx BK877⟩, ⟨kx BK883⟩, ⟨kx BK884⟩, ⟨ky HB⟩⟩
            rw [if_neg c79] at H
            have c79b0 : (t886 == 0) = false := beq_eq_false_iff_ne.mpr c79
            have c79b1 : (t886 != 0) = true := bne_iff_ne.mpr c79
            (first | rw [c79b0] | (simp only [i64_w, i32_w]; rw [c79b0]) | skip)
            replace H := Option.bind_eq_some_iff.mp H
            obtain ⟨t887, A890, H⟩ := H
            replace H : (frac_Cmp.j2 k2 (t887 == 0) x871000_2 x871001_2 x871002_2 x871003_2 t873 t874 t880 t881) = some r := H
            have A89 := Aside0.mk A890
            clear A890
            have H' := Aside0.mk H
            clear H; have hnb90 := NB877_865.out; have hnc90 := NB865_877.out; have hnb91 := NB877_866.out; have hnc91 := NB866_877.out; have hnb92 := NB877_869.out; have hnc92 := NB869_877.out; have hnb93 := NB877_870.out; have hnc93 := NB870_877.out; have hnb94 := NB877_876.out; have hnc94 := NB876_877.out; have hnb95 := NB877_883.out; have hnc95 := NB883_877.out; have hnb96 := NB877_884.out; have hnc96 := NB884_877.out
            have hcz97_0 : w77.cell? ⟨gb877, 0, none⟩ = some (.int .i64 t873) := kc BK877 0
            have hcz97_1 : w77.cell? ⟨gb877, 1, none⟩ = some (.int .u64 t874) := kc BK877 1
            have hfz97_0 := blk_frozen BK877.out 0
            have hfz97_1 := blk_frozen BK877.out 1
            go_wp2_with (first | ((with_reducible refine gate_callee (f := 26) rfl ?_); refine goesL_ (some 57) rfl rfl Try.func26 (by kernel_rfl) rfl #[.agg #[.int .i64 t873, .int .u64 t874]] rfl (by (try simp only [List.map_toArray, List.map_cons, List.map_nil]); first | done | rfl | (simp only [List.length_drop, List.length_take]; rfl)) ?_; (with_reducible refine (wide_Sign.calls t873 t874 t886 _ A78.out).mono ?_); rintro e w98 ⟨rfl, hb⟩; refine ⟨_, rfl, ?_⟩; replace BK865 := kb BK865 hb; replace BK866 := kb BK866 hb; replace BK869 := kb BK869 hb; replace BK870 := kb BK870 hb; replace BK876 := kb BK876 hb; replace BK877 := kb BK877 hb; replace BK883 := kb BK883 hb; replace BK884 := kb BK884 hb; replace HB := kB HB hb; (try clear hb); (try clear hb2); (try clear hk); (try clear hi); have hnb99 := NB884_865.out; have hnc99 := NB865_884.out; have hnb100 := NB884_866.out; have hnc100 := NB866_884.out; have hnb101 := NB884_869.out; have hnc101 := NB869_884.out; have hnb102 := NB884_870.out; have hnc102 := NB870_884.out; have hnb103 := NB884_876.out; have hnc103 := NB876_884.out; have hnb104 := NB884_883.out; have hnc104 := NB883_884.out; have hcz105_0 : w98.cell? ⟨gb884, 0, none⟩ = some (.int .i64 t880) := kc BK884 0; have hcz105_1 : w98.cell? ⟨gb884, 1, none⟩ = some (.int .u64 t881) := kc BK884 1; have hfz105_0 := blk_frozen BK884.out 0; have hfz105_1 := blk_frozen BK884.out 1) | (go_at_call 26; (with_reducible refine (wide_Sign.calls t880 t881 t887 _ A89.out).mono ?_); rintro e w106 ⟨rfl, hb⟩; replace BK865 := kb BK865 hb; replace BK866 := kb BK866 hb; replace BK869 := kb BK869 hb; replace BK870 := kb BK870 hb; replace BK876 := kb BK876 hb; replace BK877 := kb BK877 hb; replace BK883 := kb BK883 hb; replace BK884 := kb BK884 hb; replace HB := kB HB hb; (try clear hb); (try clear hb2); (try clear hk); (try clear hi)))
            go_meet
            case rel => exact ⟨_, ((t887 == 0)), (by first | rfl | (simp; done) | (simp [*]; done)), H', ⟨by have := HJ2.out; have := HK2.out; first | omega | exact Nat.le_refl _⟩, ⟨kx BK865⟩, ⟨kx BK866⟩, ⟨kx BK869⟩, ⟨kx BK870⟩, ⟨kx BK876⟩, ⟨kx BK877⟩, ⟨kx BK883⟩, ⟨kx BK884⟩, ⟨ky HB⟩⟩
          case rest =>
            clear HC34; try clear c1; try clear c2; try clear p2; try clear c3; try clear c4; try clear c5; try clear c6; try clear c7; try clear c8; try clear c9; try clear c10; try clear c14; try clear c17; try clear c24; try clear c26; try clear c27; try clear c33; try clear c33b0; try clear c33b1; try clear c35; try clear c36; try clear c37; try clear c39; try clear c40; try clear c45; try clear c46; try clear c47; try clear c48; try clear c49; try clear c51; try clear c52; try clear c53; try clear c54; try clear c61; try clear c62; try clear c63; try clear c64; try clear c65; try clear c66; try clear c67; try clear c69; try clear c70; try clear c71; try clear c72; try clear c73; try clear c74; try clear c79; try clear c79b0; try clear c79b1; try clear c80; try clear c81; try clear c82; try clear c83; try clear c84; try clear c85; try clear c86; try clear c90; try clear c91; try clear c92; try clear c93; try clear c94; try clear c95; try clear c96; try clear c99; try clear c100; try clear c101; try clear c102; try clear c103; try clear c104; try clear hcz105_0; try clear hcz105_1; try clear hcz10_0; try clear hcz10_1; try clear hcz10_2; try clear hcz10_3; try clear hcz12_0; try clear hcz12_1; try clear hcz12_2; try clear hcz12_3; try clear hcz15_0; try clear hcz15_1; try clear hcz15_2; try clear hcz15_3; try clear hcz38_0; try clear hcz38_1; try clear hcz38_2; try clear hcz38_3; try clear hcz41_0; try clear hcz41_1; try clear hcz41_2; try clear hcz41_3; try clear hcz50_0; try clear hcz50_1; try clear hcz55_0; try clear hcz55_1; try clear hcz56_0; try clear hcz56_1; try clear hcz56_2; try clear hcz56_3; try clear hcz57_0; try clear hcz57_1; try clear hcz57_2; try clear hcz57_3; try clear hcz68_0; try clear hcz68_1; try clear hcz75_0; try clear hcz75_1; try clear hcz76_0; try clear hcz76_1; try clear hcz87_0; try clear hcz87_1; try clear hcz97_0; try clear hcz97_1; try clear hfz105_0; try clear hfz105_1; try clear hfz10_0; try clear hfz10_1; try clear hfz10_2; try clear hfz10_3; try clear hfz12_0; try clear hfz12_1; try clear hfz12_2; try clear hfz12_3; try clear hfz15_0; try clear hfz15_1; try clear hfz15_2; try clear hfz15_3; try clear hfz38_0; try clear hfz38_1; try clear hfz38_2; try clear hfz38_3; try clear hfz41_0; try clear hfz41_1; try clear hfz41_2; try clear hfz41_3; try clear hfz50_0; try clear hfz50_1; try clear hfz55_0; try clear hfz55_1; try clear hfz56_0; try clear hfz56_1; try clear hfz56_2; try clear hfz56_3; try clear hfz57_0; try clear hfz57_1; try clear hfz57_2; try clear hfz57_3; try clear hfz68_0; try clear hfz68_1; try clear hfz75_0; try clear hfz75_1; try clear hfz76_0; try clear hfz76_1; try clear hfz87_0; try clear hfz87_1; try clear hfz97_0; try clear hfz97_1; try clear p2
            obtain ⟨kq, x63_33, rfl, HA, HJ33, BK865, BK866, BK869, BK870, BK876, BK877, BK883, BK884, HB⟩ := hcut
            cases kq with
            | zero => exact absurd HA.out (by simp [frac_Cmp.j2])
            | succ kj33 =>
              have H := HA.out; clear HA
              simp only [frac_Cmp.j2] at H
              by_cases c107 : x63_33 = true
              · subst c107
                have H1 : ((wide_Sign.f t873 t874).bind fun t888 => ((wide_Sign.f t880 t881).bind fun t889 => (some (wrap64 (t888 - t889))))) = some r := by rw [if_pos rfl] at H; exact H
                clear H; have H := H1; clear H1
                replace H := Option.bind_eq_some_iff.mp H
                obtain ⟨t888, A1080, H⟩ := H
                replace H : ((wide_Sign.f t880 t881).bind fun t889 => (some (wrap64 (t888 - t889)))) = some r := H
                have A108 := Aside0.mk A1080
                clear A1080
                replace H := Option.bind_eq_some_iff.mp H
                obtain ⟨t889, A1090, H⟩ := H
                replace H : (some (wrap64 (t888 - t889))) = some r := H
                have A109 := Aside0.mk A1090
                clear A1090
                obtain rfl := Option.some.inj H
                try go_wp2
                replace BK865 := Aside0.mk (blk_drew BK865.out)
                replace BK866 := Aside0.mk (blk_drew BK866.out)
                replace BK869 := Aside0.mk (blk_drew BK869.out)
                replace BK870 := Aside0.mk (blk_drew BK870.out)
                replace BK876 := Aside0.mk (blk_drew BK876.out)
                replace BK877 := Aside0.mk (blk_drew BK877.out)
                replace BK883 := Aside0.mk (blk_drew BK883.out)
                replace BK884 := Aside0.mk (blk_drew BK884.out)
                replace HB := Aside0.mk (below_drew1 HB.out)
                refine start_ (n := 6) (S := fun w' => w'.cell? ⟨gb877, 0, none⟩ = some (.int .i64 t873) ∧ w'.cell? ⟨gb877, 1, none⟩ = some (.int .u64 t874) ∧ w'.cell? ⟨gb884, 0, none⟩ = some (.int .i64 t880) ∧ w'.cell? ⟨gb884, 1, none⟩ = some (.int .u64 t881)) (ds := []) #[O, O, O, O, O, O] (by kernel_rfl) rfl rfl ⟨kc BK877 0, kc BK877 1, kc BK884 0, kc BK884 1⟩ (fun hHeld => ?_)
                generalize wc.drew = w110 at BK865 BK866 BK869 BK870 BK876 BK877 BK883 BK884 HB hHeld ⊢
                refine take_ (i := 0) (N := some 64) (v := ?_) (a' := ?_) #[T, O, O, O, O, O] rfl rfl (by kernel_rfl) (fun _ _ _ h => h) (Or.inl ⟨by rfl, ?_⟩) hHeld ?_ ?_; rotate_left; focus (rintro w' ⟨s0, s1, s2, s3⟩; go_simp; with_reducible rfl)
                rotate_left; focus (simp only [Act.put, s1, s2, s3, i64_w, i32_w]; rfl)
                refine take_ (i := 2) (N := some 66) (v := ?_) (a' := ?_) #[T, O, T, O, O, O] rfl rfl (by kernel_rfl) (fun _ _ _ h => h) (Or.inl ⟨by rfl, ?_⟩) hHeld ?_ ?_; rotate_left; focus (rintro w' ⟨s0, s1, s2, s3⟩; go_simp; with_reducible rfl)
                rotate_left; focus (simp only [Act.put, s1, s2, s3, i64_w, i32_w]; rfl)
                refine one_ (i := 1) (N := some 65) #[T, T, T, O, O, O] rfl rfl (by kernel_rfl) (by decide) (fun K hK => ?_)
                refine goes_ Try.func26 (by kernel_rfl) rfl #[.agg #[.int .i64 t873, .int .u64 t874]] (by rfl) rfl rfl (by (try simp only [List.map_toArray, List.map_cons, List.map_nil]); first | done | rfl | (simp only [List.length_drop, List.length_take]; rfl)) ?_
                with_reducible refine (wide_Sign.calls t873 t874 t888 _ A108.out).mono ?_
                rintro e w111 ⟨rfl, hb⟩
                refine ⟨_, rfl, ?_⟩
                replace BK865 := kb BK865 hb
                replace BK866 := kb BK866 hb
                replace BK869 := kb BK869 hb
                replace BK870 := kb BK870 hb
                replace BK876 := kb BK876 hb
                replace BK877 := kb BK877 hb
                replace BK883 := kb BK883 hb
                replace BK884 := kb BK884 hb
                replace HB := kB HB hb
                (try clear hb); (try clear hb2); (try clear hk); (try clear hi)
                refine hK.out _ _ ⟨kc BK877 0, kc BK877 1, kc BK884 0, kc BK884 1⟩ (fun hHeld => ?_)
                clear hK K
                refine norm_ (a' := ?_) ?_ ?_; rotate_left; focus (show Act.put _ (some 65) _ = _; simp only [Act.put, s1, s2, s3, i64_w, i32_w]; rfl)
                refine one_ (i := 3) (N := some 67) #[T, T, T, T, O, O] rfl rfl (by kernel_rfl) (by decide) (fun K hK => ?_)
                refine goes_ Try.func26 (by kernel_rfl) rfl #[.agg #[.int .i64 t880, .int .u64 t881]] (by rfl) rfl rfl (by (try simp only [List.map_toArray, List.map_cons, List.map_nil]); first | done | rfl | (simp only [List.length_drop, List.length_take]; rfl)) ?_
                with_reducible refine (wide_Sign.calls t880 t881 t889 _ A109.out).mono ?_
                rintro e w112 ⟨rfl, hb⟩
                refine ⟨_, rfl, ?_⟩
                replace BK865 := kb BK865 hb
                replace BK866 := kb BK866 hb
                replace BK869 := kb BK869 hb
                replace BK870 := kb BK870 hb
                replace BK876 := kb BK876 hb
                replace BK877 := kb BK877 hb
                replace BK883 := kb BK883 hb
                replace BK884 := kb BK884 hb
                replace HB := kB HB hb
                (try clear hb); (try clear hb2); (try clear hk); (try clear hi)
                refine hK.out _ _ ⟨kc BK877 0, kc BK877 1, kc BK884 0, kc BK884 1⟩ (fun hHeld => ?_)
                clear hK K
                refine norm_ (a' := ?_) ?_ ?_; rotate_left; focus (show Act.put _ (some 67) _ = _; simp only [Act.put, s1, s2, s3, i64_w, i32_w]; rfl)
                refine pure_ (i := 4) (N := some 68) (v := ?_) (a' := ?_) #[T, T, T, T, T, O] rfl rfl (by kernel_rfl) (fun _ _ _ h => h) (Or.inl ⟨by rfl, ?_⟩) ?_ ?_; rotate_left; focus (intro w'; go_simp; with_reducible rfl)
                rotate_left; focus (simp only [Act.put, s1, s2, s3, i64_w, i32_w]; rfl)
                refine pure_ (i := 5) (N := some 4) (v := ?_) (a' := ?_) #[T, T, T, T, T, T] rfl rfl (by kernel_rfl) (fun _ _ _ h => h) (Or.inl ⟨by rfl, ?_⟩) ?_ ?_; rotate_left; focus (intro w'; go_simp; with_reducible rfl)
                rotate_left; focus (simp only [Act.put, s1, s2, s3, i64_w, i32_w]; rfl)
                refine done_ (by kernel_rfl) ?_
                try go_wp2
                go_ret
                exact ⟨by first | rfl | (simp [errW_none, errW_some] <;> rfl) | (simp [*, errW_none, errW_some] <;> rfl), ky HB⟩
              replace c107 := Bool.eq_false_iff.mpr c107
              subst c107
              have H1 : (frac_Cmp.l0 kj33 x871002_2 x871003_2 x871000_2 x871001_2 t880 t881 t873 t874) = some r := by rw [if_neg (show ¬ (false = true) by decide)] at H; exact H
              clear H; have H := H1; clear H1
              have H' := Aside0.mk H
              clear H
              try go_wp2
              replace BK865 := Aside0.mk (blk_drew BK865.out)
              replace BK866 := Aside0.mk (blk_drew BK866.out)
              replace BK869 := Aside0.mk (blk_drew BK869.out)
              replace BK870 := Aside0.mk (blk_drew BK870.out)
              replace BK876 := Aside0.mk (blk_drew BK876.out)
              replace BK877 := Aside0.mk (blk_drew BK877.out)
              replace BK883 := Aside0.mk (blk_drew BK883.out)
              replace BK884 := Aside0.mk (blk_drew BK884.out)
              replace HB := Aside0.mk (below_drew1 HB.out)
              refine start_ (n := 10) (S := fun w' => w'.cell? ⟨gb870, 0, none⟩ = some (.int .i64 x871000_2) ∧ w'.cell? ⟨gb870, 1, none⟩ = some (.int .u64 x871001_2) ∧ w'.cell? ⟨gb870, 2, none⟩ = some (.int .i64 x871002_2) ∧ w'.cell? ⟨gb870, 3, none⟩ = some (.int .u64 x871003_2) ∧ w'.cell? ⟨gb884, 0, none⟩ = some (.int .i64 t880) ∧ w'.cell? ⟨gb884, 1, none⟩ = some (.int .u64 t881) ∧ w'.cell? ⟨gb877, 0, none⟩ = some (.int .i64 t873) ∧ w'.cell? ⟨gb877, 1, none⟩ = some (.int .u64 t874)) (ds := [9]) #[O, O, O, O, O, O, O, O, O, O] (by kernel_rfl) rfl rfl ⟨kc BK870 0, kc BK870 1, kc BK870 2, kc BK870 3, kc BK884 0, kc BK884 1, kc BK877 0, kc BK877 1⟩ (fun hHeld => ?_); refine with_tabW frac_Cmp.tab11 frac_Cmp.bits11 (fun HT_ HW_ => ?_)
              generalize wc.drew = w113 at BK865 BK866 BK869 BK870 BK876 BK877 BK883 BK884 HB hHeld ⊢
              refine pure_ (i := 0) (N := some 69) (v := ?_) (a' := ?_) #[T, O, O, O, O, O, O, O, O, O] rfl rfl (any_of HT_.out (by kernel_rfl)) (fun _ _ _ h => h) (Or.inl ⟨by rfl, ?_⟩) ?_ ?_; rotate_left; focus (intro w'; go_simp; with_reducible rfl)
              rotate_left; focus (simp only [Act.put, s1, s2, s3, i64_w, i32_w]; rfl)
              refine pure_ (i := 2) (N := some 71) (v := ?_) (a' := ?_) #[T, O, T, O, O, O, O, O, O, O] rfl rfl (any_of HT_.out (by kernel_rfl)) (fun _ _ _ h => h) (Or.inl ⟨by rfl, ?_⟩) ?_ ?_; rotate_left; focus (intro w'; go_simp; with_reducible rfl)
              rotate_left; focus (simp only [Act.put, s1, s2, s3, i64_w, i32_w]; rfl)
              refine take_ (i := 1) (N := some 70) (v := ?_) (a' := ?_) #[T, T, T, O, O, O, O, O, O, O] rfl rfl (take_ofW HT_.out HW_.out (by kernel_rfl)) (fun _ _ _ h => h) (Or.inl ⟨by rfl, ?_⟩) hHeld ?_ ?_; rotate_left; focus (rintro w' ⟨s0, s1, s2, s3, s4, s5, s6, s7⟩; go_simp; with_reducible rfl)
              rotate_left; focus (simp only [Act.put, s1, s2, s3, i64_w, i32_w]; rfl)
              refine take_ (i := 3) (N := some 72) (v := ?_) (a' := ?_) #[T, T, T, T, O, O, O, O, O, O] rfl rfl (take_ofW HT_.out HW_.out (by kernel_rfl)) (fun _ _ _ h => h) (Or.inl ⟨by rfl, ?_⟩) hHeld ?_ ?_; rotate_left; focus (rintro w' ⟨s0, s1, s2, s3, s4, s5, s6, s7⟩; go_simp; with_reducible rfl)
              rotate_left; focus (simp only [Act.put, s1, s2, s3, i64_w, i32_w]; rfl)
              refine pure_ (i := 4) (N := some 73) (v := ?_) (a' := ?_) #[T, T, T, T, T, O, O, O, O, O] rfl rfl (any_of HT_.out (by kernel_rfl)) (fun _ _ _ h => h) (Or.inl ⟨by rfl, ?_⟩) ?_ ?_; rotate_left; focus (intro w'; go_simp; with_reducible rfl)
              rotate_left; focus (simp only [Act.put, s1, s2, s3, i64_w, i32_w]; rfl)
              refine take_ (i := 5) (N := some 74) (v := ?_) (a' := ?_) #[T, T, T, T, T, T, O, O, O, O] rfl rfl (take_ofW HT_.out HW_.out (by kernel_rfl)) (fun _ _ _ h => h) (Or.inl ⟨by rfl, ?_⟩) hHeld ?_ ?_; rotate_left; focus (rintro w' ⟨s0, s1, s2, s3, s4, s5, s6, s7⟩; go_simp; with_reducible rfl)
              rotate_left; focus (simp only [Act.put, s1, s2, s3, i64_w, i32_w]; rfl)
              refine take_ (i := 6) (N := some 75) (v := ?_) (a' := ?_) #[T, T, T, T, T, T, T, O, O, O] rfl rfl (take_ofW HT_.out HW_.out (by kernel_rfl)) (fun _ _ _ h => h) (Or.inl ⟨by rfl, ?_⟩) hHeld ?_ ?_; rotate_left; focus (rintro w' ⟨s0, s1, s2, s3, s4, s5, s6, s7⟩; go_simp; with_reducible rfl)
              rotate_left; focus (simp only [Act.put, s1, s2, s3, i64_w, i32_w]; rfl)
              refine pure_ (i := 7) (N := some 76) (v := ?_) (a' := ?_) #[T, T, T, T, T, T, T, T, O, O] rfl rfl (any_of HT_.out (by kernel_rfl)) (fun _ _ _ h => h) (Or.inl ⟨by rfl, ?_⟩) ?_ ?_; rotate_left; focus (intro w'; go_simp; with_reducible rfl)
              rotate_left; focus (simp only [Act.put, s1, s2, s3, i64_w, i32_w]; rfl)
              refine one_ (i := 8) (N := none) #[T, T, T, T, T, T, T, T, T, O] rfl rfl (one_of HT_.out (by kernel_rfl)) (by decide) (fun K hK => ?_)
              have hs114 : w113.cell? ⟨gb869, 0, none⟩ = some (.int .i64 x870000_2) := kc BK869 0
              have hfs114 := blk_frozen BK869.out 0
              have hns114_0 := NB865_869.out; have hns114_1 := NB866_869.out; have hns114_3 := NB870_869.out; have hns114_4 := NB876_869.out; have hns114_5 := NB877_869.out; have hns114_6 := NB883_869.out; have hns114_7 := NB884_869.out; have hms114_0 := NB869_865.out; have hms114_1 := NB869_866.out; have hms114_3 := NB869_870.out; have hms114_4 := NB869_876.out; have hms114_5 := NB869_877.out; have hms114_6 := NB869_883.out; have hms114_7 := NB869_884.out
              have hs115 : w113.cell? ⟨gb869, 1, none⟩ = some (.int .u64 x870001_2) := kc BK869 1
              have hfs115 := blk_frozen BK869.out 1
              have hns115_0 := NB865_869.out; have hns115_1 := NB866_869.out; have hns115_3 := NB870_869.out; have hns115_4 := NB876_869.out; have hns115_5 := NB877_869.out; have hns115_6 := NB883_869.out; have hns115_7 := NB884_869.out; have hms115_0 := NB869_865.out; have hms115_1 := NB869_866.out; have hms115_3 := NB869_870.out; have hms115_4 := NB869_876.out; have hms115_5 := NB869_877.out; have hms115_6 := NB869_883.out; have hms115_7 := NB869_884.out
              have hs116 : w113.cell? ⟨gb869, 2, none⟩ = some (.int .i64 x870002_2) := kc BK869 2
              have hfs116 := blk_frozen BK869.out 2
              have hns116_0 := NB865_869.out; have hns116_1 := NB866_869.out; have hns116_3 := NB870_869.out; have hns116_4 := NB876_869.out; have hns116_5 := NB877_869.out; have hns116_6 := NB883_869.out; have hns116_7 := NB884_869.out; have hms116_0 := NB869_865.out; have hms116_1 := NB869_866.out; have hms116_3 := NB869_870.out; have hms116_4 := NB869_876.out; have hms116_5 := NB869_877.out; have hms116_6 := NB869_883.out; have hms116_7 := NB869_884.out
              have hs117 : w113.cell? ⟨gb869, 3, none⟩ = some (.int .u64 x870003_2) := kc BK869 3
              have hfs117 := blk_frozen BK869.out 3
              have hns117_0 := NB865_869.out; have hns117_1 := NB866_869.out; have hns117_3 := NB870_869.out; have hns117_4 := NB876_869.out; have hns117_5 := NB877_869.out; have hns117_6 := NB883_869.out; have hns117_7 := NB884_869.out; have hms117_0 := NB869_865.out; have hms117_1 := NB869_866.out; have hms117_3 := NB869_870.out; have hms117_4 := NB869_876.out; have hms117_5 := NB869_877.out; have hms117_6 := NB869_883.out; have hms117_7 := NB869_884.out
              refine skip_ (w1 := ?_) (by rfl) rfl ?_ ?_
              rotate_left
              · go_simp
                rfl
              refine hK.out _ _ ⟨((cell_far (p := ⟨gb869, _, none⟩) NB870_869.out _).trans (((cell_far (p := ⟨gb869, _, none⟩) NB870_869.out _).trans (((cell_far (p := ⟨gb869, _, none⟩) NB870_869.out _).trans (((cell_far (p := ⟨gb869, _, none⟩) NB870_869.out _).trans (hHeld.1)))))))), ((cell_far (p := ⟨gb869, _, none⟩) NB870_869.out _).trans (((cell_far (p := ⟨gb869, _, none⟩) NB870_869.out _).trans (((cell_far (p := ⟨gb869, _, none⟩) NB870_869.out _).trans (((cell_far (p := ⟨gb869, _, none⟩) NB870_869.out _).trans (hHeld.2.1)))))))), ((cell_far (p := ⟨gb869, _, none⟩) NB870_869.out _).trans (((cell_far (p := ⟨gb869, _, none⟩) NB870_869.out _).trans (((cell_far (p := ⟨gb869, _, none⟩) NB870_869.out _).trans (((cell_far (p := ⟨gb869, _, none⟩) NB870_869.out _).trans (hHeld.2.2.1)))))))), ((cell_far (p := ⟨gb869, _, none⟩) NB870_869.out _).trans (((cell_far (p := ⟨gb869, _, none⟩) NB870_869.out _).trans (((cell_far (p := ⟨gb869, _, none⟩) NB870_869.out _).trans (((cell_far (p := ⟨gb869, _, none⟩) NB870_869.out _).trans (hHeld.2.2.2.1)))))))), ((cell_far (p := ⟨gb869, _, none⟩) NB884_869.out _).trans (((cell_far (p := ⟨gb869, _, none⟩) NB884_869.out _).trans (((cell_far (p := ⟨gb869, _, none⟩) NB884_869.out _).trans (((cell_far (p := ⟨gb869, _, none⟩) NB884_869.out _).trans (hHeld.2.2.2.2.1)))))))), ((cell_far (p := ⟨gb869, _, none⟩) NB884_869.out _).trans (((cell_far (p := ⟨gb869, _, none⟩) NB884_869.out _).trans (((cell_far (p := ⟨gb869, _, none⟩) NB884_869.out _).trans (((cell_far (p := ⟨gb869, _, none⟩) NB884_869.out _).trans (hHeld.2.2.2.2.2.1)))))))), ((cell_far (p := ⟨gb869, _, none⟩) NB877_869.out _).trans (((cell_far (p := ⟨gb869, _, none⟩) NB877_869.out _).trans (((cell_far (p := ⟨gb869, _, none⟩) NB877_869.out _).trans (((cell_far (p := ⟨gb869, _, none⟩) NB877_869.out _).trans (hHeld.2.2.2.2.2.2.1)))))))), ((cell_far (p := ⟨gb869, _, none⟩) NB877_869.out _).trans (((cell_far (p := ⟨gb869, _, none⟩) NB877_869.out _).trans (((cell_far (p := ⟨gb869, _, none⟩) NB877_869.out _).trans (((cell_far (p := ⟨gb869, _, none⟩) NB877_869.out _).trans (hHeld.2.2.2.2.2.2.2))))))))⟩ (fun hHeld => ?_)
              clear hK K
              refine last_ (i := 9) (N := none) #[T, T, T, T, T, T, T, T, T, T] rfl rfl (one_of HT_.out (by kernel_rfl)) (by decide) (fun K hK => ?_)
              have hs118 : w113.cell? ⟨gb870, 0, none⟩ = some (.int .i64 x871000_2) := kc BK870 0
              have hfs118 := blk_frozen BK870.out 0
              have hns118_0 := NB865_870.out; have hns118_1 := NB866_870.out; have hns118_2 := NB869_870.out; have hns118_4 := NB876_870.out; have hns118_5 := NB877_870.out; have hns118_6 := NB883_870.out; have hns118_7 := NB884_870.out; have hms118_0 := NB870_865.out; have hms118_1 := NB870_866.out; have hms118_2 := NB870_869.out; have hms118_4 := NB870_876.out; have hms118_5 := NB870_877.out; have hms118_6 := NB870_883.out; have hms118_7 := NB870_884.out
              have hs119 : w113.cell? ⟨gb870, 1, none⟩ = some (.int .u64 x871001_2) := kc BK870 1
              have hfs119 := blk_frozen BK870.out 1
              have hns119_0 := NB865_870.out; have hns119_1 := NB866_870.out; have hns119_2 := NB869_870.out; have hns119_4 := NB876_870.out; have hns119_5 := NB877_870.out; have hns119_6 := NB883_870.out; have hns119_7 := NB884_870.out; have hms119_0 := NB870_865.out; have hms119_1 := NB870_866.out; have hms119_2 := NB870_869.out; have hms119_4 := NB870_876.out; have hms119_5 := NB870_877.out; have hms119_6 := NB870_883.out; have hms119_7 := NB870_884.out
              have hs120 : w113.cell? ⟨gb870, 2, none⟩ = some (.int .i64 x871002_2) := kc BK870 2
              have hfs120 := blk_frozen BK870.out 2
              have hns120_0 := NB865_870.out; have hns120_1 := NB866_870.out; have hns120_2 := NB869_870.out; have hns120_4 := NB876_870.out; have hns120_5 := NB877_870.out; have hns120_6 := NB883_870.out; have hns120_7 := NB884_870.out; have hms120_0 := NB870_865.out; have hms120_1 := NB870_866.out; have hms120_2 := NB870_869.out; have hms120_4 := NB870_876.out; have hms120_5 := NB870_877.out; have hms120_6 := NB870_883.out; have hms120_7 := NB870_884.out
              have hs121 : w113.cell? ⟨gb870, 3, none⟩ = some (.int .u64 x871003_2) := kc BK870 3
              have hfs121 := blk_frozen BK870.out 3
              have hns121_0 := NB865_870.out; have hns121_1 := NB866_870.out; have hns121_2 := NB869_870.out; have hns121_4 := NB876_870.out; have hns121_5 := NB877_870.out; have hns121_6 := NB883_870.out; have hns121_7 := NB884_870.out; have hms121_0 := NB870_865.out; have hms121_1 := NB870_866.out; have hms121_2 := NB870_869.out; have hms121_4 := NB870_876.out; have hms121_5 := NB870_877.out; have hms121_6 := NB870_883.out; have hms121_7 := NB870_884.out
              refine skip_ (w1 := ?_) (by rfl) rfl ?_ ?_
              rotate_left
              · go_simp
                rfl
              refine hK.out _ _ ?_
              clear hK K
              refine done_ (done_of HT_.out (by kernel_rfl)) ?_
              try go_wp2
              go_roundg kj33
              case measure => have := HJ2.out; have := HK2.out; have := HJ33.out; omega
              case rel => exact ⟨(x871002_2), (x871003_2), (x871000_2), (x871001_2), (t880), (t881), (t873), (t874), H', ⟨by have := HJ2.out; have := HK2.out; have := HJ33.out; omega⟩, ⟨kx BK865⟩, ⟨kx BK866⟩, ⟨by (with_reducible repeat (first | refine blk_drewN ?_ _ | refine blk_drew ?_ | refine blk_alloc ?_ _)); refine blk_far ?_ NB869_870.out _; (with_reducible repeat (first | refine blk_drewN ?_ _ | refine blk_drew ?_ | refine blk_alloc ?_ _)); refine blk_far ?_ NB869_870.out _; (with_reducible repeat (first | refine blk_drewN ?_ _ | refine blk_drew ?_ | refine blk_alloc ?_ _)); refine blk_far ?_ NB869_870.out _; (with_reducible repeat (first | refine blk_drewN ?_ _ | refine blk_drew ?_ | refine blk_alloc ?_ _)); refine blk_far ?_ NB869_870.out _; (with_reducible repeat (first | refine blk_drewN ?_ _ | refine blk_drew ?_ | refine blk_alloc ?_ _)); refine blk_put (cs := #[.int .i64 x871002_2, .int .u64 x871003_2, .int .i64 x871000_2, .int .u64 x870003_2]) ?_ 3 _ rfl; (with_reducible repeat (first | refine blk_drewN ?_ _ | refine blk_drew ?_ | refine blk_alloc ?_ _)); refine blk_put (cs := #[.int .i64 x871002_2, .int .u64 x871003_2, .int .i64 x870002_2, .int .u64 x870003_2]) ?_ 2 _ rfl; (with_reducible repeat (first | refine blk_drewN ?_ _ | refine blk_drew ?_ | refine blk_alloc ?_ _)); refine blk_put (cs := #[.int .i64 x871002_2, .int .u64 x870001_2, .int .i64 x870002_2, .int .u64 x870003_2]) ?_ 1 _ rfl; (with_reducible repeat (first | refine blk_drewN ?_ _ | refine blk_drew ?_ | refine blk_alloc ?_ _)); refine blk_put (cs := #[.int .i64 x870000_2, .int .u64 x870001_2, .int .i64 x870002_2, .int .u64 x870003_2]) ?_ 0 _ rfl; (with_reducible repeat (first | refine blk_drewN ?_ _ | refine blk_drew ?_ | refine blk_alloc ?_ _)); exact BK869.out⟩, ⟨by (with_reducible repeat (first | refine blk_drewN ?_ _ | refine blk_drew ?_ | refine blk_alloc ?_ _)); refine blk_put (cs := #[.int .i64 t880, .int .u64 t881, .int .i64 t873, .int .u64 x871003_2]) ?_ 3 _ rfl; (with_reducible repeat (first | refine blk_drewN ?_ _ | refine blk_drew ?_ | refine blk_alloc ?_ _)); refine blk_put (cs := #[.int .i64 t880, .int .u64 t881, .int .i64 x871002_2, .int .u64 x871003_2]) ?_ 2 _ rfl; (with_reducible repeat (first | refine blk_drewN ?_ _ | refine blk_drew ?_ | refine blk_alloc ?_ _)); refine blk_put (cs := #[.int .i64 t880, .int .u64 x871001_2, .int .i64 x871002_2, .int .u64 x871003_2]) ?_ 1 _ rfl; (with_reducible repeat (first | refine blk_drewN ?_ _ | refine blk_drew ?_ | refine blk_alloc ?_ _)); refine blk_put (cs := #[.int .i64 x871000_2, .int .u64 x871001_2, .int .i64 x871002_2, .int .u64 x871003_2]) ?_ 0 _ rfl; (with_reducible repeat (first | refine blk_drewN ?_ _ | refine blk_drew ?_ | refine blk_alloc ?_ _)); refine blk_far ?_ NB870_869.out _; (with_reducible repeat (first | refine blk_drewN ?_ _ | refine blk_drew ?_ | refine blk_alloc ?_ _)); refine blk_far ?_ NB870_869.out _; (with_reducible repeat (first | refine blk_drewN ?_ _ | refine blk_drew ?_ | refine blk_alloc ?_ _)); refine blk_far ?_ NB870_869.out _; (with_reducible repeat (first | refine blk_drewN ?_ _ | refine blk_drew ?_ | refine blk_alloc ?_ _)); refine blk_far ?_ NB870_869.out _; (with_reducible repeat (first | refine blk_drewN ?_ _ | refine blk_drew ?_ | refine blk_alloc ?_ _)); exact BK870.out⟩, ⟨ky HB⟩⟩
end Go.Proofs.Ytpjbniihdndlmaa.Q
