-- Printed by wip/pp.sh (a session's own turning of the kit's print) for this seat.
import Derived.Test.YtpjbniihdndlmaaQx0
import Derived.Test.YtpjbniihdndlmaaQx3
import Derived.Test.YtpjbniihdndlmaaQx4
import Derived.Test.YtpjbniihdndlmaaQx6
import Derived.Test.YtpjbniihdndlmaaQx24
import Derived.Test.YtpjbniihdndlmaaQx27
namespace Go.Proofs.Ytpjbniihdndlmaa.Q
open Go.RowKit Go.Proofs.YtpjbniihdndlmaaW.PrintWords Go.Proofs.YtpjbniihdndlmaaW.PrintLast Go.Proofs.YtpjbniihdndlmaaW.PrintMore
open Go.Proofs.Ytpjbniihdndlmaa.H
attribute [local go_sem] hq_add64 hq_sub64 hq_not64 add64c_nn sub64c_nn sub64c_le
attribute [local go_sem] max2_int min2_int max_two min_two max_three min_three max_four min_four   -- for this text's walks alone
set_option linter.unusedVariables false
set_option linter.unusedSimpArgs false

attribute [local go_sem high] eqA94 eqA96
/-! ### grid_Sides: function 69 -/
def grid_Sides.f (a0_0 : Int) (a0_1 : Int) (a1 : Int) : Option (Int × Int × Int × Int) := (grid_In.f a0_0 a0_1 a1).bind fun t799 => (if t799 = true then ((grid_Center.f a0_0 a0_1 a1).bind fun bt800 => ((grid_rung.f a1).bind fun t802 => (if 0 ≤ t802 then (some (wrap64 ((wrap64 (2 * bt800.1)) - (shl .i64 1 t802)), wrap64 ((wrap64 (2 * bt800.2)) - (shl .i64 1 t802)), wrap64 ((wrap64 (2 * bt800.1)) + (shl .i64 1 t802)), wrap64 ((wrap64 (2 * bt800.2)) + (shl .i64 1 t802)))) else (none)))) else (some (0, 0, 0, 0)))
def grid_Sides.T3 : Bool × List (List Nat × List Nat) := (true, [([], []), ([], []), ([0, 1], [0, 1]), ([], []), ([3, 2], [3]), ([4], [4]), ([], []), ([6, 2, 4, 0, 1, 2, 6], [2, 6]), ([5, 7, 0, 1, 2, 3, 4, 5, 6, 7], [5])])
def grid_Sides.B3 : List Nat := [0, 0, 3, 0, 15, 31, 0, 95, 255]
theorem grid_Sides.tab3 : rtab .any (opsOf Try.f69 3) = grid_Sides.T3 := by kernel_rfl
theorem grid_Sides.bits3 : waitsOk grid_Sides.T3.2 grid_Sides.B3 = true := by kernel_rfl
def grid_Sides.T4 : Bool × List (List Nat × List Nat) := (true, [([], []), ([0], [0]), ([1], [1]), ([], []), ([2, 3], [2, 3]), ([], []), ([5], [5]), ([6], [6]), ([], []), ([7, 8], [7, 8]), ([4, 9], [4, 9]), ([], []), ([11], [11]), ([12], [12]), ([], []), ([13, 14], [13, 14]), ([], []), ([16], [16]), ([17], [17]), ([], []), ([18, 19], [18, 19]), ([15, 20], [15, 20]), ([10, 0, 1, 2, 3, 4, 5, 6, 7, 8, 9, 10], [10]), ([21, 22, 0, 1, 2, 3, 4, 5, 6, 7, 8, 9, 10, 11, 12, 13, 14, 15, 16, 17, 18, 19, 20, 21, 22], [21])])
def grid_Sides.B4 : List Nat := [0, 1, 3, 0, 15, 0, 32, 96, 0, 480, 1023, 0, 2048, 6144, 0, 30720, 0, 65536, 196608, 0, 983040, 2095104, 2047, 8388607]
theorem grid_Sides.tab4 : rtab .any (opsOf Try.f69 4) = grid_Sides.T4 := by kernel_rfl
theorem grid_Sides.bits4 : waitsOk grid_Sides.T4.2 grid_Sides.B4 = true := by kernel_rfl
set_option maxHeartbeats 8000000 in
set_option maxRecDepth 100000 in
theorem grid_Sides.calls (a0_0 : Int) (a0_1 : Int) (a1 : Int) (r1 : Int) (r2 : Int) (r3 : Int) (r4 : Int) (w : World) (h : grid_Sides.f a0_0 a0_1 a1 = some (r1, r2, r3, r4)) :
    Calls Try.prog 69 #[.agg #[.int .i64 a0_0, .int .i64 a0_1], .int .i64 a1] w fun e w' => e = .returned (.tuple #[.agg #[.int .i64 r1, .int .i64 r2], .agg #[.int .i64 r3, .int .i64 r4]]) ∧ Below w.heap.size w w' := by
  have hu94 := Try.underlying94
  have hu96 := Try.underlying96
  have HB := Aside0.mk (Below.refl w.heap.size w)
  have H : ((grid_In.f a0_0 a0_1 a1).bind fun t799 => (if t799 = true then ((grid_Center.f a0_0 a0_1 a1).bind fun bt800 => ((grid_rung.f a1).bind fun t802 => (if 0 ≤ t802 then (some (wrap64 ((wrap64 (2 * bt800.1)) - (shl .i64 1 t802)), wrap64 ((wrap64 (2 * bt800.2)) - (shl .i64 1 t802)), wrap64 ((wrap64 (2 * bt800.1)) + (shl .i64 1 t802)), wrap64 ((wrap64 (2 * bt800.2)) + (shl .i64 1 t802)))) else (none)))) else (some (0, 0, 0, 0)))) = some (r1, r2, r3, r4) := h
  clear h
  replace H := Option.bind_eq_some_iff.mp H
  obtain ⟨t799, A30, H⟩ := H
  replace H : (if t799 = true then ((grid_Center.f a0_0 a0_1 a1).bind fun bt800 => ((grid_rung.f a1).bind fun t802 => (if 0 ≤ t802 then (some (wrap64 ((wrap64 (2 * bt800.1)) - (shl .i64 1 t802)), wrap64 ((wrap64 (2 * bt800.2)) - (shl .i64 1 t802)), wrap64 ((wrap64 (2 * bt800.1)) + (shl .i64 1 t802)), wrap64 ((wrap64 (2 * bt800.2)) + (shl .i64 1 t802)))) else (none)))) else (some (0, 0, 0, 0))) = some (r1, r2, r3, r4) := H
  have A3 := Aside0.mk A30
  clear A30
  by_cases c4 : t799 = true
  rotate_left
  · replace c4 := Bool.eq_false_iff.mpr c4
    subst c4
    have H1 : (some (0, 0, 0, 0)) = some (r1, r2, r3, r4) := by rw [if_neg (show ¬ (false = true) by decide)] at H; exact H
    clear H; have H := H1; clear H1
    simp only [Option.some.injEq, Prod.mk.injEq] at H
    obtain ⟨rfl, rfl, rfl, rfl⟩ := H
    go_enter Try.func69, Try.ntmps69
    go_wp2_with (first | ((with_reducible refine gate_dst (N := 2) rfl ?_); refine box_event ?hg (N := 2) ?hd (cs := #[.int .i64 a0_0, .int .i64 a0_1]) (t := 94) ?hr ?_; (case hd => rfl); (case hg => rfl); (case hr => first | (go_simp; done) | (go_simp; rfl)); intro gb796 hg w29 hbox hb; have BK796 := Aside0.mk (hbox); have GW796 := kS HB hg; have GE796 := kS HB hg; replace HB := kB HB hb; clear hb hbox hg) | ((with_reducible refine gate_dst (N := 4) rfl ?_); refine box_event ?hg (N := 4) ?hd (cs := #[.int .i64 0, .int .i64 0]) (t := 96) ?hr ?_; (case hd => rfl); (case hg => rfl); (case hr => first | (go_simp; done) | (go_simp; rfl)); intro gb797 hg w30 hbox hb; have BK797 := Aside0.mk (hbox); have GW797 := kS HB hg; have GE797 := kS HB hg; have NB796_797 := kN BK796 hg; have NB797_796 := kM BK796 hg; replace BK796 := kb BK796 hb; replace HB := kB HB hb; clear hb hbox hg) | ((with_reducible refine gate_dst (N := 5) rfl ?_); refine box_event ?hg (N := 5) ?hd (cs := #[.int .i64 0, .int .i64 0]) (t := 96) ?hr ?_; (case hd => rfl); (case hg => rfl); (case hr => first | (go_simp; done) | (go_simp; rfl)); intro gb798 hg w31 hbox hb; have BK798 := Aside0.mk (hbox); have GW798 := kS HB hg; have GE798 := kS HB hg; have NB796_798 := kN BK796 hg; have NB798_796 := kM BK796 hg; have NB797_798 := kN BK797 hg; have NB798_797 := kM BK797 hg; replace BK796 := kb BK796 hb; replace BK797 := kb BK797 hb; replace HB := kB HB hb; clear hb hbox hg; have hnb32 := NB796_797.out; have hnc32 := NB797_796.out; have hnb33 := NB796_798.out; have hnc33 := NB798_796.out; have hcz34_0 : w31.cell? ⟨gb796, 0, none⟩ = some (.int .i64 a0_0) := kc BK796 0; have hcz34_1 : w31.cell? ⟨gb796, 1, none⟩ = some (.int .i64 a0_1) := kc BK796 1; have hfz34_0 := blk_frozen BK796.out 0; have hfz34_1 := blk_frozen BK796.out 1) | ((with_reducible refine gate_callee (f := 73) rfl ?_); refine goesL_ (some 10) rfl rfl Try.func73 (by kernel_rfl) rfl #[.agg #[.int .i64 a0_0, .int .i64 a0_1], .int .i64 a1] rfl (by (try simp only [List.map_toArray, List.map_cons, List.map_nil]); first | done | rfl | (simp only [List.length_drop, List.length_take]; rfl)) ?_; (with_reducible refine (grid_In.calls a0_0 a0_1 a1 false _ A3.out).mono ?_); rintro e w35 ⟨rfl, hb⟩; refine ⟨_, rfl, ?_⟩; replace BK796 := kb BK796 hb; replace BK797 := kb BK797 hb; replace BK798 := kb BK798 hb; replace HB := kB HB hb; (try clear hb); (try clear hb2); (try clear hk); (try clear hi); have hnb36 := NB797_798.out; have hnc36 := NB798_797.out; have hcz37_0 : w35.cell? ⟨gb797, 0, none⟩ = some (.int .i64 0) := kc BK797 0; have hcz37_1 : w35.cell? ⟨gb797, 1, none⟩ = some (.int .i64 0) := kc BK797 1; have hfz37_0 := blk_frozen BK797.out 0; have hfz37_1 := blk_frozen BK797.out 1; have hcz38_0 : w35.cell? ⟨gb798, 0, none⟩ = some (.int .i64 0) := kc BK798 0; have hcz38_1 : w35.cell? ⟨gb798, 1, none⟩ = some (.int .i64 0) := kc BK798 1; have hfz38_0 := blk_frozen BK798.out 0; have hfz38_1 := blk_frozen BK798.out 1))
    refine bodyPost_ret (results_cc rfl _ _ gb797 gb798 96 96 #[.int .i64 0, .int .i64 0] #[.int .i64 0, .int .i64 0] (0, 0) (0, 0) _ _ rfl (by (with_reducible repeat (first | refine blk_drewN ?_ _ | refine blk_drew ?_ | refine blk_alloc ?_ _)); refine blk_far ?_ NB797_798.out _; (with_reducible repeat (first | refine blk_drewN ?_ _ | refine blk_drew ?_ | refine blk_alloc ?_ _)); refine blk_far ?_ NB797_798.out _; (with_reducible repeat (first | refine blk_drewN ?_ _ | refine blk_drew ?_ | refine blk_alloc ?_ _)); refine blk_put (cs := #[.int .i64 0, .int .i64 0]) ?_ 1 _ rfl; (with_reducible repeat (first | refine blk_drewN ?_ _ | refine blk_drew ?_ | refine blk_alloc ?_ _)); refine blk_put (cs := #[.int .i64 0, .int .i64 0]) ?_ 0 _ rfl; (with_reducible repeat (first | refine blk_drewN ?_ _ | refine blk_drew ?_ | refine blk_alloc ?_ _)); exact BK797.out) Try.underlying96 rfl (by kernel_rfl) rfl (by (with_reducible repeat (first | refine blk_drewN ?_ _ | refine blk_drew ?_ | refine blk_alloc ?_ _)); refine blk_put (cs := #[.int .i64 0, .int .i64 0]) ?_ 1 _ rfl; (with_reducible repeat (first | refine blk_drewN ?_ _ | refine blk_drew ?_ | refine blk_alloc ?_ _)); refine blk_put (cs := #[.int .i64 0, .int .i64 0]) ?_ 0 _ rfl; (with_reducible repeat (first | refine blk_drewN ?_ _ | refine blk_drew ?_ | refine blk_alloc ?_ _)); refine blk_far ?_ NB798_797.out _; (with_reducible repeat (first | refine blk_drewN ?_ _ | refine blk_drew ?_ | refine blk_alloc ?_ _)); refine blk_far ?_ NB798_797.out _; (with_reducible repeat (first | refine blk_drewN ?_ _ | refine blk_drew ?_ | refine blk_alloc ?_ _)); exact BK798.out) Try.underlying96 rfl (by kernel_rfl)) rfl ?_
    exact ⟨by first | rfl | (simp [errW_none, errW_some] <;> rfl) | (simp [*, errW_none, errW_some] <;> rfl), ky HB⟩

  subst c4
  have H1 : ((grid_Center.f a0_0 a0_1 a1).bind fun bt800 => ((grid_rung.f a1).bind fun t802 => (if 0 ≤ t802 then (some (wrap64 ((wrap64 (2 * bt800.1)) - (shl .i64 1 t802)), wrap64 ((wrap64 (2 * bt800.2)) - (shl .i64 1 t802)), wrap64 ((wrap64 (2 * bt800.1)) + (shl .i64 1 t802)), wrap64 ((wrap64 (2 * bt800.2)) + (shl .i64 1 t802)))) else (none)))) = some (r1, r2, r3, r4) := by rw [if_pos rfl] at H; exact H
  clear H; have H := H1; clear H1
  replace H := Option.bind_eq_some_iff.mp H
  obtain ⟨⟨t800, t801⟩, A50, H⟩ := H
  replace H : ((grid_rung.f a1).bind fun t802 => (if 0 ≤ t802 then (some (wrap64 ((wrap64 (2 * t800)) - (shl .i64 1 t802)), wrap64 ((wrap64 (2 * t801)) - (shl .i64 1 t802)), wrap64 ((wrap64 (2 * t800)) + (shl .i64 1 t802)), wrap64 ((wrap64 (2 * t801)) + (shl .i64 1 t802)))) else (none))) = some (r1, r2, r3, r4) := H
  have A5 := Aside0.mk A50
  clear A50
  replace H := Option.bind_eq_some_iff.mp H
  obtain ⟨t802, A60, H⟩ := H
  replace H : (if 0 ≤ t802 then (some (wrap64 ((wrap64 (2 * t800)) - (shl .i64 1 t802)), wrap64 ((wrap64 (2 * t801)) - (shl .i64 1 t802)), wrap64 ((wrap64 (2 * t800)) + (shl .i64 1 t802)), wrap64 ((wrap64 (2 * t801)) + (shl .i64 1 t802)))) else (none)) = some (r1, r2, r3, r4) := H
  have A6 := Aside0.mk A60
  clear A60
  by_cases c7 : 0 ≤ t802
  rotate_left
  · rw [if_neg c7] at H
    exact absurd H (by simp)
  rw [if_pos c7] at H
  have c7b0 := eq_true c7
  have c7b1 : decide (0 ≤ t802) = true := decide_eq_true c7
  clear c7
  obtain ⟨ji8, hji8⟩ : ∃ j_ : Int, (shl .i64 1 t802) = j_ := ⟨_, rfl⟩
  replace H : (some (wrap64 ((wrap64 (2 * t800)) - (ji8)), wrap64 ((wrap64 (2 * t801)) - (ji8)), wrap64 ((wrap64 (2 * t800)) + (ji8)), wrap64 ((wrap64 (2 * t801)) + (ji8)))) = some (r1, r2, r3, r4) := by first | (rw [hji8] at H; exact H) | (simp only [hji8] at H ⊢; exact H)
  (try rw [hji8] at A3)
  (try rw [hji8] at A5)
  (try rw [hji8] at A6)
  have hji8_ : (IntKind.i64.wrap (1 * 2 ^ min t802.toNat 64)) = ji8 := hji8
  have hji8z : t802 ≤ 64 → (IntKind.i64.wrap (1 * 2 ^ t802.toNat)) = ji8 := shl_small hji8
  have hji8u : (IntKind.i64.wrap (2 ^ min t802.toNat 64)) = ji8 := by have h_ := hji8_; rw [Int.one_mul] at h_; exact h_
  have hji8v : t802 ≤ 64 → (IntKind.i64.wrap (2 ^ t802.toNat)) = ji8 := fun hle_ => by have h_ := hji8z hle_; rw [Int.one_mul] at h_; exact h_
  have hji8y : (wrap64 (1 * 2 ^ min t802.toNat 64)) = ji8 := (i64_w _).symm.trans hji8_
  have hji8x : t802 ≤ 64 → (wrap64 (1 * 2 ^ t802.toNat)) = ji8 := fun h_ => (i64_w _).symm.trans (hji8z h_)
  simp only [Option.some.injEq, Prod.mk.injEq] at H
  obtain ⟨rfl, rfl, rfl, rfl⟩ := H
  go_enter Try.func69, Try.ntmps69
  try go_wp2_with (first | ((with_reducible refine gate_dst (N := 2) rfl ?_); refine box_event ?hg (N := 2) ?hd (cs := #[.int .i64 a0_0, .int .i64 a0_1]) (t := 94) ?hr ?_; (case hd => rfl); (case hg => rfl); (case hr => first | (go_simp; done) | (go_simp; rfl)); intro gb796 hg w9 hbox hb; have BK796 := Aside0.mk (hbox); have GW796 := kS HB hg; have GE796 := kS HB hg; replace HB := kB HB hb; clear hb hbox hg) | ((with_reducible refine gate_dst (N := 4) rfl ?_); refine box_event ?hg (N := 4) ?hd (cs := #[.int .i64 0, .int .i64 0]) (t := 96) ?hr ?_; (case hd => rfl); (case hg => rfl); (case hr => first | (go_simp; done) | (go_simp; rfl)); intro gb797 hg w10 hbox hb; have BK797 := Aside0.mk (hbox); have GW797 := kS HB hg; have GE797 := kS HB hg; have NB796_797 := kN BK796 hg; have NB797_796 := kM BK796 hg; replace BK796 := kb BK796 hb; replace HB := kB HB hb; clear hb hbox hg) | ((with_reducible refine gate_dst (N := 5) rfl ?_); refine box_event ?hg (N := 5) ?hd (cs := #[.int .i64 0, .int .i64 0]) (t := 96) ?hr ?_; (case hd => rfl); (case hg => rfl); (case hr => first | (go_simp; done) | (go_simp; rfl)); intro gb798 hg w11 hbox hb; have BK798 := Aside0.mk (hbox); have GW798 := kS HB hg; have GE798 := kS HB hg; have NB796_798 := kN BK796 hg; have NB798_796 := kM BK796 hg; have NB797_798 := kN BK797 hg; have NB798_797 := kM BK797 hg; replace BK796 := kb BK796 hb; replace BK797 := kb BK797 hb; replace HB := kB HB hb; clear hb hbox hg; have hnb12 := NB796_797.out; have hnc12 := NB797_796.out; have hnb13 := NB796_798.out; have hnc13 := NB798_796.out; have hcz14_0 : w11.cell? ⟨gb796, 0, none⟩ = some (.int .i64 a0_0) := kc BK796 0; have hcz14_1 : w11.cell? ⟨gb796, 1, none⟩ = some (.int .i64 a0_1) := kc BK796 1; have hfz14_0 := blk_frozen BK796.out 0; have hfz14_1 := blk_frozen BK796.out 1) | ((with_reducible refine gate_callee (f := 73) rfl ?_); refine goesL_ (some 10) rfl rfl Try.func73 (by kernel_rfl) rfl #[.agg #[.int .i64 a0_0, .int .i64 a0_1], .int .i64 a1] rfl (by (try simp only [List.map_toArray, List.map_cons, List.map_nil]); first | done | rfl | (simp only [List.length_drop, List.length_take]; rfl)) ?_; (with_reducible refine (grid_In.calls a0_0 a0_1 a1 true _ A3.out).mono ?_); rintro e w15 ⟨rfl, hb⟩; refine ⟨_, rfl, ?_⟩; replace BK796 := kb BK796 hb; replace BK797 := kb BK797 hb; replace BK798 := kb BK798 hb; replace HB := kB HB hb; (try clear hb); (try clear hb2); (try clear hk); (try clear hi)))
  replace BK796 := Aside0.mk (blk_drew BK796.out)
  replace BK797 := Aside0.mk (blk_drew BK797.out)
  replace BK798 := Aside0.mk (blk_drew BK798.out)
  replace HB := Aside0.mk (below_drew1 HB.out)
  refine start_ (n := 9) (S := fun w' => w'.cell? ⟨gb796, 0, none⟩ = some (.int .i64 a0_0) ∧ w'.cell? ⟨gb796, 1, none⟩ = some (.int .i64 a0_1)) (ds := []) #[O, O, O, O, O, O, O, O, O] (by kernel_rfl) rfl rfl ⟨kc BK796 0, kc BK796 1⟩ (fun hHeld => ?_); refine with_tabW grid_Sides.tab3 grid_Sides.bits3 (fun HT_ HW_ => ?_)
  generalize w15.drew = w16 at BK796 BK797 BK798 HB hHeld ⊢
  refine pure_ (i := 1) (N := some 15) (v := ?_) (a' := ?_) #[O, T, O, O, O, O, O, O, O] rfl rfl (any_of HT_.out (by kernel_rfl)) (fun _ _ _ h => h) (Or.inl ⟨by rfl, ?_⟩) ?_ ?_; rotate_left; focus (intro w'; go_simp; with_reducible rfl)
  rotate_left; focus (simp only [Act.put, s1, s2, s3, i64_w, i32_w]; rfl)
  refine pure_ (i := 3) (N := some 17) (v := ?_) (a' := ?_) #[O, T, O, T, O, O, O, O, O] rfl rfl (any_of HT_.out (by kernel_rfl)) (fun _ _ _ h => h) (Or.inl ⟨by rfl, ?_⟩) ?_ ?_; rotate_left; focus (intro w'; go_simp; with_reducible rfl)
  rotate_left; focus (simp only [Act.put, s1, s2, s3, i64_w, i32_w]; rfl)
  refine take_ (i := 0) (N := some 14) (v := ?_) (a' := ?_) #[T, T, O, T, O, O, O, O, O] rfl rfl (take_ofW HT_.out HW_.out (by kernel_rfl)) (fun _ _ _ h => h) (Or.inl ⟨by rfl, ?_⟩) hHeld ?_ ?_; rotate_left; focus (rintro w' ⟨s0, s1⟩; go_simp; with_reducible rfl)
  rotate_left; focus (simp only [Act.put, s1, s2, s3, i64_w, i32_w]; rfl)
  refine join_ (σ := Nat) 2 #[T, T, T, T, T, T, T, O, O] (fun s_ => [(16, .agg #[.int .i64 t800, .int .i64 t801]), (18, .int .i64 t802), (6, .pointer (some ⟨s_, 0, none⟩)), (19, .int .i64 ji8)]) (fun s_ w' => (w'.cell? ⟨gb796, 0, none⟩ = some (.int .i64 a0_0) ∧ w'.cell? ⟨gb796, 1, none⟩ = some (.int .i64 a0_1)) ∧ (w'.heap[gb796]? = some (.cells #[.int .i64 a0_0, .int .i64 a0_1] 94 (0, 0))) ∧ (w'.heap[gb797]? = some (.cells #[.int .i64 0, .int .i64 0] 96 (0, 0))) ∧ (w'.heap[gb798]? = some (.cells #[.int .i64 0, .int .i64 0] 96 (0, 0))) ∧ (w'.heap[s_]? = some (.cells #[.int .i64 0, .int .i64 0] 96 (0, 0))) ∧ (w.heap.size ≤ s_) ∧ (w.heap.size ≤ s_) ∧ (gb796 ≠ s_) ∧ (s_ ≠ gb796) ∧ (gb797 ≠ s_) ∧ (s_ ≠ gb797) ∧ (gb798 ≠ s_) ∧ (s_ ≠ gb798) ∧ (Below w.heap.size w w')) ?_ ?_
  rotate_left
  · intro hCont
    refine two_ (i := 2) (j := 6) (Ni := some 16) (Nj := some 6) #[T, T, T, T, O, O, O, O, O] #[T, T, O, T, O, O, T, O, O] rfl rfl rfl rfl (two_of HT_.out (by kernel_rfl)) (by decide) (by decide) (fun K hK => ?_) (fun K hK => ?_)
    · skip
      refine goes_ Try.func70 (by kernel_rfl) rfl #[.agg #[.int .i64 a0_0, .int .i64 a0_1], .int .i64 a1] (by rfl) rfl rfl (by (try simp only [List.map_toArray, List.map_cons, List.map_nil]); first | done | rfl | (simp only [List.length_drop, List.length_take]; rfl)) ?_
      with_reducible refine (grid_Center.calls a0_0 a0_1 a1 t800 t801 _ A5.out).mono ?_
      rintro e w17 ⟨rfl, hb⟩
      refine ⟨_, rfl, ?_⟩
      replace BK796 := kb BK796 hb
      replace BK797 := kb BK797 hb
      replace BK798 := kb BK798 hb
      replace HB := kB HB hb
      (try clear hb); (try clear hb2); (try clear hk); (try clear hi)
      refine hK.out _ _ ⟨kc BK796 0, kc BK796 1⟩ (fun hHeld => ?_)
      clear hK K
      refine norm_ (a' := ?_) ?_ ?_; rotate_left; focus (show Act.put _ (some 16) _ = _; simp only [Act.put, s1, s2, s3, i64_w, i32_w]; rfl)
      refine two_ (i := 4) (j := 6) (Ni := some 18) (Nj := some 6) #[T, T, T, T, T, O, O, O, O] #[T, T, T, T, O, O, T, O, O] rfl rfl rfl rfl (two_of HT_.out (by kernel_rfl)) (by decide) (by decide) (fun K hK => ?_) (fun K hK => ?_)
      · skip
        refine goes_ Try.func74 (by kernel_rfl) rfl #[.int .i64 a1] (by rfl) rfl rfl (by (try simp only [List.map_toArray, List.map_cons, List.map_nil]); first | done | rfl | (simp only [List.length_drop, List.length_take]; rfl)) ?_
        with_reducible refine (grid_rung.calls a1 t802 _ A6.out).mono ?_
        rintro e w18 ⟨rfl, hb⟩
        refine ⟨_, rfl, ?_⟩
        replace BK796 := kb BK796 hb
        replace BK797 := kb BK797 hb
        replace BK798 := kb BK798 hb
        replace HB := kB HB hb
        (try clear hb); (try clear hb2); (try clear hk); (try clear hi)
        refine hK.out _ _ ⟨kc BK796 0, kc BK796 1⟩ (fun hHeld => ?_)
        clear hK K
        refine norm_ (a' := ?_) ?_ ?_; rotate_left; focus (show Act.put _ (some 18) _ = _; simp only [Act.put, s1, s2, s3, i64_w, i32_w]; rfl)
        refine pure_ (i := 5) (N := some 19) (v := ?_) (a' := ?_) #[T, T, T, T, T, T, O, O, O] rfl rfl (any_of HT_.out (by kernel_rfl)) (fun _ _ _ h => h) (Or.inl ⟨by rfl, ?_⟩) ?_ ?_; rotate_left; focus (intro w'; go_simp; with_reducible rfl)
        rotate_left; focus (simp only [Act.put, s1, s2, s3, i64_w, i32_w]; rfl)
        refine one_ (i := 6) (N := some 6) #[T, T, T, T, T, T, T, O, O] rfl rfl (one_of HT_.out (by kernel_rfl)) (by decide) (fun K hK => ?_)
        refine box_step ?hg (N := 6) ?hd (cs := #[.int .i64 0, .int .i64 0]) (t := 96) ?hr ?_; (case hd => rfl); (case hg => rfl); (case hr => first | (go_simp; done) | (go_simp; rfl))
        intro gb803 hg w19 hbox hb
        have BK803 := Aside0.mk (hbox)
        have GW803 := kS HB hg
        have GE803 := kS HB hg
        have NB796_803 := kN BK796 hg
        have NB803_796 := kM BK796 hg
        have NB797_803 := kN BK797 hg
        have NB803_797 := kM BK797 hg
        have NB798_803 := kN BK798 hg
        have NB803_798 := kM BK798 hg
        replace BK796 := kb BK796 hb
        replace BK797 := kb BK797 hb
        replace BK798 := kb BK798 hb
        replace HB := kB HB hb
        clear hb hbox hg
        refine hK.out _ _ ⟨kc BK796 0, kc BK796 1⟩ (fun hHeld => ?_)
        clear hK K
        refine norm_ (a' := ?_) ?_ ?_; rotate_left; focus (show Act.put _ (some 6) _ = _; simp only [Act.put, s1, s2, s3, i64_w, i32_w]; rfl)
        exact norm_ (by simp only [putAll, Act.put, s1, s2, s3]) (hCont (gb803) _ ⟨hHeld, (kx BK796), (kx BK797), (kx BK798), (kx BK803), GW803.out, GE803.out, NB796_803.out, NB803_796.out, NB797_803.out, NB803_797.out, NB798_803.out, NB803_798.out, (ky HB)⟩)
      · skip
        refine box_step ?hg (N := 6) ?hd (cs := #[.int .i64 0, .int .i64 0]) (t := 96) ?hr ?_; (case hd => rfl); (case hg => rfl); (case hr => first | (go_simp; done) | (go_simp; rfl))
        intro gb803 hg w18 hbox hb
        have BK803 := Aside0.mk (hbox)
        have GW803 := kS HB hg
        have GE803 := kS HB hg
        have NB796_803 := kN BK796 hg
        have NB803_796 := kM BK796 hg
        have NB797_803 := kN BK797 hg
        have NB803_797 := kM BK797 hg
        have NB798_803 := kN BK798 hg
        have NB803_798 := kM BK798 hg
        replace BK796 := kb BK796 hb
        replace BK797 := kb BK797 hb
        replace BK798 := kb BK798 hb
        replace HB := kB HB hb
        clear hb hbox hg
        refine hK.out _ _ ⟨kc BK796 0, kc BK796 1⟩ (fun hHeld => ?_)
        clear hK K
        refine norm_ (a' := ?_) ?_ ?_; rotate_left; focus (show Act.put _ (some 6) _ = _; simp only [Act.put, s1, s2, s3, i64_w, i32_w]; rfl)
        refine one_ (i := 4) (N := some 18) #[T, T, T, T, T, O, T, O, O] rfl rfl (one_of HT_.out (by kernel_rfl)) (by decide) (fun K hK => ?_)
        refine goes_ Try.func74 (by kernel_rfl) rfl #[.int .i64 a1] (by rfl) rfl rfl (by (try simp only [List.map_toArray, List.map_cons, List.map_nil]); first | done | rfl | (simp only [List.length_drop, List.length_take]; rfl)) ?_
        with_reducible refine (grid_rung.calls a1 t802 _ A6.out).mono ?_
        rintro e w19 ⟨rfl, hb⟩
        refine ⟨_, rfl, ?_⟩
        replace BK796 := kb BK796 hb
        replace BK797 := kb BK797 hb
        replace BK798 := kb BK798 hb
        replace BK803 := kb BK803 hb
        replace HB := kB HB hb
        (try clear hb); (try clear hb2); (try clear hk); (try clear hi)
        refine hK.out _ _ ⟨kc BK796 0, kc BK796 1⟩ (fun hHeld => ?_)
        clear hK K
        refine norm_ (a' := ?_) ?_ ?_; rotate_left; focus (show Act.put _ (some 18) _ = _; simp only [Act.put, s1, s2, s3, i64_w, i32_w]; rfl)
        refine pure_ (i := 5) (N := some 19) (v := ?_) (a' := ?_) #[T, T, T, T, T, T, T, O, O] rfl rfl (any_of HT_.out (by kernel_rfl)) (fun _ _ _ h => h) (Or.inl ⟨by rfl, ?_⟩) ?_ ?_; rotate_left; focus (intro w'; go_simp; with_reducible rfl)
        rotate_left; focus (simp only [Act.put, s1, s2, s3, i64_w, i32_w]; rfl)
        exact norm_ (by simp only [putAll, Act.put, s1, s2, s3]) (hCont (gb803) _ ⟨hHeld, (kx BK796), (kx BK797), (kx BK798), (kx BK803), GW803.out, GE803.out, NB796_803.out, NB803_796.out, NB797_803.out, NB803_797.out, NB798_803.out, NB803_798.out, (ky HB)⟩)
    · skip
      refine box_step ?hg (N := 6) ?hd (cs := #[.int .i64 0, .int .i64 0]) (t := 96) ?hr ?_; (case hd => rfl); (case hg => rfl); (case hr => first | (go_simp; done) | (go_simp; rfl))
      intro gb803 hg w17 hbox hb
      have BK803 := Aside0.mk (hbox)
      have GW803 := kS HB hg
      have GE803 := kS HB hg
      have NB796_803 := kN BK796 hg
      have NB803_796 := kM BK796 hg
      have NB797_803 := kN BK797 hg
      have NB803_797 := kM BK797 hg
      have NB798_803 := kN BK798 hg
      have NB803_798 := kM BK798 hg
      replace BK796 := kb BK796 hb
      replace BK797 := kb BK797 hb
      replace BK798 := kb BK798 hb
      replace HB := kB HB hb
      clear hb hbox hg
      refine hK.out _ _ ⟨kc BK796 0, kc BK796 1⟩ (fun hHeld => ?_)
      clear hK K
      refine norm_ (a' := ?_) ?_ ?_; rotate_left; focus (show Act.put _ (some 6) _ = _; simp only [Act.put, s1, s2, s3, i64_w, i32_w]; rfl)
      refine one_ (i := 2) (N := some 16) #[T, T, T, T, O, O, T, O, O] rfl rfl (one_of HT_.out (by kernel_rfl)) (by decide) (fun K hK => ?_)
      refine goes_ Try.func70 (by kernel_rfl) rfl #[.agg #[.int .i64 a0_0, .int .i64 a0_1], .int .i64 a1] (by rfl) rfl rfl (by (try simp only [List.map_toArray, List.map_cons, List.map_nil]); first | done | rfl | (simp only [List.length_drop, List.length_take]; rfl)) ?_
      with_reducible refine (grid_Center.calls a0_0 a0_1 a1 t800 t801 _ A5.out).mono ?_
      rintro e w18 ⟨rfl, hb⟩
      refine ⟨_, rfl, ?_⟩
      replace BK796 := kb BK796 hb
      replace BK797 := kb BK797 hb
      replace BK798 := kb BK798 hb
      replace BK803 := kb BK803 hb
      replace HB := kB HB hb
      (try clear hb); (try clear hb2); (try clear hk); (try clear hi)
      refine hK.out _ _ ⟨kc BK796 0, kc BK796 1⟩ (fun hHeld => ?_)
      clear hK K
      refine norm_ (a' := ?_) ?_ ?_; rotate_left; focus (show Act.put _ (some 16) _ = _; simp only [Act.put, s1, s2, s3, i64_w, i32_w]; rfl)
      refine one_ (i := 4) (N := some 18) #[T, T, T, T, T, O, T, O, O] rfl rfl (one_of HT_.out (by kernel_rfl)) (by decide) (fun K hK => ?_)
      refine goes_ Try.func74 (by kernel_rfl) rfl #[.int .i64 a1] (by rfl) rfl rfl (by (try simp only [List.map_toArray, List.map_cons, List.map_nil]); first | done | rfl | (simp only [List.length_drop, List.length_take]; rfl)) ?_
      with_reducible refine (grid_rung.calls a1 t802 _ A6.out).mono ?_
      rintro e w19 ⟨rfl, hb⟩
      refine ⟨_, rfl, ?_⟩
      replace BK796 := kb BK796 hb
      replace BK797 := kb BK797 hb
      replace BK798 := kb BK798 hb
      replace BK803 := kb BK803 hb
      replace HB := kB HB hb
      (try clear hb); (try clear hb2); (try clear hk); (try clear hi)
      refine hK.out _ _ ⟨kc BK796 0, kc BK796 1⟩ (fun hHeld => ?_)
      clear hK K
      refine norm_ (a' := ?_) ?_ ?_; rotate_left; focus (show Act.put _ (some 18) _ = _; simp only [Act.put, s1, s2, s3, i64_w, i32_w]; rfl)
      refine pure_ (i := 5) (N := some 19) (v := ?_) (a' := ?_) #[T, T, T, T, T, T, T, O, O] rfl rfl (any_of HT_.out (by kernel_rfl)) (fun _ _ _ h => h) (Or.inl ⟨by rfl, ?_⟩) ?_ ?_; rotate_left; focus (intro w'; go_simp; with_reducible rfl)
      rotate_left; focus (simp only [Act.put, s1, s2, s3, i64_w, i32_w]; rfl)
      exact norm_ (by simp only [putAll, Act.put, s1, s2, s3]) (hCont (gb803) _ ⟨hHeld, (kx BK796), (kx BK797), (kx BK798), (kx BK803), GW803.out, GE803.out, NB796_803.out, NB803_796.out, NB797_803.out, NB803_797.out, NB798_803.out, NB803_798.out, (ky HB)⟩)
  rintro gb803 w20 ⟨hS_, h0_, h1_, h2_, h3_, h4_, h5_, h6_, h7_, h8_, h9_, h10_, h11_, h12_⟩
  clear BK796 BK797 BK798 HB
  have BK796 := A0 h0_; have BK797 := A0 h1_; have BK798 := A0 h2_; have BK803 := A0 h3_; have GW803 := A0 h4_; have GE803 := A0 h5_; have NB796_803 := A0 h6_; have NB803_796 := A0 h7_; have NB797_803 := A0 h8_; have NB803_797 := A0 h9_; have NB798_803 := A0 h10_; have NB803_798 := A0 h11_; have HB := A0 h12_
  clear h0_ h1_ h2_ h3_ h4_ h5_ h6_ h7_ h8_ h9_ h10_ h11_ h12_
  have hHeld := hS_
  refine norm_ (a' := ?_) ?_ ?_; rotate_left; focus (simp only [putAll, Act.put, s1, s2, s3]; rfl)
  refine one_ (i := 7) (N := none) #[T, T, T, T, T, T, T, T, O] rfl rfl (one_of HT_.out (by kernel_rfl)) (by decide) (fun K hK => ?_)
  have hs21 : w20.cell? ⟨gb803, 0, none⟩ = some (.int .i64 0) := kc BK803 0
  have hfs21 := blk_frozen BK803.out 0
  have hns21_0 := NB796_803.out; have hns21_1 := NB797_803.out; have hns21_2 := NB798_803.out; have hms21_0 := NB803_796.out; have hms21_1 := NB803_797.out; have hms21_2 := NB803_798.out
  have hs22 : w20.cell? ⟨gb803, 1, none⟩ = some (.int .i64 0) := kc BK803 1
  have hfs22 := blk_frozen BK803.out 1
  have hns22_0 := NB796_803.out; have hns22_1 := NB797_803.out; have hns22_2 := NB798_803.out; have hms22_0 := NB803_796.out; have hms22_1 := NB803_797.out; have hms22_2 := NB803_798.out
  refine skip_ (w1 := ?_) (by rfl) rfl ?_ ?_
  rotate_left
  · go_simp
    rfl
  refine hK.out _ _ ⟨((cell_far (p := ⟨gb803, _, none⟩) NB796_803.out _).trans (((cell_far (p := ⟨gb803, _, none⟩) NB796_803.out _).trans (hHeld.1)))), ((cell_far (p := ⟨gb803, _, none⟩) NB796_803.out _).trans (((cell_far (p := ⟨gb803, _, none⟩) NB796_803.out _).trans (hHeld.2))))⟩ (fun hHeld => ?_)
  clear hK K
  refine pure_ (i := 8) (N := some 7) (v := ?_) (a' := ?_) #[T, T, T, T, T, T, T, T, T] rfl rfl (any_of HT_.out (by kernel_rfl)) (fun _ _ _ h => h) (Or.inl ⟨by rfl, ?_⟩) ?_ ?_; rotate_left; focus (intro w'; go_simp; with_reducible rfl)
  rotate_left; focus (simp only [Act.put, s1, s2, s3, i64_w, i32_w]; rfl)
  refine done_ (done_of HT_.out (by kernel_rfl)) ?_
  try go_wp2
  have n0_ : Aside0 (((w20.setCell ⟨gb803, 0, none⟩ (.int .i64 t800)).setCell ⟨gb803, 1, none⟩ (.int .i64 t801)).heap[gb796]? = some (.cells #[.int .i64 a0_0, .int .i64 a0_1] 94 (0, 0))) := ⟨kx BK796⟩
  have n1_ : Aside0 (((w20.setCell ⟨gb803, 0, none⟩ (.int .i64 t800)).setCell ⟨gb803, 1, none⟩ (.int .i64 t801)).heap[gb797]? = some (.cells #[.int .i64 0, .int .i64 0] 96 (0, 0))) := ⟨kx BK797⟩
  have n2_ : Aside0 (((w20.setCell ⟨gb803, 0, none⟩ (.int .i64 t800)).setCell ⟨gb803, 1, none⟩ (.int .i64 t801)).heap[gb798]? = some (.cells #[.int .i64 0, .int .i64 0] 96 (0, 0))) := ⟨kx BK798⟩
  have n3_ : Aside0 (((w20.setCell ⟨gb803, 0, none⟩ (.int .i64 t800)).setCell ⟨gb803, 1, none⟩ (.int .i64 t801)).heap[gb803]? = some (.cells #[.int .i64 t800, .int .i64 t801] 96 (0, 0))) := ⟨by (with_reducible repeat (first | refine blk_drewN ?_ _ | refine blk_drew ?_ | refine blk_alloc ?_ _)); refine blk_put (cs := #[.int .i64 t800, .int .i64 0]) ?_ 1 _ rfl; (with_reducible repeat (first | refine blk_drewN ?_ _ | refine blk_drew ?_ | refine blk_alloc ?_ _)); refine blk_put (cs := #[.int .i64 0, .int .i64 0]) ?_ 0 _ rfl; (with_reducible repeat (first | refine blk_drewN ?_ _ | refine blk_drew ?_ | refine blk_alloc ?_ _)); exact BK803.out⟩
  have n4_ : Aside0 (Below w.heap.size w ((w20.setCell ⟨gb803, 0, none⟩ (.int .i64 t800)).setCell ⟨gb803, 1, none⟩ (.int .i64 t801))) := ⟨ky HB⟩
  (try clear BK796); (try clear BK797); (try clear BK798); (try clear BK803); (try clear HB)
  generalize ((w20.setCell ⟨gb803, 0, none⟩ (.int .i64 t800)).setCell ⟨gb803, 1, none⟩ (.int .i64 t801)) = w23 at n0_ n1_ n2_ n3_ n4_ ⊢
  have BK796 := n0_; have BK797 := n1_; have BK798 := n2_; have BK803 := n3_; have HB := n4_
  clear n0_ n1_ n2_ n3_ n4_
  replace BK796 := Aside0.mk (blk_drew BK796.out)
  replace BK797 := Aside0.mk (blk_drew BK797.out)
  replace BK798 := Aside0.mk (blk_drew BK798.out)
  replace BK803 := Aside0.mk (blk_drew BK803.out)
  replace HB := Aside0.mk (below_drew1 HB.out)
  refine start_ (n := 24) (S := fun w' => w'.cell? ⟨gb803, 0, none⟩ = some (.int .i64 t800) ∧ w'.cell? ⟨gb803, 1, none⟩ = some (.int .i64 t801)) (ds := []) #[O, O, O, O, O, O, O, O, O, O, O, O, O, O, O, O, O, O, O, O, O, O, O, O] (by kernel_rfl) rfl rfl ⟨kc BK803 0, kc BK803 1⟩ (fun hHeld => ?_); refine with_tabW grid_Sides.tab4 grid_Sides.bits4 (fun HT_ HW_ => ?_)
  generalize w23.drew = w24 at BK796 BK797 BK798 BK803 HB hHeld ⊢
  refine pure_ (i := 0) (N := some 20) (v := ?_) (a' := ?_) #[T, O, O, O, O, O, O, O, O, O, O, O, O, O, O, O, O, O, O, O, O, O, O, O] rfl rfl (any_of HT_.out (by kernel_rfl)) (fun _ _ _ h => h) (Or.inl ⟨by rfl, ?_⟩) ?_ ?_; rotate_left; focus (intro w'; go_simp; with_reducible rfl)
  rotate_left; focus (simp only [Act.put, s1, s2, s3, i64_w, i32_w]; rfl)
  refine pure_ (i := 3) (N := some 23) (v := ?_) (a' := ?_) #[T, O, O, T, O, O, O, O, O, O, O, O, O, O, O, O, O, O, O, O, O, O, O, O] rfl rfl (any_of HT_.out (by kernel_rfl)) (fun _ _ _ h => h) (Or.inl ⟨by rfl, ?_⟩) ?_ ?_; rotate_left; focus (intro w'; go_simp; with_reducible rfl)
  rotate_left; focus (simp only [Act.put, s1, s2, s3, i64_w, i32_w]; rfl)
  refine pure_ (i := 5) (N := some 25) (v := ?_) (a' := ?_) #[T, O, O, T, O, T, O, O, O, O, O, O, O, O, O, O, O, O, O, O, O, O, O, O] rfl rfl (any_of HT_.out (by kernel_rfl)) (fun _ _ _ h => h) (Or.inl ⟨by rfl, ?_⟩) ?_ ?_; rotate_left; focus (intro w'; go_simp; with_reducible rfl)
  rotate_left; focus (simp only [Act.put, s1, s2, s3, i64_w, i32_w]; rfl)
  refine pure_ (i := 8) (N := some 28) (v := ?_) (a' := ?_) #[T, O, O, T, O, T, O, O, T, O, O, O, O, O, O, O, O, O, O, O, O, O, O, O] rfl rfl (any_of HT_.out (by kernel_rfl)) (fun _ _ _ h => h) (Or.inl ⟨by rfl, ?_⟩) ?_ ?_; rotate_left; focus (intro w'; go_simp; with_reducible rfl)
  rotate_left; focus (simp only [Act.put, s1, s2, s3, i64_w, i32_w]; rfl)
  refine pure_ (i := 11) (N := some 31) (v := ?_) (a' := ?_) #[T, O, O, T, O, T, O, O, T, O, O, T, O, O, O, O, O, O, O, O, O, O, O, O] rfl rfl (any_of HT_.out (by kernel_rfl)) (fun _ _ _ h => h) (Or.inl ⟨by rfl, ?_⟩) ?_ ?_; rotate_left; focus (intro w'; go_simp; with_reducible rfl)
  rotate_left; focus (simp only [Act.put, s1, s2, s3, i64_w, i32_w]; rfl)
  refine pure_ (i := 14) (N := some 34) (v := ?_) (a' := ?_) #[T, O, O, T, O, T, O, O, T, O, O, T, O, O, T, O, O, O, O, O, O, O, O, O] rfl rfl (any_of HT_.out (by kernel_rfl)) (fun _ _ _ h => h) (Or.inl ⟨by rfl, ?_⟩) ?_ ?_; rotate_left; focus (intro w'; go_simp; with_reducible rfl)
  rotate_left; focus (simp only [Act.put, s1, s2, s3, i64_w, i32_w]; rfl)
  refine pure_ (i := 16) (N := some 36) (v := ?_) (a' := ?_) #[T, O, O, T, O, T, O, O, T, O, O, T, O, O, T, O, T, O, O, O, O, O, O, O] rfl rfl (any_of HT_.out (by kernel_rfl)) (fun _ _ _ h => h) (Or.inl ⟨by rfl, ?_⟩) ?_ ?_; rotate_left; focus (intro w'; go_simp; with_reducible rfl)
  rotate_left; focus (simp only [Act.put, s1, s2, s3, i64_w, i32_w]; rfl)
  refine pure_ (i := 19) (N := some 39) (v := ?_) (a' := ?_) #[T, O, O, T, O, T, O, O, T, O, O, T, O, O, T, O, T, O, O, T, O, O, O, O] rfl rfl (any_of HT_.out (by kernel_rfl)) (fun _ _ _ h => h) (Or.inl ⟨by rfl, ?_⟩) ?_ ?_; rotate_left; focus (intro w'; go_simp; with_reducible rfl)
  rotate_left; focus (simp only [Act.put, s1, s2, s3, i64_w, i32_w]; rfl)
  refine take_ (i := 1) (N := some 21) (v := ?_) (a' := ?_) #[T, T, O, T, O, T, O, O, T, O, O, T, O, O, T, O, T, O, O, T, O, O, O, O] rfl rfl (take_ofW HT_.out HW_.out (by kernel_rfl)) (fun _ _ _ h => h) (Or.inl ⟨by rfl, ?_⟩) hHeld ?_ ?_; rotate_left; focus (rintro w' ⟨s0, s1⟩; go_simp; with_reducible rfl)
  rotate_left; focus (simp only [Act.put, s1, s2, s3, i64_w, i32_w]; rfl)
  refine pure_ (i := 2) (N := some 22) (v := ?_) (a' := ?_) #[T, T, T, T, O, T, O, O, T, O, O, T, O, O, T, O, T, O, O, T, O, O, O, O] rfl rfl (any_of HT_.out (by kernel_rfl)) (fun _ _ _ h => h) (Or.inl ⟨by rfl, ?_⟩) ?_ ?_; rotate_left; focus (intro w'; go_simp; with_reducible rfl)
  rotate_left; focus (simp only [Act.put, s1, s2, s3, i64_w, i32_w]; rfl)
  refine pure_ (i := 4) (N := some 24) (v := ?_) (a' := ?_) #[T, T, T, T, T, T, O, O, T, O, O, T, O, O, T, O, T, O, O, T, O, O, O, O] rfl rfl (any_of HT_.out (by kernel_rfl)) (fun _ _ _ h => h) (Or.inl ⟨by rfl, ?_⟩) ?_ ?_; rotate_left; focus (intro w'; go_simp; with_reducible rfl)
  rotate_left; focus (simp only [Act.put, s1, s2, s3, i64_w, i32_w]; rfl)
  refine take_ (i := 6) (N := some 26) (v := ?_) (a' := ?_) #[T, T, T, T, T, T, T, O, T, O, O, T, O, O, T, O, T, O, O, T, O, O, O, O] rfl rfl (take_ofW HT_.out HW_.out (by kernel_rfl)) (fun _ _ _ h => h) (Or.inl ⟨by rfl, ?_⟩) hHeld ?_ ?_; rotate_left; focus (rintro w' ⟨s0, s1⟩; go_simp; with_reducible rfl)
  rotate_left; focus (simp only [Act.put, s1, s2, s3, i64_w, i32_w]; rfl)
  refine pure_ (i := 7) (N := some 27) (v := ?_) (a' := ?_) #[T, T, T, T, T, T, T, T, T, O, O, T, O, O, T, O, T, O, O, T, O, O, O, O] rfl rfl (any_of HT_.out (by kernel_rfl)) (fun _ _ _ h => h) (Or.inl ⟨by rfl, ?_⟩) ?_ ?_; rotate_left; focus (intro w'; go_simp; with_reducible rfl)
  rotate_left; focus (simp only [Act.put, s1, s2, s3, i64_w, i32_w]; rfl)
  refine pure_ (i := 9) (N := some 29) (v := ?_) (a' := ?_) #[T, T, T, T, T, T, T, T, T, T, O, T, O, O, T, O, T, O, O, T, O, O, O, O] rfl rfl (any_of HT_.out (by kernel_rfl)) (fun _ _ _ h => h) (Or.inl ⟨by rfl, ?_⟩) ?_ ?_; rotate_left; focus (intro w'; go_simp; with_reducible rfl)
  rotate_left; focus (simp only [Act.put, s1, s2, s3, i64_w, i32_w]; rfl)
  refine pure_ (i := 10) (N := some 30) (v := ?_) (a' := ?_) #[T, T, T, T, T, T, T, T, T, T, T, T, O, O, T, O, T, O, O, T, O, O, O, O] rfl rfl (any_of HT_.out (by kernel_rfl)) (fun _ _ _ h => h) (Or.inl ⟨by rfl, ?_⟩) ?_ ?_; rotate_left; focus (intro w'; go_simp; with_reducible rfl)
  rotate_left; focus (simp only [Act.put, s1, s2, s3, i64_w, i32_w]; rfl)
  refine take_ (i := 12) (N := some 32) (v := ?_) (a' := ?_) #[T, T, T, T, T, T, T, T, T, T, T, T, T, O, T, O, T, O, O, T, O, O, O, O] rfl rfl (take_ofW HT_.out HW_.out (by kernel_rfl)) (fun _ _ _ h => h) (Or.inl ⟨by rfl, ?_⟩) hHeld ?_ ?_; rotate_left; focus (rintro w' ⟨s0, s1⟩; go_simp; with_reducible rfl)
  rotate_left; focus (simp only [Act.put, s1, s2, s3, i64_w, i32_w]; rfl)
  refine pure_ (i := 13) (N := some 33) (v := ?_) (a' := ?_) #[T, T, T, T, T, T, T, T, T, T, T, T, T, T, T, O, T, O, O, T, O, O, O, O] rfl rfl (any_of HT_.out (by kernel_rfl)) (fun _ _ _ h => h) (Or.inl ⟨by rfl, ?_⟩) ?_ ?_; rotate_left; focus (intro w'; go_simp; with_reducible rfl)
  rotate_left; focus (simp only [Act.put, s1, s2, s3, i64_w, i32_w]; rfl)
  refine pure_ (i := 15) (N := some 35) (v := ?_) (a' := ?_) #[T, T, T, T, T, T, T, T, T, T, T, T, T, T, T, T, T, O, O, T, O, O, O, O] rfl rfl (any_of HT_.out (by kernel_rfl)) (fun _ _ _ h => h) (Or.inl ⟨by rfl, ?_⟩) ?_ ?_; rotate_left; focus (intro w'; go_simp; with_reducible rfl)
  rotate_left; focus (simp only [Act.put, s1, s2, s3, i64_w, i32_w]; rfl)
  refine take_ (i := 17) (N := some 37) (v := ?_) (a' := ?_) #[T, T, T, T, T, T, T, T, T, T, T, T, T, T, T, T, T, T, O, T, O, O, O, O] rfl rfl (take_ofW HT_.out HW_.out (by kernel_rfl)) (fun _ _ _ h => h) (Or.inl ⟨by rfl, ?_⟩) hHeld ?_ ?_; rotate_left; focus (rintro w' ⟨s0, s1⟩; go_simp; with_reducible rfl)
  rotate_left; focus (simp only [Act.put, s1, s2, s3, i64_w, i32_w]; rfl)
  refine pure_ (i := 18) (N := some 38) (v := ?_) (a' := ?_) #[T, T, T, T, T, T, T, T, T, T, T, T, T, T, T, T, T, T, T, T, O, O, O, O] rfl rfl (any_of HT_.out (by kernel_rfl)) (fun _ _ _ h => h) (Or.inl ⟨by rfl, ?_⟩) ?_ ?_; rotate_left; focus (intro w'; go_simp; with_reducible rfl)
  rotate_left; focus (simp only [Act.put, s1, s2, s3, i64_w, i32_w]; rfl)
  refine pure_ (i := 20) (N := some 40) (v := ?_) (a' := ?_) #[T, T, T, T, T, T, T, T, T, T, T, T, T, T, T, T, T, T, T, T, T, O, O, O] rfl rfl (any_of HT_.out (by kernel_rfl)) (fun _ _ _ h => h) (Or.inl ⟨by rfl, ?_⟩) ?_ ?_; rotate_left; focus (intro w'; go_simp; with_reducible rfl)
  rotate_left; focus (simp only [Act.put, s1, s2, s3, i64_w, i32_w]; rfl)
  refine pure_ (i := 21) (N := some 41) (v := ?_) (a' := ?_) #[T, T, T, T, T, T, T, T, T, T, T, T, T, T, T, T, T, T, T, T, T, T, O, O] rfl rfl (any_of HT_.out (by kernel_rfl)) (fun _ _ _ h => h) (Or.inl ⟨by rfl, ?_⟩) ?_ ?_; rotate_left; focus (intro w'; go_simp; with_reducible rfl)
  rotate_left; focus (simp only [Act.put, s1, s2, s3, i64_w, i32_w]; rfl)
  refine one_ (i := 22) (N := none) #[T, T, T, T, T, T, T, T, T, T, T, T, T, T, T, T, T, T, T, T, T, T, T, O] rfl rfl (one_of HT_.out (by kernel_rfl)) (by decide) (fun K hK => ?_)
  have hs25 : w24.cell? ⟨gb797, 0, none⟩ = some (.int .i64 0) := kc BK797 0
  have hfs25 := blk_frozen BK797.out 0
  have hns25_0 := NB796_797.out; have hns25_2 := NB798_797.out; have hns25_3 := NB803_797.out; have hms25_0 := NB797_796.out; have hms25_2 := NB797_798.out; have hms25_3 := NB797_803.out
  have hs26 : w24.cell? ⟨gb797, 1, none⟩ = some (.int .i64 0) := kc BK797 1
  have hfs26 := blk_frozen BK797.out 1
  have hns26_0 := NB796_797.out; have hns26_2 := NB798_797.out; have hns26_3 := NB803_797.out; have hms26_0 := NB797_796.out; have hms26_2 := NB797_798.out; have hms26_3 := NB797_803.out
  refine skip_ (w1 := ?_) (by rfl) rfl ?_ ?_
  rotate_left
  · go_simp
    rfl
  refine hK.out _ _ ⟨((cell_far (p := ⟨gb797, _, none⟩) NB803_797.out _).trans (((cell_far (p := ⟨gb797, _, none⟩) NB803_797.out _).trans (hHeld.1)))), ((cell_far (p := ⟨gb797, _, none⟩) NB803_797.out _).trans (((cell_far (p := ⟨gb797, _, none⟩) NB803_797.out _).trans (hHeld.2))))⟩ (fun hHeld => ?_)
  clear hK K
  refine one_ (i := 23) (N := none) #[T, T, T, T, T, T, T, T, T, T, T, T, T, T, T, T, T, T, T, T, T, T, T, T] rfl rfl (one_of HT_.out (by kernel_rfl)) (by decide) (fun K hK => ?_)
  have hs27 : w24.cell? ⟨gb798, 0, none⟩ = some (.int .i64 0) := kc BK798 0
  have hfs27 := blk_frozen BK798.out 0
  have hns27_0 := NB796_798.out; have hns27_1 := NB797_798.out; have hns27_3 := NB803_798.out; have hms27_0 := NB798_796.out; have hms27_1 := NB798_797.out; have hms27_3 := NB798_803.out
  have hs28 : w24.cell? ⟨gb798, 1, none⟩ = some (.int .i64 0) := kc BK798 1
  have hfs28 := blk_frozen BK798.out 1
  have hns28_0 := NB796_798.out; have hns28_1 := NB797_798.out; have hns28_3 := NB803_798.out; have hms28_0 := NB798_796.out; have hms28_1 := NB798_797.out; have hms28_3 := NB798_803.out
  refine skip_ (w1 := ?_) (by rfl) rfl ?_ ?_
  rotate_left
  · go_simp
    rfl
  refine hK.out _ _ ⟨((cell_far (p := ⟨gb798, _, none⟩) NB803_798.out _).trans (((cell_far (p := ⟨gb798, _, none⟩) NB803_798.out _).trans (hHeld.1)))), ((cell_far (p := ⟨gb798, _, none⟩) NB803_798.out _).trans (((cell_far (p := ⟨gb798, _, none⟩) NB803_798.out _).trans (hHeld.2))))⟩ (fun hHeld => ?_)
  clear hK K
  refine done_ (done_of HT_.out (by kernel_rfl)) ?_
  try go_wp2
  refine bodyPost_ret (results_cc rfl _ _ gb797 gb798 96 96 #[.int .i64 (wrap64 ((wrap64 (2 * t800)) - (ji8))), .int .i64 (wrap64 ((wrap64 (2 * t801)) - (ji8)))] #[.int .i64 (wrap64 ((wrap64 (2 * t800)) + (ji8))), .int .i64 (wrap64 ((wrap64 (2 * t801)) + (ji8)))] (0, 0) (0, 0) _ _ rfl (by (with_reducible repeat (first | refine blk_drewN ?_ _ | refine blk_drew ?_ | refine blk_alloc ?_ _)); refine blk_far ?_ NB797_798.out _; (with_reducible repeat (first | refine blk_drewN ?_ _ | refine blk_drew ?_ | refine blk_alloc ?_ _)); refine blk_far ?_ NB797_798.out _; (with_reducible repeat (first | refine blk_drewN ?_ _ | refine blk_drew ?_ | refine blk_alloc ?_ _)); refine blk_put (cs := #[.int .i64 (wrap64 ((wrap64 (2 * t800)) - (ji8))), .int .i64 0]) ?_ 1 _ rfl; (with_reducible repeat (first | refine blk_drewN ?_ _ | refine blk_drew ?_ | refine blk_alloc ?_ _)); refine blk_put (cs := #[.int .i64 0, .int .i64 0]) ?_ 0 _ rfl; (with_reducible repeat (first | refine blk_drewN ?_ _ | refine blk_drew ?_ | refine blk_alloc ?_ _)); exact BK797.out) Try.underlying96 rfl (by kernel_rfl) rfl (by (with_reducible repeat (first | refine blk_drewN ?_ _ | refine blk_drew ?_ | refine blk_alloc ?_ _)); refine blk_put (cs := #[.int .i64 (wrap64 ((wrap64 (2 * t800)) + (ji8))), .int .i64 0]) ?_ 1 _ rfl; (with_reducible repeat (first | refine blk_drewN ?_ _ | refine blk_drew ?_ | refine blk_alloc ?_ _)); refine blk_put (cs := #[.int .i64 0, .int .i64 0]) ?_ 0 _ rfl; (with_reducible repeat (first | refine blk_drewN ?_ _ | refine blk_drew ?_ | refine blk_alloc ?_ _)); refine blk_far ?_ NB798_797.out _; (with_reducible repeat (first | refine blk_drewN ?_ _ | refine blk_drew ?_ | refine blk_alloc ?_ _)); refine blk_far ?_ NB798_797.out _; (with_reducible repeat (first | refine blk_drewN ?_ _ | refine blk_drew ?_ | refine blk_alloc ?_ _)); exact BK798.out) Try.underlying96 rfl (by kernel_rfl)) rfl ?_
  exact ⟨by first | rfl | (simp [errW_none, errW_some] <;> rfl) | (simp only [← hji8]; first | rfl | (simp [errW_none, errW_some] <;> rfl)) | (simp [*, errW_none, errW_some] <;> rfl), ky HB⟩
/-! ### cmp_isNaN_int: function 86 -/
def cmp_isNaN_int.f (a0 : Int) : Option (Bool) := some (a0 != a0)
set_option maxHeartbeats 8000000 in
set_option maxRecDepth 100000 in
theorem cmp_isNaN_int.calls (a0 : Int) (r : Bool) (w : World) (h : cmp_isNaN_int.f a0 = some r) :
    Calls Try.prog 86 #[.int .i64 a0] w fun e w' => e = .returned (.bool r) ∧ Drawn0 w w' := by
  have H : (some (a0 != a0)) = some r := h
  clear h
  obtain rfl := Option.some.inj H
  go_enter Try.func86, Try.ntmps86
  go_wp2
  go_ret
  exact ⟨by first | rfl | (simp; done) | (simp [*]; done), by repeat (first | exact Drawn0.refl _ | apply Drawn0.step)⟩

/-! ### cmp_Compare_int: function 84 -/
def cmp_Compare_int.f (a0 : Int) (a1 : Int) : Option (Int) := (cmp_isNaN_int.f a0).bind fun t804 => ((cmp_isNaN_int.f a1).bind fun t805 => (if t804 = true then (if t805 = true then (some 0) else (some (-1))) else (if t805 = true then (some 1) else (if a0 < a1 then (some (-1)) else (if a0 > a1 then (some 1) else (some 0))))))
set_option maxHeartbeats 8000000 in
set_option maxRecDepth 100000 in
theorem cmp_Compare_int.calls (a0 : Int) (a1 : Int) (r : Int) (w : World) (h : cmp_Compare_int.f a0 a1 = some r) :
    Calls Try.prog 84 #[.int .i64 a0, .int .i64 a1] w fun e w' => e = .returned (.int .i64 r) ∧ Drawn0 w w' := by
  have H : ((cmp_isNaN_int.f a0).bind fun t804 => ((cmp_isNaN_int.f a1).bind fun t805 => (if t804 = true then (if t805 = true then (some 0) else (some (-1))) else (if t805 = true then (some 1) else (if a0 < a1 then (some (-1)) else (if a0 > a1 then (some 1) else (some 0))))))) = some r := h
  clear h
  replace H := Option.bind_eq_some_iff.mp H
  obtain ⟨t804, A30, H⟩ := H
  replace H : ((cmp_isNaN_int.f a1).bind fun t805 => (if t804 = true then (if t805 = true then (some 0) else (some (-1))) else (if t805 = true then (some 1) else (if a0 < a1 then (some (-1)) else (if a0 > a1 then (some 1) else (some 0)))))) = some r := H
  have A3 := Aside0.mk A30
  clear A30
  replace H := Option.bind_eq_some_iff.mp H
  obtain ⟨t805, A40, H⟩ := H
  replace H : (if t804 = true then (if t805 = true then (some 0) else (some (-1))) else (if t805 = true then (some 1) else (if a0 < a1 then (some (-1)) else (if a0 > a1 then (some 1) else (some 0))))) = some r := H
  have A4 := Aside0.mk A40
  clear A40
  by_cases c5 : t804 = true
  · subst c5
    have H1 : (if t805 = true then (some 0) else (some (-1))) = some r := by rw [if_pos rfl] at H; exact H
    clear H; have H := H1; clear H1
    by_cases c6 : t805 = true
    · subst c6
      have H1 : (some 0) = some r := by rw [if_pos rfl] at H; exact H
      clear H; have H := H1; clear H1
      obtain rfl := Option.some.inj H
      go_enter Try.func84, Try.ntmps84
      go_wp2_with (first | ((with_reducible refine gate_callee (f := 86) rfl ?_); refine goesL_ (some 8) rfl rfl Try.func86 (by kernel_rfl) rfl #[.int .i64 a0] rfl (by (try simp only [List.map_toArray, List.map_cons, List.map_nil]); first | done | rfl | (simp only [List.length_drop, List.length_take]; rfl)) ?_; (with_reducible refine (cmp_isNaN_int.calls a0 true _ A3.out).mono ?_); rintro e w' ⟨rfl, ⟨nd, rfl⟩⟩; refine ⟨_, rfl, ?_⟩) | ((with_reducible refine gate_callee (f := 86) rfl ?_); refine goesL_ (some 10) rfl rfl Try.func86 (by kernel_rfl) rfl #[.int .i64 a1] rfl (by (try simp only [List.map_toArray, List.map_cons, List.map_nil]); first | done | rfl | (simp only [List.length_drop, List.length_take]; rfl)) ?_; (with_reducible refine (cmp_isNaN_int.calls a1 true _ A4.out).mono ?_); rintro e w' ⟨rfl, ⟨nd, rfl⟩⟩; refine ⟨_, rfl, ?_⟩))
      go_ret
      exact ⟨by first | rfl | (simp; done) | (simp [*]; done), by repeat (first | exact Drawn0.refl _ | apply Drawn0.step)⟩
    replace c6 := Bool.eq_false_iff.mpr c6
    subst c6
    have H1 : (some (-1)) = some r := by rw [if_neg (show ¬ (false = true) by decide)] at H; exact H
    clear H; have H := H1; clear H1
    obtain rfl := Option.some.inj H
    go_enter Try.func84, Try.ntmps84
    go_wp2_with (first | ((with_reducible refine gate_callee (f := 86) rfl ?_); refine goesL_ (some 8) rfl rfl Try.func86 (by kernel_rfl) rfl #[.int .i64 a0] rfl (by (try simp only [List.map_toArray, List.map_cons, List.map_nil]); first | done | rfl | (simp only [List.length_drop, List.length_take]; rfl)) ?_; (with_reducible refine (cmp_isNaN_int.calls a0 true _ A3.out).mono ?_); rintro e w' ⟨rfl, ⟨nd, rfl⟩⟩; refine ⟨_, rfl, ?_⟩) | ((with_reducible refine gate_callee (f := 86) rfl ?_); refine goesL_ (some 10) rfl rfl Try.func86 (by kernel_rfl) rfl #[.int .i64 a1] rfl (by (try simp only [List.map_toArray, List.map_cons, List.map_nil]); first | done | rfl | (simp only [List.length_drop, List.length_take]; rfl)) ?_; (with_reducible refine (cmp_isNaN_int.calls a1 false _ A4.out).mono ?_); rintro e w' ⟨rfl, ⟨nd, rfl⟩⟩; refine ⟨_, rfl, ?_⟩))
    go_ret
    exact ⟨by first | rfl | (simp; done) | (simp [*]; done), by repeat (first | exact Drawn0.refl _ | apply Drawn0.step)⟩
  replace c5 := Bool.eq_false_iff.mpr c5
  subst c5
  have H1 : (if t805 = true then (some 1) else (if a0 < a1 then (some (-1)) else (if a0 > a1 then (some 1) else (some 0)))) = some r := by rw [if_neg (show ¬ (false = true) by decide)] at H; exact H
  clear H; have H := H1; clear H1
  by_cases c7 : t805 = true
  · subst c7
    have H1 : (some 1) = some r := by rw [if_pos rfl] at H; exact H
    clear H; have H := H1; clear H1
    obtain rfl := Option.some.inj H
    go_enter Try.func84, Try.ntmps84
    go_wp2_with (first | ((with_reducible refine gate_callee (f := 86) rfl ?_); refine goesL_ (some 8) rfl rfl Try.func86 (by kernel_rfl) rfl #[.int .i64 a0] rfl (by (try simp only [List.map_toArray, List.map_cons, List.map_nil]); first | done | rfl | (simp only [List.length_drop, List.length_take]; rfl)) ?_; (with_reducible refine (cmp_isNaN_int.calls a0 false _ A3.out).mono ?_); rintro e w' ⟨rfl, ⟨nd, rfl⟩⟩; refine ⟨_, rfl, ?_⟩) | ((with_reducible refine gate_callee (f := 86) rfl ?_); refine goesL_ (some 10) rfl rfl Try.func86 (by kernel_rfl) rfl #[.int .i64 a1] rfl (by (try simp only [List.map_toArray, List.map_cons, List.map_nil]); first | done | rfl | (simp only [List.length_drop, List.length_take]; rfl)) ?_; (with_reducible refine (cmp_isNaN_int.calls a1 true _ A4.out).mono ?_); rintro e w' ⟨rfl, ⟨nd, rfl⟩⟩; refine ⟨_, rfl, ?_⟩))
    go_ret
    exact ⟨by first | rfl | (simp; done) | (simp [*]; done), by repeat (first | exact Drawn0.refl _ | apply Drawn0.step)⟩
  replace c7 := Bool.eq_false_iff.mpr c7
  subst c7
  have H1 : (if a0 < a1 then (some (-1)) else (if a0 > a1 then (some 1) else (some 0))) = some r := by rw [if_neg (show ¬ (false = true) by decide)] at H; exact H
  clear H; have H := H1; clear H1
  by_cases c8 : a0 < a1
  · rw [if_pos c8] at H
    have c8b0 : decide (a0 < a1) = true := decide_eq_true c8
    clear c8
    obtain rfl := Option.some.inj H
    go_enter Try.func84, Try.ntmps84
    go_wp2_with (first | ((with_reducible refine gate_callee (f := 86) rfl ?_); refine goesL_ (some 8) rfl rfl Try.func86 (by kernel_rfl) rfl #[.int .i64 a0] rfl (by (try simp only [List.map_toArray, List.map_cons, List.map_nil]); first | done | rfl | (simp only [List.length_drop, List.length_take]; rfl)) ?_; (with_reducible refine (cmp_isNaN_int.calls a0 false _ A3.out).mono ?_); rintro e w' ⟨rfl, ⟨nd, rfl⟩⟩; refine ⟨_, rfl, ?_⟩) | ((with_reducible refine gate_callee (f := 86) rfl ?_); refine goesL_ (some 10) rfl rfl Try.func86 (by kernel_rfl) rfl #[.int .i64 a1] rfl (by (try simp only [List.map_toArray, List.map_cons, List.map_nil]); first | done | rfl | (simp only [List.length_drop, List.length_take]; rfl)) ?_; (with_reducible refine (cmp_isNaN_int.calls a1 false _ A4.out).mono ?_); rintro e w' ⟨rfl, ⟨nd, rfl⟩⟩; refine ⟨_, rfl, ?_⟩))
    go_ret
    exact ⟨by first | rfl | (simp; done) | (simp [*]; done), by repeat (first | exact Drawn0.refl _ | apply Drawn0.step)⟩
  rw [if_neg c8] at H
  have c8b0 : decide (a0 < a1) = false := decide_eq_false c8
  clear c8
  by_cases c9 : a0 > a1
  · rw [if_pos c9] at H
    have c9b0 : decide (a1 < a0) = true := decide_eq_true c9
    clear c9
    obtain rfl := Option.some.inj H
    go_enter Try.func84, Try.ntmps84
    go_wp2_with (first | ((with_reducible refine gate_callee (f := 86) rfl ?_); refine goesL_ (some 8) rfl rfl Try.func86 (by kernel_rfl) rfl #[.int .i64 a0] rfl (by (try simp only [List.map_toArray, List.map_cons, List.map_nil]); first | done | rfl | (simp only [List.length_drop, List.length_take]; rfl)) ?_; (with_reducible refine (cmp_isNaN_int.calls a0 false _ A3.out).mono ?_); rintro e w' ⟨rfl, ⟨nd, rfl⟩⟩; refine ⟨_, rfl, ?_⟩) | ((with_reducible refine gate_callee (f := 86) rfl ?_); refine goesL_ (some 10) rfl rfl Try.func86 (by kernel_rfl) rfl #[.int .i64 a1] rfl (by (try simp only [List.map_toArray, List.map_cons, List.map_nil]); first | done | rfl | (simp only [List.length_drop, List.length_take]; rfl)) ?_; (with_reducible refine (cmp_isNaN_int.calls a1 false _ A4.out).mono ?_); rintro e w' ⟨rfl, ⟨nd, rfl⟩⟩; refine ⟨_, rfl, ?_⟩))
    go_ret
    exact ⟨by first | rfl | (simp; done) | (simp [*]; done), by repeat (first | exact Drawn0.refl _ | apply Drawn0.step)⟩
  rw [if_neg c9] at H
  have c9b0 : decide (a1 < a0) = false := decide_eq_false c9
  clear c9
  obtain rfl := Option.some.inj H
  go_enter Try.func84, Try.ntmps84
  go_wp2_with (first | ((with_reducible refine gate_callee (f := 86) rfl ?_); refine goesL_ (some 8) rfl rfl Try.func86 (by kernel_rfl) rfl #[.int .i64 a0] rfl (by (try simp only [List.map_toArray, List.map_cons, List.map_nil]); first | done | rfl | (simp only [List.length_drop, List.length_take]; rfl)) ?_; (with_reducible refine (cmp_isNaN_int.calls a0 false _ A3.out).mono ?_); rintro e w' ⟨rfl, ⟨nd, rfl⟩⟩; refine ⟨_, rfl, ?_⟩) | ((with_reducible refine gate_callee (f := 86) rfl ?_); refine goesL_ (some 10) rfl rfl Try.func86 (by kernel_rfl) rfl #[.int .i64 a1] rfl (by (try simp only [List.map_toArray, List.map_cons, List.map_nil]); first | done | rfl | (simp only [List.length_drop, List.length_take]; rfl)) ?_; (with_reducible refine (cmp_isNaN_int.calls a1 false _ A4.out).mono ?_); rintro e w' ⟨rfl, ⟨nd, rfl⟩⟩; refine ⟨_, rfl, ?_⟩))
  go_ret
  exact ⟨by first | rfl | (simp; done) | (simp [*]; done), by repeat (first | exact Drawn0.refl _ | apply Drawn0.step)⟩

/-! ### grid_Cmp: function 71 -/
def grid_Cmp.f (k : Nat) (a0_0 : Int) (a0_1 : Int) (a1_0 : Int) (a1_1 : Int) : Option (Int) := (cmp_Compare_int.f a0_0 a1_0).bind fun t808 => ((cmp_Compare_int.f a0_1 a1_1).bind fun t809 => ((cmp_Or_int.f k (([t808, t809] : List Int))).bind fun t813 => (some t813)))
theorem grid_Cmp.mono : ∀ a0 a1 a2 a3 k, LeO (grid_Cmp.f k a0 a1 a2 a3) (grid_Cmp.f (k + 1) a0 a1 a2 a3) := by
  intro a0 a1 a2 a3 k
  unfold grid_Cmp.f
  repeat' first
      | (with_reducible exact cmp_Or_int.mono _ _)
      | (with_reducible exact LeO.refl _)
      | (with_reducible exact LeO.none _)
      | (with_reducible refine LeO.ite ?_ ?_)
      | (with_reducible refine LeO.bind ?_ (fun _ => ?_))
      | exact cmp_Or_int.mono _ _
      | exact LeO.none _
      | refine LeO.ite ?_ ?_
      | refine LeO.bind ?_ (fun _ => ?_)
def grid_Cmp.T1 : Bool × List (List Nat × List Nat) := (true, [([], []), ([0], [0]), ([], []), ([2], [2]), ([1, 3], [1, 3]), ([], []), ([5], [5]), ([], []), ([7], [7]), ([6, 8, 4], [6, 8]), ([4, 9], [4, 9]), ([10, 9], [10]), ([11, 11, 0, 1, 2, 3, 4, 5, 6, 7, 8, 9, 10, 11], [11])])
def grid_Cmp.B1 : List Nat := [0, 1, 0, 4, 15, 0, 32, 0, 128, 511, 1023, 2047, 4095]
theorem grid_Cmp.tab1 : rtab .any (opsOf Try.f71 1) = grid_Cmp.T1 := by kernel_rfl
theorem grid_Cmp.bits1 : waitsOk grid_Cmp.T1.2 grid_Cmp.B1 = true := by kernel_rfl
set_option maxHeartbeats 8000000 in
set_option maxRecDepth 100000 in
theorem grid_Cmp.calls (k : Nat) (a0_0 : Int) (a0_1 : Int) (a1_0 : Int) (a1_1 : Int) (r : Int) (w : World) (h : grid_Cmp.f k a0_0 a0_1 a1_0 a1_1 = some r) :
    Calls Try.prog 71 #[.agg #[.int .i64 a0_0, .int .i64 a0_1], .agg #[.int .i64 a1_0, .int .i64 a1_1]] w fun e w' => e = .returned (.int .i64 r) ∧ Below w.heap.size w w' := by
  have hu94 := Try.underlying94
  have HB := Aside0.mk (Below.refl w.heap.size w)
  have H : ((cmp_Compare_int.f a0_0 a1_0).bind fun t808 => ((cmp_Compare_int.f a0_1 a1_1).bind fun t809 => ((cmp_Or_int.f k (([t808, t809] : List Int))).bind fun t813 => (some t813)))) = some r := h
  clear h
  replace H := Option.bind_eq_some_iff.mp H
  obtain ⟨t808, A30, H⟩ := H
  replace H : ((cmp_Compare_int.f a0_1 a1_1).bind fun t809 => ((cmp_Or_int.f k (([t808, t809] : List Int))).bind fun t813 => (some t813))) = some r := H
  have A3 := Aside0.mk A30
  clear A30
  replace H := Option.bind_eq_some_iff.mp H
  obtain ⟨t809, A40, H⟩ := H
  replace H : ((cmp_Or_int.f k (([t808, t809] : List Int))).bind fun t813 => (some t813)) = some r := H
  have A4 := Aside0.mk A40
  clear A40
  obtain ⟨y810, hy810⟩ : ∃ y_ : List Int, y_ = (([t808, t809] : List Int)) := ⟨_, rfl⟩
  replace H : ((cmp_Or_int.f k y810).bind fun t813 => (some t813)) = some r := by first | (rw [hy810]; with_reducible exact H) | (have H2_ := (Option.bind_some _ _).symm.trans H; rw [hy810]; with_reducible exact H2_) | (have H2_ := (Option.bind_some _ _).symm.trans H; with_reducible exact H2_) | with_reducible exact H | (rw [hy810]; exact H) | exact H
  have Ny810 := Aside0.mk hy810
  clear hy810
  replace H := Option.bind_eq_some_iff.mp H
  obtain ⟨t813, A50, H⟩ := H
  replace H : (some t813) = some r := H
  have A5 := Aside0.mk A50
  clear A50
  obtain rfl := Option.some.inj H
  go_enter Try.func71, Try.ntmps71
  try go_wp2_with (first | ((with_reducible refine gate_dst (N := 2) rfl ?_); refine box_event ?hg (N := 2) ?hd (cs := #[.int .i64 a0_0, .int .i64 a0_1]) (t := 94) ?hr ?_; (case hd => rfl); (case hg => rfl); (case hr => first | (go_simp; done) | (go_simp; rfl)); intro gb806 hg w6 hbox hb; have BK806 := Aside0.mk (hbox); have GW806 := kS HB hg; have GE806 := kS HB hg; replace HB := kB HB hb; clear hb hbox hg) | ((with_reducible refine gate_dst (N := 3) rfl ?_); refine box_event ?hg (N := 3) ?hd (cs := #[.int .i64 a1_0, .int .i64 a1_1]) (t := 94) ?hr ?_; (case hd => rfl); (case hg => rfl); (case hr => first | (go_simp; done) | (go_simp; rfl)); intro gb807 hg w7 hbox hb; have BK807 := Aside0.mk (hbox); have GW807 := kS HB hg; have GE807 := kS HB hg; have NB806_807 := kN BK806 hg; have NB807_806 := kM BK806 hg; replace BK806 := kb BK806 hb; replace HB := kB HB hb; clear hb hbox hg))
  replace BK806 := Aside0.mk (blk_drew BK806.out)
  replace BK807 := Aside0.mk (blk_drew BK807.out)
  replace HB := Aside0.mk (below_drew1 HB.out)
  refine start_ (n := 13) (S := fun w' => w'.cell? ⟨gb806, 0, none⟩ = some (.int .i64 a0_0) ∧ w'.cell? ⟨gb806, 1, none⟩ = some (.int .i64 a0_1) ∧ w'.cell? ⟨gb807, 0, none⟩ = some (.int .i64 a1_0) ∧ w'.cell? ⟨gb807, 1, none⟩ = some (.int .i64 a1_1)) (ds := []) #[O, O, O, O, O, O, O, O, O, O, O, O, O] (by kernel_rfl) rfl rfl ⟨kc BK806 0, kc BK806 1, kc BK807 0, kc BK807 1⟩ (fun hHeld => ?_); refine with_tabW grid_Cmp.tab1 grid_Cmp.bits1 (fun HT_ HW_ => ?_)
  generalize w7.drew = w8 at BK806 BK807 HB hHeld ⊢
  refine pure_ (i := 0) (N := some 5) (v := ?_) (a' := ?_) #[T, O, O, O, O, O, O, O, O, O, O, O, O] rfl rfl (any_of HT_.out (by kernel_rfl)) (fun _ _ _ h => h) (Or.inl ⟨by rfl, ?_⟩) ?_ ?_; rotate_left; focus (intro w'; go_simp; with_reducible rfl)
  rotate_left; focus (simp only [Act.put, s1, s2, s3, i64_w, i32_w]; rfl)
  refine pure_ (i := 2) (N := some 7) (v := ?_) (a' := ?_) #[T, O, T, O, O, O, O, O, O, O, O, O, O] rfl rfl (any_of HT_.out (by kernel_rfl)) (fun _ _ _ h => h) (Or.inl ⟨by rfl, ?_⟩) ?_ ?_; rotate_left; focus (intro w'; go_simp; with_reducible rfl)
  rotate_left; focus (simp only [Act.put, s1, s2, s3, i64_w, i32_w]; rfl)
  refine pure_ (i := 5) (N := some 10) (v := ?_) (a' := ?_) #[T, O, T, O, O, T, O, O, O, O, O, O, O] rfl rfl (any_of HT_.out (by kernel_rfl)) (fun _ _ _ h => h) (Or.inl ⟨by rfl, ?_⟩) ?_ ?_; rotate_left; focus (intro w'; go_simp; with_reducible rfl)
  rotate_left; focus (simp only [Act.put, s1, s2, s3, i64_w, i32_w]; rfl)
  refine pure_ (i := 7) (N := some 12) (v := ?_) (a' := ?_) #[T, O, T, O, O, T, O, T, O, O, O, O, O] rfl rfl (any_of HT_.out (by kernel_rfl)) (fun _ _ _ h => h) (Or.inl ⟨by rfl, ?_⟩) ?_ ?_; rotate_left; focus (intro w'; go_simp; with_reducible rfl)
  rotate_left; focus (simp only [Act.put, s1, s2, s3, i64_w, i32_w]; rfl)
  refine take_ (i := 1) (N := some 6) (v := ?_) (a' := ?_) #[T, T, T, O, O, T, O, T, O, O, O, O, O] rfl rfl (take_ofW HT_.out HW_.out (by kernel_rfl)) (fun _ _ _ h => h) (Or.inl ⟨by rfl, ?_⟩) hHeld ?_ ?_; rotate_left; focus (rintro w' ⟨s0, s1, s2, s3⟩; go_simp; with_reducible rfl)
  rotate_left; focus (simp only [Act.put, s1, s2, s3, i64_w, i32_w]; rfl)
  refine take_ (i := 3) (N := some 8) (v := ?_) (a' := ?_) #[T, T, T, T, O, T, O, T, O, O, O, O, O] rfl rfl (take_ofW HT_.out HW_.out (by kernel_rfl)) (fun _ _ _ h => h) (Or.inl ⟨by rfl, ?_⟩) hHeld ?_ ?_; rotate_left; focus (rintro w' ⟨s0, s1, s2, s3⟩; go_simp; with_reducible rfl)
  rotate_left; focus (simp only [Act.put, s1, s2, s3, i64_w, i32_w]; rfl)
  refine take_ (i := 6) (N := some 11) (v := ?_) (a' := ?_) #[T, T, T, T, O, T, T, T, O, O, O, O, O] rfl rfl (take_ofW HT_.out HW_.out (by kernel_rfl)) (fun _ _ _ h => h) (Or.inl ⟨by rfl, ?_⟩) hHeld ?_ ?_; rotate_left; focus (rintro w' ⟨s0, s1, s2, s3⟩; go_simp; with_reducible rfl)
  rotate_left; focus (simp only [Act.put, s1, s2, s3, i64_w, i32_w]; rfl)
  refine take_ (i := 8) (N := some 13) (v := ?_) (a' := ?_) #[T, T, T, T, O, T, T, T, T, O, O, O, O] rfl rfl (take_ofW HT_.out HW_.out (by kernel_rfl)) (fun _ _ _ h => h) (Or.inl ⟨by rfl, ?_⟩) hHeld ?_ ?_; rotate_left; focus (rintro w' ⟨s0, s1, s2, s3⟩; go_simp; with_reducible rfl)
  rotate_left; focus (simp only [Act.put, s1, s2, s3, i64_w, i32_w]; rfl)
  refine one_ (i := 4) (N := some 9) #[T, T, T, T, T, T, T, T, T, O, O, O, O] rfl rfl (one_of HT_.out (by kernel_rfl)) (by decide) (fun K hK => ?_)
  refine goes_ Try.func84 (by kernel_rfl) rfl #[.int .i64 a0_0, .int .i64 a1_0] (by rfl) rfl rfl (by (try simp only [List.map_toArray, List.map_cons, List.map_nil]); first | done | rfl | (simp only [List.length_drop, List.length_take]; rfl)) ?_
  with_reducible refine (cmp_Compare_int.calls a0_0 a1_0 t808 _ A3.out).mono ?_
  rintro e w' ⟨rfl, ⟨nd, rfl⟩⟩
  refine ⟨_, rfl, ?_⟩
  refine hK.out _ _ ⟨kc BK806 0, kc BK806 1, kc BK807 0, kc BK807 1⟩ (fun hHeld => ?_)
  clear hK K
  refine norm_ (a' := ?_) ?_ ?_; rotate_left; focus (show Act.put _ (some 9) _ = _; simp only [Act.put, s1, s2, s3, i64_w, i32_w]; rfl)
  refine one_ (i := 9) (N := some 14) #[T, T, T, T, T, T, T, T, T, T, O, O, O] rfl rfl (one_of HT_.out (by kernel_rfl)) (by decide) (fun K hK => ?_)
  refine goes_ Try.func84 (by kernel_rfl) rfl #[.int .i64 a0_1, .int .i64 a1_1] (by rfl) rfl rfl (by (try simp only [List.map_toArray, List.map_cons, List.map_nil]); first | done | rfl | (simp only [List.length_drop, List.length_take]; rfl)) ?_
  with_reducible refine (cmp_Compare_int.calls a0_1 a1_1 t809 _ A4.out).mono ?_
  rintro e w' ⟨rfl, ⟨nd, rfl⟩⟩
  refine ⟨_, rfl, ?_⟩
  refine hK.out _ _ ⟨kc BK806 0, kc BK806 1, kc BK807 0, kc BK807 1⟩ (fun hHeld => ?_)
  clear hK K
  refine norm_ (a' := ?_) ?_ ?_; rotate_left; focus (show Act.put _ (some 14) _ = _; simp only [Act.put, s1, s2, s3, i64_w, i32_w]; rfl)
  refine one_ (i := 10) (N := some 15) #[T, T, T, T, T, T, T, T, T, T, T, O, O] rfl rfl (one_of HT_.out (by kernel_rfl)) (by decide) (fun K hK => ?_)
  refine Kd.R_lit_step (Kd.int .i64) _ 3 ?hg (N := 15) ?hd (xs := ([t808, t809] : List Int)) (inner := [.int .i64 t808, .int .i64 t809]) (ok := fun _ => True) (okp := fun _ => True) ?hr ?hp (fun _ hk => hk) trivial (Below.refl _ _) (Nat.le_refl _) (by simp) ?_; (case hd => rfl); (case hg => rfl); (case hr => first | (go_simp; done) | (go_simp; rfl)); (case hp => exact (Reps.one (show Kd.M (Kd.int .i64) _ _ _ t808 [.int .i64 t808] from rfl) (Reps.one (show Kd.M (Kd.int .i64) _ _ _ t809 [.int .i64 t809] from rfl) (Reps.none _ _))))
  intro v811 w9 ho10 hb hg_ hnew_
  clear hg_ hnew_
  (first | rw [← Ny810.out] at ho10 | (simp only [Int.reduceToNat] at ho10; rw [← Ny810.out] at ho10))
  have HO812 := Aside0.mk (Kd.R_lower ho10 (below_size (ky HB)))
  replace BK806 := kb BK806 hb
  replace BK807 := kb BK807 hb
  replace HB := kB HB hb
  clear hb ho10
  obtain ⟨Ao11, co11, eo11⟩ := Kd.R_slice HO812.out
  (first | subst eo11 | (injection eo11 with f1_ f2_ f3_; have f4_ := f1_.symm; have f5_ := f3_.symm; clear f1_ f2_ f3_; subst f4_; subst f5_))
  refine hK.out _ _ ⟨kc BK806 0, kc BK806 1, kc BK807 0, kc BK807 1⟩ (fun hHeld => ?_)
  clear hK K
  refine norm_ (a' := ?_) ?_ ?_; rotate_left; focus (show Act.put _ (some 15) _ = _; simp only [Act.put, s1, s2, s3, i64_w, i32_w]; rfl)
  refine one_ (i := 11) (N := some 16) #[T, T, T, T, T, T, T, T, T, T, T, T, O] rfl rfl (one_of HT_.out (by kernel_rfl)) (by decide) (fun K hK => ?_)
  refine goes_ Try.func60 (by kernel_rfl) rfl #[.slice Ao11 y810.length co11] (by rfl) rfl rfl (by (try simp only [List.map_toArray, List.map_cons, List.map_nil]); first | done | rfl | (simp only [List.length_drop, List.length_take]; rfl)) ?_
  with_reducible refine (cmp_Or_int.calls k _ _ y810 t813 _ ?side1 ?side2 A5.out).mono ?_
  (case side1 => repeat (first | exact (Kd.R_reads' HO812.out).2.2 | (with_reducible refine Kd.C_alloc ?_ _) | (with_reducible refine Kd.C_drewN ?_ _) | (with_reducible refine Kd.C_drew ?_)))
  (case side2 => exact (Kd.R_reads' HO812.out).2.1)
  rintro e w' ⟨rfl, ⟨nd, rfl⟩⟩
  refine ⟨_, rfl, ?_⟩
  refine hK.out _ _ ⟨kc BK806 0, kc BK806 1, kc BK807 0, kc BK807 1⟩ (fun hHeld => ?_)
  clear hK K
  refine norm_ (a' := ?_) ?_ ?_; rotate_left; focus (show Act.put _ (some 16) _ = _; simp only [Act.put, s1, s2, s3, i64_w, i32_w]; rfl)
  refine pure_ (i := 12) (N := some 4) (v := ?_) (a' := ?_) #[T, T, T, T, T, T, T, T, T, T, T, T, T] rfl rfl (any_of HT_.out (by kernel_rfl)) (fun _ _ _ h => h) (Or.inl ⟨by rfl, ?_⟩) ?_ ?_; rotate_left; focus (intro w'; go_simp; with_reducible rfl)
  rotate_left; focus (simp only [Act.put, s1, s2, s3, i64_w, i32_w]; rfl)
  refine done_ (done_of HT_.out (by kernel_rfl)) ?_
  try go_wp2
  go_ret
  exact ⟨by first | rfl | (simp [errW_none, errW_some] <;> rfl) | (simp [*, errW_none, errW_some] <;> rfl), ky HB⟩

/-! ### grid_Right: function 72 -/
def grid_Right.f (a0 : Int) : Option (Bool) := if a0 ≥ 0 then (some (decide (a0 ≤ 28))) else (some false)
set_option maxHeartbeats 8000000 in
set_option maxRecDepth 100000 in
theorem grid_Right.calls (a0 : Int) (r : Bool) (w : World) (h : grid_Right.f a0 = some r) :
    Calls Try.prog 72 #[.int .i64 a0] w fun e w' => e = .returned (.bool r) ∧ Drawn0 w w' := by
  have H : (if a0 ≥ 0 then (some (decide (a0 ≤ 28))) else (some false)) = some r := h
  clear h
  by_cases c2 : a0 ≥ 0
  · rw [if_pos c2] at H
    have c2b0 : decide (0 ≤ a0) = true := decide_eq_true c2
    clear c2
    obtain rfl := Option.some.inj H
    go_enter Try.func72, Try.ntmps72
    go_wp2
    go_ret
    exact ⟨by first | rfl | (simp; done) | (simp [*]; done), by repeat (first | exact Drawn0.refl _ | apply Drawn0.step)⟩
  rw [if_neg c2] at H
  have c2b0 : decide (0 ≤ a0) = false := decide_eq_false c2
  clear c2
  obtain rfl := Option.some.inj H
  go_enter Try.func72, Try.ntmps72
  go_wp2
  go_ret
  exact ⟨by first | rfl | (simp; done) | (simp [*]; done), by repeat (first | exact Drawn0.refl _ | apply Drawn0.step)⟩

/-! ### cobweblaw03_alive: function 34 -/
def cobweblaw03_alive.f (k : Nat)  : Option (Bool) := (grid_Of.f 6 (-6) 2).bind fun bt814 => ((wide_Of.f 7).bind fun bt817 => ((wide_Of.f 2).bind fun bt819 => ((frac_Of.f 3).bind fun bt821 => ((grid_At.f k bt817.1 bt817.2 bt819.1 bt819.2 bt821.1 bt821.2.1 bt821.2.2.1 bt821.2.2.2 1).bind fun bt825 => ((grid_Sides.f bt814.1 bt814.2 2).bind fun bt829 => (if (bt814.1 == 2 && (bt814.2 == (-1))) = true then (if bt825.2.2 = true then (if (bt825.1 == 2 && (bt825.2.1 == 2)) = true then ((grid_Center.f bt814.1 bt814.2 2).bind fun bt835 => (if (bt835.1 == 8 && (bt835.2 == (-4))) = true then (if (bt829.1 == 12 && (bt829.2.1 == (-12))) = true then (if (bt829.2.2.1 == 20 && (bt829.2.2.2 == (-4))) = true then ((grid_Cmp.f k bt814.1 bt814.2 bt825.1 bt825.2.1).bind fun t837 => (if t837 = (-1) then ((grid_Snap.f 6 2).bind fun t838 => (if t838 = 2 then ((grid_Right.f 28).bind fun t839 => (if t839 = true then ((grid_Right.f 29).bind fun t840 => (if t840 = true then (none) else ((grid_In.f bt814.1 bt814.2 2).bind fun t841 => (some t841)))) else (none))) else (none))) else (none))) else (none)) else (none)) else (none))) else (none)) else (none)) else (none)))))))
theorem cobweblaw03_alive.mono : ∀ k, LeO (cobweblaw03_alive.f k ) (cobweblaw03_alive.f (k + 1) ) := by
  intro  k
  unfold cobweblaw03_alive.f
  repeat' first
      | (with_reducible exact grid_At.mono _ _ _ _ _ _ _ _ _ _)
      | (with_reducible exact grid_Cmp.mono _ _ _ _ _)
      | (with_reducible exact LeO.refl _)
      | (with_reducible exact LeO.none _)
      | (with_reducible refine LeO.ite ?_ ?_)
      | (with_reducible refine LeO.bind ?_ (fun _ => ?_))
      | exact grid_At.mono _ _ _ _ _ _ _ _ _ _
      | exact grid_Cmp.mono _ _ _ _ _
      | exact LeO.none _
      | refine LeO.ite ?_ ?_
      | refine LeO.bind ?_ (fun _ => ?_)
set_option maxHeartbeats 8000000 in
set_option maxRecDepth 100000 in
theorem cobweblaw03_alive.calls (k : Nat)  (r : Bool) (w : World) (h : cobweblaw03_alive.f k  = some r) :
    Calls Try.prog 34 #[] w fun e w' => e = .returned (.bool r) ∧ Below w.heap.size w w' := by
  have hu96 := Try.underlying96
  have hu94 := Try.underlying94
  have hu62 := Try.underlying62
  have HB := Aside0.mk (Below.refl w.heap.size w)
  have H : ((grid_Of.f 6 (-6) 2).bind fun bt814 => ((wide_Of.f 7).bind fun bt817 => ((wide_Of.f 2).bind fun bt819 => ((frac_Of.f 3).bind fun bt821 => ((grid_At.f k bt817.1 bt817.2 bt819.1 bt819.2 bt821.1 bt821.2.1 bt821.2.2.1 bt821.2.2.2 1).bind fun bt825 => ((grid_Sides.f bt814.1 bt814.2 2).bind fun bt829 => (if (bt814.1 == 2 && (bt814.2 == (-1))) = true then (if bt825.2.2 = true then (if (bt825.1 == 2 && (bt825.2.1 == 2)) = true then ((grid_Center.f bt814.1 bt814.2 2).bind fun bt835 => (if (bt835.1 == 8 && (bt835.2 == (-4))) = true then (if (bt829.1 == 12 && (bt829.2.1 == (-12))) = true then (if (bt829.2.2.1 == 20 && (bt829.2.2.2 == (-4))) = true then ((grid_Cmp.f k bt814.1 bt814.2 bt825.1 bt825.2.1).bind fun t837 => (if t837 = (-1) then ((grid_Snap.f 6 2).bind fun t838 => (if t838 = 2 then ((grid_Right.f 28).bind fun t839 => (if t839 = true then ((grid_Right.f 29).bind fun t840 => (if t840 = true then (none) else ((grid_In.f bt814.1 bt814.2 2).bind fun t841 => (some t841)))) else (none))) else (none))) else (none))) else (none)) else (none)) else (none))) else (none)) else (none)) else (none)))))))) = some r := h
  clear h
  replace H := Option.bind_eq_some_iff.mp H
  obtain ⟨⟨t814, t815⟩, A10, H⟩ := H
  replace H : ((wide_Of.f 7).bind fun bt817 => ((wide_Of.f 2).bind fun bt819 => ((frac_Of.f 3).bind fun bt821 => ((grid_At.f k bt817.1 bt817.2 bt819.1 bt819.2 bt821.1 bt821.2.1 bt821.2.2.1 bt821.2.2.2 1).bind fun bt825 => ((grid_Sides.f t814 t815 2).bind fun bt829 => (if (t814 == 2 && (t815 == (-1))) = true then (if bt825.2.2 = true then (if (bt825.1 == 2 && (bt825.2.1 == 2)) = true then ((grid_Center.f t814 t815 2).bind fun bt835 => (if (bt835.1 == 8 && (bt835.2 == (-4))) = true then (if (bt829.1 == 12 && (bt829.2.1 == (-12))) = true then (if (bt829.2.2.1 == 20 && (bt829.2.2.2 == (-4))) = true then ((grid_Cmp.f k t814 t815 bt825.1 bt825.2.1).bind fun t837 => (if t837 = (-1) then ((grid_Snap.f 6 2).bind fun t838 => (if t838 = 2 then ((grid_Right.f 28).bind fun t839 => (if t839 = true then ((grid_Right.f 29).bind fun t840 => (if t840 = true then (none) else ((grid_In.f t814 t815 2).bind fun t841 => (some t841)))) else (none))) else (none))) else (none))) else (none)) else (none)) else (none))) else (none)) else (none)) else (none))))))) = some r := H
  have A1 := Aside0.mk A10
  clear A10
  replace H := Option.bind_eq_some_iff.mp H
  obtain ⟨⟨t817, t818⟩, A20, H⟩ := H
  replace H : ((wide_Of.f 2).bind fun bt819 => ((frac_Of.f 3).bind fun bt821 => ((grid_At.f k t817 t818 bt819.1 bt819.2 bt821.1 bt821.2.1 bt821.2.2.1 bt821.2.2.2 1).bind fun bt825 => ((grid_Sides.f t814 t815 2).bind fun bt829 => (if (t814 == 2 && (t815 == (-1))) = true then (if bt825.2.2 = true then (if (bt825.1 == 2 && (bt825.2.1 == 2)) = true then ((grid_Center.f t814 t815 2).bind fun bt835 => (if (bt835.1 == 8 && (bt835.2 == (-4))) = true then (if (bt829.1 == 12 && (bt829.2.1 == (-12))) = true then (if (bt829.2.2.1 == 20 && (bt829.2.2.2 == (-4))) = true then ((grid_Cmp.f k t814 t815 bt825.1 bt825.2.1).bind fun t837 => (if t837 = (-1) then ((grid_Snap.f 6 2).bind fun t838 => (if t838 = 2 then ((grid_Right.f 28).bind fun t839 => (if t839 = true then ((grid_Right.f 29).bind fun t840 => (if t840 = true then (none) else ((grid_In.f t814 t815 2).bind fun t841 => (some t841)))) else (none))) else (none))) else (none))) else (none)) else (none)) else (none))) else (none)) else (none)) else (none)))))) = some r := H
  have A2 := Aside0.mk A20
  clear A20
  replace H := Option.bind_eq_some_iff.mp H
  obtain ⟨⟨t819, t820⟩, A30, H⟩ := H
  replace H : ((frac_Of.f 3).bind fun bt821 => ((grid_At.f k t817 t818 t819 t820 bt821.1 bt821.2.1 bt821.2.2.1 bt821.2.2.2 1).bind fun bt825 => ((grid_Sides.f t814 t815 2).bind fun bt829 => (if (t814 == 2 && (t815 == (-1))) = true then (if bt825.2.2 = true then (if (bt825.1 == 2 && (bt825.2.1 == 2)) = true then ((grid_Center.f t814 t815 2).bind fun bt835 => (if (bt835.1 == 8 && (bt835.2 == (-4))) = true then (if (bt829.1 == 12 && (bt829.2.1 == (-12))) = true then (if (bt829.2.2.1 == 20 && (bt829.2.2.2 == (-4))) = true then ((grid_Cmp.f k t814 t815 bt825.1 bt825.2.1).bind fun t837 => (if t837 = (-1) then ((grid_Snap.f 6 2).bind fun t838 => (if t838 = 2 then ((grid_Right.f 28).bind fun t839 => (if t839 = true then ((grid_Right.f 29).bind fun t840 => (if t840 = true then (none) else ((grid_In.f t814 t815 2).bind fun t841 => (some t841)))) else (none))) else (none))) else (none))) else (none)) else (none)) else (none))) else (none)) else (none)) else (none))))) = some r := H
  have A3 := Aside0.mk A30
  clear A30
  replace H := Option.bind_eq_some_iff.mp H
  obtain ⟨⟨t821, t822, t823, t824⟩, A40, H⟩ := H
  replace H : ((grid_At.f k t817 t818 t819 t820 t821 t822 t823 t824 1).bind fun bt825 => ((grid_Sides.f t814 t815 2).bind fun bt829 => (if (t814 == 2 && (t815 == (-1))) = true then (if bt825.2.2 = true then (if (bt825.1 == 2 && (bt825.2.1 == 2)) = true then ((grid_Center.f t814 t815 2).bind fun bt835 => (if (bt835.1 == 8 && (bt835.2 == (-4))) = true then (if (bt829.1 == 12 && (bt829.2.1 == (-12))) = true then (if (bt829.2.2.1 == 20 && (bt829.2.2.2 == (-4))) = true then ((grid_Cmp.f k t814 t815 bt825.1 bt825.2.1).bind fun t837 => (if t837 = (-1) then ((grid_Snap.f 6 2).bind fun t838 => (if t838 = 2 then ((grid_Right.f 28).bind fun t839 => (if t839 = true then ((grid_Right.f 29).bind fun t840 => (if t840 = true then (none) else ((grid_In.f t814 t815 2).bind fun t841 => (some t841)))) else (none))) else (none))) else (none))) else (none)) else (none)) else (none))) else (none)) else (none)) else (none)))) = some r := H
  have A4 := Aside0.mk A40
  clear A40
  replace H := Option.bind_eq_some_iff.mp H
  obtain ⟨⟨t825, t826, t827⟩, A50, H⟩ := H
  replace H : ((grid_Sides.f t814 t815 2).bind fun bt829 => (if (t814 == 2 && (t815 == (-1))) = true then (if t827 = true then (if (t825 == 2 && (t826 == 2)) = true then ((grid_Center.f t814 t815 2).bind fun bt835 => (if (bt835.1 == 8 && (bt835.2 == (-4))) = true then (if (bt829.1 == 12 && (bt829.2.1 == (-12))) = true then (if (bt829.2.2.1 == 20 && (bt829.2.2.2 == (-4))) = true then ((grid_Cmp.f k t814 t815 t825 t826).bind fun t837 => (if t837 = (-1) then ((grid_Snap.f 6 2).bind fun t838 => (if t838 = 2 then ((grid_Right.f 28).bind fun t839 => (if t839 = true then ((grid_Right.f 29).bind fun t840 => (if t840 = true then (none) else ((grid_In.f t814 t815 2).bind fun t841 => (some t841)))) else (none))) else (none))) else (none))) else (none)) else (none)) else (none))) else (none)) else (none)) else (none))) = some r := H
  have A5 := Aside0.mk A50
  clear A50
  replace H := Option.bind_eq_some_iff.mp H
  obtain ⟨⟨t829, t830, t831, t832⟩, A60, H⟩ := H
  replace H : (if (t814 == 2 && (t815 == (-1))) = true then (if t827 = true then (if (t825 == 2 && (t826 == 2)) = true then ((grid_Center.f t814 t815 2).bind fun bt835 => (if (bt835.1 == 8 && (bt835.2 == (-4))) = true then (if (t829 == 12 && (t830 == (-12))) = true then (if (t831 == 20 && (t832 == (-4))) = true then ((grid_Cmp.f k t814 t815 t825 t826).bind fun t837 => (if t837 = (-1) then ((grid_Snap.f 6 2).bind fun t838 => (if t838 = 2 then ((grid_Right.f 28).bind fun t839 => (if t839 = true then ((grid_Right.f 29).bind fun t840 => (if t840 = true then (none) else ((grid_In.f t814 t815 2).bind fun t841 => (some t841)))) else (none))) else (none))) else (none))) else (none)) else (none)) else (none))) else (none)) else (none)) else (none)) = some r := H
  have A6 := Aside0.mk A60
  clear A60
  by_cases c7 : (t814 == 2 && (t815 == (-1))) = true
  rotate_left
  · rw [if_neg c7] at H
    exact absurd H (by simp)

  rw [if_pos c7] at H
  have c7b0 : (t814 == 2 && (t815 == (-1))) = true := c7
  (try (have c7b1 : decide (t814 = 2 && (t815 == (-1))) = true := by simpa using c7))
  (try (have c7b2 : (t814 == 2 && (t815 == (-1))) = true := by simpa using c7))
  clear c7
  by_cases c8 : t827 = true
  rotate_left
  · replace c8 := Bool.eq_false_iff.mpr c8
    subst c8
    have H1 : (none) = some r := by rw [if_neg (show ¬ (false = true) by decide)] at H; exact H
    clear H; have H := H1; clear H1
    exact absurd H (by simp)
  subst c8
  have H1 : (if (t825 == 2 && (t826 == 2)) = true then ((grid_Center.f t814 t815 2).bind fun bt835 => (if (bt835.1 == 8 && (bt835.2 == (-4))) = true then (if (t829 == 12 && (t830 == (-12))) = true then (if (t831 == 20 && (t832 == (-4))) = true then ((grid_Cmp.f k t814 t815 t825 t826).bind fun t837 => (if t837 = (-1) then ((grid_Snap.f 6 2).bind fun t838 => (if t838 = 2 then ((grid_Right.f 28).bind fun t839 => (if t839 = true then ((grid_Right.f 29).bind fun t840 => (if t840 = true then (none) else ((grid_In.f t814 t815 2).bind fun t841 => (some t841)))) else (none))) else (none))) else (none))) else (none)) else (none)) else (none))) else (none)) = some r := by rw [if_pos rfl] at H; exact H
  clear H; have H := H1; clear H1
  by_cases c9 : (t825 == 2 && (t826 == 2)) = true
  rotate_left
  · rw [if_neg c9] at H
    exact absurd H (by simp)
  rw [if_pos c9] at H
  have c9b0 : (t825 == 2 && (t826 == 2)) = true := c9
  (try (have c9b1 : decide (t825 = 2 && (t826 == 2)) = true := by simpa using c9))
  (try (have c9b2 : (t825 == 2 && (t826 == 2)) = true := by simpa using c9))
  clear c9
  replace H := Option.bind_eq_some_iff.mp H
  obtain ⟨⟨t835, t836⟩, A100, H⟩ := H
  replace H : (if (t835 == 8 && (t836 == (-4))) = true then (if (t829 == 12 && (t830 == (-12))) = true then (if (t831 == 20 && (t832 == (-4))) = true then ((grid_Cmp.f k t814 t815 t825 t826).bind fun t837 => (if t837 = (-1) then ((grid_Snap.f 6 2).bind fun t838 => (if t838 = 2 then ((grid_Right.f 28).bind fun t839 => (if t839 = true then ((grid_Right.f 29).bind fun t840 => (if t840 = true then (none) else ((grid_In.f t814 t815 2).bind fun t841 => (some t841)))) else (none))) else (none))) else (none))) else (none)) else (none)) else (none)) = some r := H
  have A10 := Aside0.mk A100
  clear A100
  by_cases c11 : (t835 == 8 && (t836 == (-4))) = true
  rotate_left
  · rw [if_neg c11] at H
    exact absurd H (by simp)
  rw [if_pos c11] at H
  have c11b0 : (t835 == 8 && (t836 == (-4))) = true := c11
  (try (have c11b1 : decide (t835 = 8 && (t836 == (-4))) = true := by simpa using c11))
  (try (have c11b2 : (t835 == 8 && (t836 == (-4))) = true := by simpa using c11))
  clear c11
  by_cases c12 : (t829 == 12 && (t830 == (-12))) = true
  rotate_left
  · rw [if_neg c12] at H
    exact absurd H (by simp)
  rw [if_pos c12] at H
  have c12b0 : (t829 == 12 && (t830 == (-12))) = true := c12
  (try (have c12b1 : decide (t829 = 12 && (t830 == (-12))) = true := by simpa using c12))
  (try (have c12b2 : (t829 == 12 && (t830 == (-12))) = true := by simpa using c12))
  clear c12
  by_cases c13 : (t831 == 20 && (t832 == (-4))) = true
  rotate_left
  · rw [if_neg c13] at H
    exact absurd H (by simp)
  rw [if_pos c13] at H
  have c13b0 : (t831 == 20 && (t832 == (-4))) = true := c13
  (try (have c13b1 : decide (t831 = 20 && (t832 == (-4))) = true := by simpa using c13))
  (try (have c13b2 : (t831 == 20 && (t832 == (-4))) = true := by simpa using c13))
  clear c13
  replace H := Option.bind_eq_some_iff.mp H
  obtain ⟨t837, A140, H⟩ := H
  replace H : (if t837 = (-1) then ((grid_Snap.f 6 2).bind fun t838 => (if t838 = 2 then ((grid_Right.f 28).bind fun t839 => (if t839 = true then ((grid_Right.f 29).bind fun t840 => (if t840 = true then (none) else ((grid_In.f t814 t815 2).bind fun t841 => (some t841)))) else (none))) else (none))) else (none)) = some r := H
  have A14 := Aside0.mk A140
  clear A140
  by_cases c15 : t837 = (-1)
  rotate_left
  · rw [if_neg c15] at H
    exact absurd H (by simp)
  rw [if_pos c15] at H
  have c15b0 : (t837 == (-1)) = true := beq_iff_eq.mpr c15
  have c15b1 : (t837 != (-1)) = false := bne_eq_false_iff_eq.mpr c15
  clear c15
  replace H := Option.bind_eq_some_iff.mp H
  obtain ⟨t838, A160, H⟩ := H
  replace H : (if t838 = 2 then ((grid_Right.f 28).bind fun t839 => (if t839 = true then ((grid_Right.f 29).bind fun t840 => (if t840 = true then (none) else ((grid_In.f t814 t815 2).bind fun t841 => (some t841)))) else (none))) else (none)) = some r := H
  have A16 := Aside0.mk A160
  clear A160
  by_cases c17 : t838 = 2
  rotate_left
  · rw [if_neg c17] at H
    exact absurd H (by simp)
  rw [if_pos c17] at H
  have c17b0 : (t838 == 2) = true := beq_iff_eq.mpr c17
  have c17b1 : (t838 != 2) = false := bne_eq_false_iff_eq.mpr c17
  clear c17
  replace H := Option.bind_eq_some_iff.mp H
  obtain ⟨t839, A180, H⟩ := H
  replace H : (if t839 = true then ((grid_Right.f 29).bind fun t840 => (if t840 = true then (none) else ((grid_In.f t814 t815 2).bind fun t841 => (some t841)))) else (none)) = some r := H
  have A18 := Aside0.mk A180
  clear A180
  by_cases c19 : t839 = true
  rotate_left
  · replace c19 := Bool.eq_false_iff.mpr c19
    subst c19
    have H1 : (none) = some r := by rw [if_neg (show ¬ (false = true) by decide)] at H; exact H
    clear H; have H := H1; clear H1
    exact absurd H (by simp)
  subst c19
  have H1 : ((grid_Right.f 29).bind fun t840 => (if t840 = true then (none) else ((grid_In.f t814 t815 2).bind fun t841 => (some t841)))) = some r := by rw [if_pos rfl] at H; exact H
  clear H; have H := H1; clear H1
  replace H := Option.bind_eq_some_iff.mp H
  obtain ⟨t840, A200, H⟩ := H
  replace H : (if t840 = true then (none) else ((grid_In.f t814 t815 2).bind fun t841 => (some t841))) = some r := H
  have A20 := Aside0.mk A200
  clear A200
  by_cases c21 : t840 = true
  · subst c21
    have H1 : (none) = some r := by rw [if_pos rfl] at H; exact H
    clear H; have H := H1; clear H1
    exact absurd H (by simp)
  replace c21 := Bool.eq_false_iff.mpr c21
  subst c21
  have H1 : ((grid_In.f t814 t815 2).bind fun t841 => (some t841)) = some r := by rw [if_neg (show ¬ (false = true) by decide)] at H; exact H
  clear H; have H := H1; clear H1
  replace H := Option.bind_eq_some_iff.mp H
  obtain ⟨t841, A220, H⟩ := H
  replace H : (some t841) = some r := H
  have A22 := Aside0.mk A220
  clear A220
  obtain rfl := Option.some.inj H
  go_enter Try.func34, Try.ntmps34
  go_wp2_with (first | ((with_reducible refine gate_callee (f := 67) rfl ?_); refine goesL_ (some 7) rfl rfl Try.func67 (by kernel_rfl) rfl #[.agg #[.int .i64 6, .int .i64 (-6)], .int .i64 2] rfl (by (try simp only [List.map_toArray, List.map_cons, List.map_nil]); first | done | rfl | (simp only [List.length_drop, List.length_take]; rfl)) ?_; (with_reducible refine (grid_Of.calls 6 (-6) 2 t814 t815 _ A1.out).mono ?_); rintro e w23 ⟨rfl, hb⟩; refine ⟨_, rfl, ?_⟩; replace HB := kB HB hb; (try clear hb); (try clear hb2); (try clear hk); (try clear hi)) | ((with_reducible refine gate_dst (N := 1) rfl ?_); refine box_event ?hg (N := 1) ?hd (cs := #[.int .i64 0, .int .i64 0]) (t := 94) ?hr ?_; (case hd => rfl); (case hg => rfl); (case hr => first | (go_simp; done) | (go_simp; rfl)); intro gb816 hg w24 hbox hb; have BK816 := Aside0.mk (hbox); have GW816 := kS HB hg; have GE816 := kS HB hg; replace HB := kB HB hb; clear hb hbox hg; have hcz25_0 : w24.cell? ⟨gb816, 0, none⟩ = some (.int .i64 0) := kc BK816 0; have hcz25_1 : w24.cell? ⟨gb816, 1, none⟩ = some (.int .i64 0) := kc BK816 1; have hfz25_0 := blk_frozen BK816.out 0; have hfz25_1 := blk_frozen BK816.out 1) | ((with_reducible refine gate_callee (f := 32) rfl ?_); refine goesL_ (some 9) rfl rfl Try.func32 (by kernel_rfl) rfl #[.int .i64 7] rfl (by (try simp only [List.map_toArray, List.map_cons, List.map_nil]); first | done | rfl | (simp only [List.length_drop, List.length_take]; rfl)) ?_; (with_reducible refine (wide_Of.calls 7 t817 t818 _ A2.out).mono ?_); rintro e w26 ⟨rfl, hb⟩; refine ⟨_, rfl, ?_⟩; have n0_ := Aside0.mk (blk_below (g := gb816) (o := .cells #[.int .i64 t814, .int .i64 t815] 94 (0, 0)) (by (with_reducible repeat (first | refine blk_drewN ?_ _ | refine blk_drew ?_ | refine blk_alloc ?_ _)); refine blk_put (cs := #[.int .i64 t814, .int .i64 0]) ?_ 1 _ rfl; (with_reducible repeat (first | refine blk_drewN ?_ _ | refine blk_drew ?_ | refine blk_alloc ?_ _)); refine blk_put (cs := #[.int .i64 0, .int .i64 0]) ?_ 0 _ rfl; (with_reducible repeat (first | refine blk_drewN ?_ _ | refine blk_drew ?_ | refine blk_alloc ?_ _)); exact BK816.out) hb); have n1_ := kB HB hb; clear BK816; clear HB; have BK816 := n0_; have HB := n1_; clear n0_ n1_; (try clear hb); (try clear hb2); (try clear hk); (try clear hi)) | ((with_reducible refine gate_callee (f := 32) rfl ?_); refine goesL_ (some 10) rfl rfl Try.func32 (by kernel_rfl) rfl #[.int .i64 2] rfl (by (try simp only [List.map_toArray, List.map_cons, List.map_nil]); first | done | rfl | (simp only [List.length_drop, List.length_take]; rfl)) ?_; (with_reducible refine (wide_Of.calls 2 t819 t820 _ A3.out).mono ?_); rintro e w27 ⟨rfl, hb⟩; refine ⟨_, rfl, ?_⟩; replace BK816 := kb BK816 hb; replace HB := kB HB hb; (try clear hb); (try clear hb2); (try clear hk); (try clear hi)) | ((with_reducible refine gate_callee (f := 50) rfl ?_); refine goesL_ (some 12) rfl rfl Try.func50 (by kernel_rfl) rfl #[.int .i64 3] rfl (by (try simp only [List.map_toArray, List.map_cons, List.map_nil]); first | done | rfl | (simp only [List.length_drop, List.length_take]; rfl)) ?_; (with_reducible refine (frac_Of.calls 3 t821 t822 t823 t824 _ A4.out).mono ?_); rintro e w28 ⟨rfl, hb⟩; refine ⟨_, rfl, ?_⟩; replace BK816 := kb BK816 hb; replace HB := kB HB hb; (try clear hb); (try clear hb2); (try clear hk); (try clear hi)) | ((with_reducible refine gate_callee (f := 68) rfl ?_); refine goesL_ (some 13) rfl rfl Try.func68 (by kernel_rfl) rfl #[.agg #[.int .i64 t817, .int .u64 t818, .int .i64 t819, .int .u64 t820], .agg #[.int .i64 t821, .int .u64 t822, .int .i64 t823, .int .u64 t824], .int .i64 1] rfl (by (try simp only [List.map_toArray, List.map_cons, List.map_nil]); first | done | rfl | (simp only [List.length_drop, List.length_take]; rfl)) ?_; (with_reducible refine (grid_At.calls k t817 t818 t819 t820 t821 t822 t823 t824 1 t825 t826 true _ A5.out).mono ?_); rintro e w29 ⟨rfl, hb⟩; refine ⟨_, rfl, ?_⟩; replace BK816 := kb BK816 hb; replace HB := kB HB hb; (try clear hb); (try clear hb2); (try clear hk); (try clear hi)) | ((with_reducible refine gate_dst (N := 2) rfl ?_); refine box_event ?hg (N := 2) ?hd (cs := #[.int .i64 0, .int .i64 0]) (t := 94) ?hr ?_; (case hd => rfl); (case hg => rfl); (case hr => first | (go_simp; done) | (go_simp; rfl)); intro gb828 hg w30 hbox hb; have BK828 := Aside0.mk (hbox); have GW828 := kS HB hg; have GE828 := kS HB hg; have NB816_828 := kN BK816 hg; have NB828_816 := kM BK816 hg; replace BK816 := kb BK816 hb; replace HB := kB HB hb; clear hb hbox hg; have hnb31 := NB828_816.out; have hnc31 := NB816_828.out; have hcz32_0 : w30.cell? ⟨gb828, 0, none⟩ = some (.int .i64 0) := kc BK828 0; have hcz32_1 : w30.cell? ⟨gb828, 1, none⟩ = some (.int .i64 0) := kc BK828 1; have hfz32_0 := blk_frozen BK828.out 0; have hfz32_1 := blk_frozen BK828.out 1; have hcz33_0 : w30.cell? ⟨gb816, 0, none⟩ = some (.int .i64 t814) := kc BK816 0; have hcz33_1 : w30.cell? ⟨gb816, 1, none⟩ = some (.int .i64 t815) := kc BK816 1; have hfz33_0 := blk_frozen BK816.out 0; have hfz33_1 := blk_frozen BK816.out 1) | ((with_reducible refine gate_callee (f := 69) rfl ?_); refine goesL_ (some 18) rfl rfl Try.func69 (by kernel_rfl) rfl #[.agg #[.int .i64 t814, .int .i64 t815], .int .i64 2] rfl (by (try simp only [List.map_toArray, List.map_cons, List.map_nil]); first | done | rfl | (simp only [List.length_drop, List.length_take]; rfl)) ?_; (with_reducible refine (grid_Sides.calls t814 t815 2 t829 t830 t831 t832 _ A6.out).mono ?_); rintro e w34 ⟨rfl, hb⟩; refine ⟨_, rfl, ?_⟩; have n0_ := kb BK816 hb; have n1_ := Aside0.mk (blk_below (g := gb828) (o := .cells #[.int .i64 t825, .int .i64 t826] 94 (0, 0)) (by (with_reducible repeat (first | refine blk_drewN ?_ _ | refine blk_drew ?_ | refine blk_alloc ?_ _)); refine blk_put (cs := #[.int .i64 t825, .int .i64 0]) ?_ 1 _ rfl; (with_reducible repeat (first | refine blk_drewN ?_ _ | refine blk_drew ?_ | refine blk_alloc ?_ _)); refine blk_put (cs := #[.int .i64 0, .int .i64 0]) ?_ 0 _ rfl; (with_reducible repeat (first | refine blk_drewN ?_ _ | refine blk_drew ?_ | refine blk_alloc ?_ _)); exact BK828.out) hb); have n2_ := kB HB hb; clear BK816; clear BK828; clear HB; have BK816 := n0_; have BK828 := n1_; have HB := n2_; clear n0_ n1_ n2_; (try clear hb); (try clear hb2); (try clear hk); (try clear hi)) | ((with_reducible refine gate_dst (N := 4) rfl ?_); refine box_event ?hg (N := 4) ?hd (cs := #[.int .i64 0, .int .i64 0]) (t := 96) ?hr ?_; (case hd => rfl); (case hg => rfl); (case hr => first | (go_simp; done) | (go_simp; rfl)); intro gb833 hg w35 hbox hb; have BK833 := Aside0.mk (hbox); have GW833 := kS HB hg; have GE833 := kS HB hg; have NB816_833 := kN BK816 hg; have NB833_816 := kM BK816 hg; have NB828_833 := kN BK828 hg; have NB833_828 := kM BK828 hg; replace BK816 := kb BK816 hb; replace BK828 := kb BK828 hb; replace HB := kB HB hb; clear hb hbox hg) | ((with_reducible refine gate_dst (N := 5) rfl ?_); refine box_event ?hg (N := 5) ?hd (cs := #[.int .i64 0, .int .i64 0]) (t := 96) ?hr ?_; (case hd => rfl); (case hg => rfl); (case hr => first | (go_simp; done) | (go_simp; rfl)); intro gb834 hg w36 hbox hb; have BK834 := Aside0.mk (hbox); have GW834 := kS HB hg; have GE834 := kS HB hg; have NB816_834 := kN BK816 hg; have NB834_816 := kM BK816 hg; have NB828_834 := kN BK828 hg; have NB834_828 := kM BK828 hg; have NB833_834 := kN BK833 hg; have NB834_833 := kM BK833 hg; replace BK816 := kb BK816 hb; replace BK828 := kb BK828 hb; replace BK833 := kb BK833 hb; replace HB := kB HB hb; clear hb hbox hg; have hnb37 := NB833_816.out; have hnc37 := NB816_833.out; have hnb38 := NB833_828.out; have hnc38 := NB828_833.out; have hnb39 := NB833_834.out; have hnc39 := NB834_833.out; have hcz40_0 : w36.cell? ⟨gb833, 0, none⟩ = some (.int .i64 0) := kc BK833 0; have hcz40_1 : w36.cell? ⟨gb833, 1, none⟩ = some (.int .i64 0) := kc BK833 1; have hfz40_0 := blk_frozen BK833.out 0; have hfz40_1 := blk_frozen BK833.out 1; have hnb41 := NB834_816.out; have hnc41 := NB816_834.out; have hnb42 := NB834_828.out; have hnc42 := NB828_834.out; have hcz43_0 : w36.cell? ⟨gb834, 0, none⟩ = some (.int .i64 0) := kc BK834 0; have hcz43_1 : w36.cell? ⟨gb834, 1, none⟩ = some (.int .i64 0) := kc BK834 1; have hfz43_0 := blk_frozen BK834.out 0; have hfz43_1 := blk_frozen BK834.out 1; have hcz44_0 : w36.cell? ⟨gb816, 0, none⟩ = some (.int .i64 t814) := kc BK816 0; have hcz44_1 : w36.cell? ⟨gb816, 1, none⟩ = some (.int .i64 t815) := kc BK816 1; have hfz44_0 := blk_frozen BK816.out 0; have hfz44_1 := blk_frozen BK816.out 1; have hcz45_0 : w36.cell? ⟨gb828, 0, none⟩ = some (.int .i64 t825) := kc BK828 0; have hcz45_1 : w36.cell? ⟨gb828, 1, none⟩ = some (.int .i64 t826) := kc BK828 1; have hfz45_0 := blk_frozen BK828.out 0; have hfz45_1 := blk_frozen BK828.out 1) | (go_at_call 70; (with_reducible refine (grid_Center.calls t814 t815 2 t835 t836 _ A10.out).mono ?_); rintro e w46 ⟨rfl, hb⟩; have n0_ := kb BK816 hb; have n1_ := kb BK828 hb; have n2_ := Aside0.mk (blk_below (g := gb833) (o := .cells #[.int .i64 t829, .int .i64 t830] 96 (0, 0)) (by (with_reducible repeat (first | refine blk_drewN ?_ _ | refine blk_drew ?_ | refine blk_alloc ?_ _)); refine blk_far ?_ NB833_834.out _; (with_reducible repeat (first | refine blk_drewN ?_ _ | refine blk_drew ?_ | refine blk_alloc ?_ _)); refine blk_far ?_ NB833_834.out _; (with_reducible repeat (first | refine blk_drewN ?_ _ | refine blk_drew ?_ | refine blk_alloc ?_ _)); refine blk_put (cs := #[.int .i64 t829, .int .i64 0]) ?_ 1 _ rfl; (with_reducible repeat (first | refine blk_drewN ?_ _ | refine blk_drew ?_ | refine blk_alloc ?_ _)); refine blk_put (cs := #[.int .i64 0, .int .i64 0]) ?_ 0 _ rfl; (with_reducible repeat (first | refine blk_drewN ?_ _ | refine blk_drew ?_ | refine blk_alloc ?_ _)); exact BK833.out) hb); have n3_ := Aside0.mk (blk_below (g := gb834) (o := .cells #[.int .i64 t831, .int .i64 t832] 96 (0, 0)) (by (with_reducible repeat (first | refine blk_drewN ?_ _ | refine blk_drew ?_ | refine blk_alloc ?_ _)); refine blk_put (cs := #[.int .i64 t831, .int .i64 0]) ?_ 1 _ rfl; (with_reducible repeat (first | refine blk_drewN ?_ _ | refine blk_drew ?_ | refine blk_alloc ?_ _)); refine blk_put (cs := #[.int .i64 0, .int .i64 0]) ?_ 0 _ rfl; (with_reducible repeat (first | refine blk_drewN ?_ _ | refine blk_drew ?_ | refine blk_alloc ?_ _)); refine blk_far ?_ NB834_833.out _; (with_reducible repeat (first | refine blk_drewN ?_ _ | refine blk_drew ?_ | refine blk_alloc ?_ _)); refine blk_far ?_ NB834_833.out _; (with_reducible repeat (first | refine blk_drewN ?_ _ | refine blk_drew ?_ | refine blk_alloc ?_ _)); exact BK834.out) hb); have n4_ := kB HB hb; clear BK816; clear BK828; clear BK833; clear BK834; clear HB; have BK816 := n0_; have BK828 := n1_; have BK833 := n2_; have BK834 := n3_; have HB := n4_; clear n0_ n1_ n2_ n3_ n4_; (try clear hb); (try clear hb2); (try clear hk); (try clear hi); have hcz47_0 : w46.cell? ⟨gb833, 0, none⟩ = some (.int .i64 t829) := kc BK833 0; have hcz47_1 : w46.cell? ⟨gb833, 1, none⟩ = some (.int .i64 t830) := kc BK833 1; have hfz47_0 := blk_frozen BK833.out 0; have hfz47_1 := blk_frozen BK833.out 1; have hcz48_0 : w46.cell? ⟨gb834, 0, none⟩ = some (.int .i64 t831) := kc BK834 0; have hcz48_1 : w46.cell? ⟨gb834, 1, none⟩ = some (.int .i64 t832) := kc BK834 1; have hfz48_0 := blk_frozen BK834.out 0; have hfz48_1 := blk_frozen BK834.out 1; have hcz49_0 : w46.cell? ⟨gb816, 0, none⟩ = some (.int .i64 t814) := kc BK816 0; have hcz49_1 : w46.cell? ⟨gb816, 1, none⟩ = some (.int .i64 t815) := kc BK816 1; have hfz49_0 := blk_frozen BK816.out 0; have hfz49_1 := blk_frozen BK816.out 1; have hcz50_0 : w46.cell? ⟨gb828, 0, none⟩ = some (.int .i64 t825) := kc BK828 0; have hcz50_1 : w46.cell? ⟨gb828, 1, none⟩ = some (.int .i64 t826) := kc BK828 1; have hfz50_0 := blk_frozen BK828.out 0; have hfz50_1 := blk_frozen BK828.out 1) | (go_at_call 71; (with_reducible refine (grid_Cmp.calls k t814 t815 t825 t826 t837 _ A14.out).mono ?_); rintro e w51 ⟨rfl, hb⟩; replace BK816 := kb BK816 hb; replace BK828 := kb BK828 hb; replace BK833 := kb BK833 hb; replace BK834 := kb BK834 hb; replace HB := kB HB hb; (try clear hb); (try clear hb2); (try clear hk); (try clear hi)) | (go_at_call 35; (with_reducible refine (grid_Snap.calls 6 2 t838 _ A16.out).mono ?_); rintro e w52 ⟨rfl, hb⟩; replace BK816 := kb BK816 hb; replace BK828 := kb BK828 hb; replace BK833 := kb BK833 hb; replace BK834 := kb BK834 hb; replace HB := kB HB hb; (try clear hb); (try clear hb2); (try clear hk); (try clear hi)) | (go_at_call 72; (with_reducible refine (grid_Right.calls 28 true _ A18.out).mono ?_); rintro e w' ⟨rfl, ⟨nd, rfl⟩⟩) | (go_at_call 72; (with_reducible refine (grid_Right.calls 29 false _ A20.out).mono ?_); rintro e w' ⟨rfl, ⟨nd, rfl⟩⟩; have hcz53_0 : w52.cell? ⟨gb816, 0, none⟩ = some (.int .i64 t814) := kc BK816 0; have hcz53_1 : w52.cell? ⟨gb816, 1, none⟩ = some (.int .i64 t815) := kc BK816 1; have hfz53_0 := blk_frozen BK816.out 0; have hfz53_1 := blk_frozen BK816.out 1) | (go_at_call 73; (with_reducible refine (grid_In.calls t814 t815 2 t841 _ A22.out).mono ?_); rintro e w54 ⟨rfl, hb⟩; replace BK816 := kb BK816 hb; replace BK828 := kb BK828 hb; replace BK833 := kb BK833 hb; replace BK834 := kb BK834 hb; replace HB := kB HB hb; (try clear hb); (try clear hb2); (try clear hk); (try clear hi)))
  go_ret
  exact ⟨by first | rfl | (simp [errW_none, errW_some] <;> rfl) | (simp [*, errW_none, errW_some] <;> rfl), ky HB⟩
/-! ### cobwebref03_Size: function 36 -/
def cobwebref03_Size.l0 : Nat → Int → Int → Int → Option (Int)
  | 0, _, _, _ => none
  | k + 1, x0, x3, x4 => (cobwebref03_Rung.f x0).bind fun t842 => (if x4 < t842 then (cobwebref03_Size.l0 k x0 (wrap64 (2 * x3)) (wrap64 (x4 + 1))) else (some x3))
def cobwebref03_Size.f (k : Nat) (a0 : Int) : Option (Int) := cobwebref03_Size.l0 k a0 1 0
theorem cobwebref03_Size.mono_l : ∀ k, (∀ y0 y1 y2, LeO (cobwebref03_Size.l0 k y0 y1 y2) (cobwebref03_Size.l0 (k + 1) y0 y1 y2))
  | 0 => fun _ _ _ r h => by simp [cobwebref03_Size.l0] at h
  | k + 1 => by
    have ih0 := cobwebref03_Size.mono_l k
    · intro y0 y1 y2
      unfold cobwebref03_Size.l0
      repeat' first
      | (with_reducible exact ih0 _ _ _)
      | (with_reducible exact LeO.refl _)
      | (with_reducible exact LeO.none _)
      | (with_reducible refine LeO.ite ?_ ?_)
      | (with_reducible refine LeO.bind ?_ (fun _ => ?_))
      | exact ih0 _ _ _
      | exact LeO.none _
      | refine LeO.ite ?_ ?_
      | refine LeO.bind ?_ (fun _ => ?_)
theorem cobwebref03_Size.mono : ∀ a0 k, LeO (cobwebref03_Size.f k a0) (cobwebref03_Size.f (k + 1) a0) := by
  intro a0 k
  have ih0 := cobwebref03_Size.mono_l k
  unfold cobwebref03_Size.f
  repeat' first
      | (with_reducible exact ih0 _ _ _)
      | (with_reducible exact LeO.refl _)
      | (with_reducible exact LeO.none _)
      | (with_reducible refine LeO.ite ?_ ?_)
      | (with_reducible refine LeO.bind ?_ (fun _ => ?_))
      | exact ih0 _ _ _
      | exact LeO.none _
      | refine LeO.ite ?_ ?_
      | refine LeO.bind ?_ (fun _ => ?_)
set_option maxHeartbeats 8000000 in
set_option maxRecDepth 100000 in
theorem cobwebref03_Size.calls (k : Nat) (a0 : Int) (r : Int) (w : World) (h : cobwebref03_Size.f k a0 = some r) :
    Calls Try.prog 36 #[.int .i64 a0] w fun e w' => e = .returned (.int .i64 r) ∧ Drawn0 w w' := by
  have H : (cobwebref03_Size.l0 k a0 1 0) = some r := h
  clear h
  have H' := Aside0.mk H
  clear H
  go_enter Try.func36, Try.ntmps36
  go_wp2
  go_loopg [3, 4] k (fun kq v3 v4 w' => ∃ (x3_1 : Int) (x4_1 : Int), v3 = .int .i64 x3_1 ∧ v4 = .int .i64 x4_1 ∧ Aside0 (cobwebref03_Size.l0 kq a0 x3_1 x4_1 = some r) ∧ Aside0 (kq ≤ k) ∧ Drawn0 w w')
  case atStart => exact ⟨(1), (0), (by first | rfl | (simp; done) | (simp [*]; done)), (by first | rfl | (simp; done) | (simp [*]; done)), H', ⟨Nat.le_refl _⟩, by repeat (first | exact Drawn0.refl _ | apply Drawn0.step)⟩
  case round =>
    clear H'
    obtain ⟨x3_1, x4_1, rfl, rfl, HA, HK1, ⟨m1, rfl⟩⟩ := hrel
    cases gk with
    | zero => exact absurd HA.out (by simp [cobwebref03_Size.l0])
    | succ k1 =>
      have H := HA.out; clear HA
      simp only [cobwebref03_Size.l0] at H
      replace H := Option.bind_eq_some_iff.mp H
      obtain ⟨t842, A20, H⟩ := H
      replace H : (if x4_1 < t842 then (cobwebref03_Size.l0 k1 a0 (wrap64 (2 * x3_1)) (wrap64 (x4_1 + 1))) else (some x3_1)) = some r := H
      have A2 := Aside0.mk A20
      clear A20
      by_cases c3 : x4_1 < t842
      rotate_left
      · rw [if_neg c3] at H
        have c3b0 : decide (x4_1 < t842) = false := decide_eq_false c3
        clear c3
        obtain rfl := Option.some.inj H
        go_wp2_with (first | ((with_reducible refine gate_callee (f := 33) rfl ?_); refine goesL_ (some 7) rfl rfl Try.func33 (by kernel_rfl) rfl #[.int .i64 a0] rfl (by (try simp only [List.map_toArray, List.map_cons, List.map_nil]); first | done | rfl | (simp only [List.length_drop, List.length_take]; rfl)) ?_; (with_reducible refine (cobwebref03_Rung.calls a0 t842 _ A2.out).mono ?_); rintro e w' ⟨rfl, ⟨nd, rfl⟩⟩; refine ⟨_, rfl, ?_⟩))
        go_ret
        exact ⟨by first | rfl | (simp; done) | (simp [*]; done), by repeat (first | exact Drawn0.refl _ | apply Drawn0.step)⟩

      rw [if_pos c3] at H
      have c3b0 : decide (x4_1 < t842) = true := decide_eq_true c3
      clear c3
      have H' := Aside0.mk H
      clear H
      go_wp2_with (first | ((with_reducible refine gate_callee (f := 33) rfl ?_); refine goesL_ (some 7) rfl rfl Try.func33 (by kernel_rfl) rfl #[.int .i64 a0] rfl (by (try simp only [List.map_toArray, List.map_cons, List.map_nil]); first | done | rfl | (simp only [List.length_drop, List.length_take]; rfl)) ?_; (with_reducible refine (cobwebref03_Rung.calls a0 t842 _ A2.out).mono ?_); rintro e w' ⟨rfl, ⟨nd, rfl⟩⟩; refine ⟨_, rfl, ?_⟩))
      go_roundg k1
      case measure => have := HK1.out; omega
      case rel => exact ⟨(wrap64 (2 * x3_1)), (wrap64 (x4_1 + 1)), (by first | rfl | (simp; done) | (simp [*]; done)), (by first | rfl | (simp; done) | (simp [*]; done)), H', ⟨by have := HK1.out; omega⟩, by repeat (first | exact Drawn0.refl _ | apply Drawn0.step)⟩
end Go.Proofs.Ytpjbniihdndlmaa.Q
