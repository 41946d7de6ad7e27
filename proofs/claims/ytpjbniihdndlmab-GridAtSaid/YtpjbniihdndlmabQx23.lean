-- Printed by wip/pp.sh (a session's own turning of the kit's print) for this seat.
import Derived.Test.YtpjbniihdndlmabQx0
import Derived.Test.YtpjbniihdndlmabQx3
import Derived.Test.YtpjbniihdndlmabQx4
import Derived.Test.YtpjbniihdndlmabQx5
import Derived.Test.YtpjbniihdndlmabQx7
import Derived.Test.YtpjbniihdndlmabQx22
namespace Go.Proofs.Ytpjbniihdndlmab.Q
open Go.RowKit Go.Proofs.YtpjbniihdndlmabW.PrintWords Go.Proofs.YtpjbniihdndlmabW.PrintLast Go.Proofs.YtpjbniihdndlmabW.PrintMore
open Go.Proofs.Ytpjbniihdndlmab.H
attribute [local go_sem] hq_add64 hq_sub64 hq_not64 add64c_nn sub64c_nn sub64c_le
attribute [local go_sem] max2_int min2_int max_two min_two max_three min_three max_four min_four   -- for this text's walks alone
set_option linter.unusedVariables false
set_option linter.unusedSimpArgs false

attribute [local go_sem high] eqA60 eqA62
/-! ### grid_Cmp: function 48 -/
def grid_Cmp.f (k : Nat) (a0_0 : Int) (a0_1 : Int) (a1_0 : Int) (a1_1 : Int) : Option (Int) := (cmp_Compare_int.f a0_0 a1_0).bind fun t819 => ((cmp_Compare_int.f a0_1 a1_1).bind fun t820 => ((cmp_Or_int.f k (([t819, t820] : List Int))).bind fun t824 => (some t824)))
theorem grid_Cmp.mono : ∀ a0 a1 a2 a3 k, LeO (grid_Cmp.f k a0 a1 a2 a3) (grid_Cmp.f (k + 1) a0 a1 a2 a3) := by
 intro a0 a1 a2 a3 k
 unfold grid_Cmp.f
 repeat' first
   | (with_reducible exact cmp_Or_int.mono _ _)
   | (with_reducible exact LeO.refl _)
   | (with_reducible exact LeO.none _)
   | (with_reducible refine LeO.ite ?_ ?_)
   | (with_reducible refine LeO.bind ?_ (fun _ => ?_))
   | exact cmp_Or_int.mono _ _
   | exact LeO.none _
   | refine LeO.ite ?_ ?_
   | refine LeO.bind ?_ (fun _ => ?_)
def grid_Cmp.T1 : Bool × List (List Nat × List Nat) := (true, [([], []), ([0], [0]), ([], []), ([2], [2]), ([1, 3], [1, 3]), ([], []), ([5], [5]), ([], []), ([7], [7]), ([6, 8, 4], [6, 8]), ([4, 9], [4, 9]), ([10, 9], [10]), ([11, 11, 0, 1, 2, 3, 4, 5, 6, 7, 8, 9, 10, 11], [11])])
def grid_Cmp.B1 : List Nat := [0, 1, 0, 4, 15, 0, 32, 0, 128, 511, 1023, 2047, 4095]
theorem grid_Cmp.tab1 : rtab .any (opsOf Try.f48 1) = grid_Cmp.T1 := by kernel_rfl
theorem grid_Cmp.bits1 : waitsOk grid_Cmp.T1.2 grid_Cmp.B1 = true := by kernel_rfl
set_option maxHeartbeats 8000000 in
set_option maxRecDepth 100000 in
theorem grid_Cmp.calls (k : Nat) (a0_0 : Int) (a0_1 : Int) (a1_0 : Int) (a1_1 : Int) (r : Int) (w : World) (h : grid_Cmp.f k a0_0 a0_1 a1_0 a1_1 = some r) :
  Calls Try.prog 48 #[.agg #[.int .i64 a0_0, .int .i64 a0_1], .agg #[.int .i64 a1_0, .int .i64 a1_1]] w fun e w' => e = .returned (.int .i64 r) ∧ Below w.heap.size w w' := by
 have hu60 := Try.underlying60; have HB := Aside0.mk (Below.refl w.heap.size w); have H : ((cmp_Compare_int.f a0_0 a1_0).bind fun t819 => ((cmp_Compare_int.f a0_1 a1_1).bind fun t820 => ((cmp_Or_int.f k (([t819, t820] : List Int))).bind fun t824 => (some t824)))) = some r := h; clear h; replace H := Option.bind_eq_some_iff.mp H; obtain ⟨t819, A30, H⟩ := H; (try dsimp only at H); have A3 := Aside0.mk A30; clear A30; replace H := Option.bind_eq_some_iff.mp H; obtain ⟨t820, A40, H⟩ := H; (try dsimp only at H); have A4 := Aside0.mk A40; clear A40; obtain ⟨y821, hy821⟩ : ∃ y_ : List Int, y_ = (([t819, t820] : List Int)) := ⟨_, rfl⟩
 replace H : ((cmp_Or_int.f k y821).bind fun t824 => (some t824)) = some r := by first | (rw [hy821]; with_reducible exact H) | (have H2_ := (Option.bind_some _ _).symm.trans H; rw [hy821]; with_reducible exact H2_) | (have H2_ := (Option.bind_some _ _).symm.trans H; with_reducible exact H2_) | with_reducible exact H | (rw [hy821]; exact H) | exact H
 have Ny821 := Aside0.mk hy821; clear hy821; replace H := Option.bind_eq_some_iff.mp H; obtain ⟨t824, A50, H⟩ := H; (try dsimp only at H); have A5 := Aside0.mk A50; clear A50; obtain rfl := Option.some.inj H
 go_enter Try.func48, Try.ntmps48
 try go_wp2_with (first | ((with_reducible refine gate_dst (N := 2) rfl ?_); refine box_event ?hg (N := 2) ?hd (cs := #[.int .i64 a0_0, .int .i64 a0_1]) (t := 60) ?hr ?_; (case hd => rfl); (case hg => rfl); (case hr => first | (go_simp; done) | (go_simp; rfl)); intro gb817 hg w6 hbox hb; have BK817 := Aside0.mk (hbox); have GW817 := kS HB hg; have GE817 := kS HB hg; replace HB := kB HB hb; clear hb hbox hg) | ((with_reducible refine gate_dst (N := 3) rfl ?_); refine box_event ?hg (N := 3) ?hd (cs := #[.int .i64 a1_0, .int .i64 a1_1]) (t := 60) ?hr ?_; (case hd => rfl); (case hg => rfl); (case hr => first | (go_simp; done) | (go_simp; rfl)); intro gb818 hg w7 hbox hb; have BK818 := Aside0.mk (hbox); have GW818 := kS HB hg; have GE818 := kS HB hg; have NB817_818 := kN BK817 hg; have NB818_817 := kM BK817 hg; replace BK817 := kb BK817 hb; replace HB := kB HB hb; clear hb hbox hg))
 replace BK817 := Aside0.mk (blk_drew BK817.out); replace BK818 := Aside0.mk (blk_drew BK818.out); replace HB := Aside0.mk (below_drew1 HB.out); refine start_ (n := 13) (S := fun w' => w'.cell? ⟨gb817, 0, none⟩ = some (.int .i64 a0_0) ∧ w'.cell? ⟨gb817, 1, none⟩ = some (.int .i64 a0_1) ∧ w'.cell? ⟨gb818, 0, none⟩ = some (.int .i64 a1_0) ∧ w'.cell? ⟨gb818, 1, none⟩ = some (.int .i64 a1_1)) (ds := []) #[O, O, O, O, O, O, O, O, O, O, O, O, O] (by kernel_rfl) rfl rfl ⟨kc BK817 0, kc BK817 1, kc BK818 0, kc BK818 1⟩ (fun hHeld => ?_); refine with_tabW grid_Cmp.tab1 grid_Cmp.bits1 (fun HT_ HW_ => ?_)
 generalize w7.drew = w8 at BK817 BK818 HB hHeld ⊢
 refine pure_ (i := 0) (N := some 5) (v := ?_) (a' := ?_) #[T, O, O, O, O, O, O, O, O, O, O, O, O] rfl rfl (any_of HT_.out (by kernel_rfl)) (fun _ _ _ h => h) (Or.inl ⟨by rfl, ?_⟩) ?_ ?_; rotate_left; focus (intro w'; go_simp; with_reducible rfl)
 rotate_left; focus (simp only [Act.put, s1, s2, s3, i64_w, i32_w]; rfl)
 refine pure_ (i := 2) (N := some 7) (v := ?_) (a' := ?_) #[T, O, T, O, O, O, O, O, O, O, O, O, O] rfl rfl (any_of HT_.out (by kernel_rfl)) (fun _ _ _ h => h) (Or.inl ⟨by rfl, ?_⟩) ?_ ?_; rotate_left; focus (intro w'; go_simp; with_reducible rfl)
 rotate_left; focus (simp only [Act.put, s1, s2, s3, i64_w, i32_w]; rfl)
 refine pure_ (i := 5) (N := some 10) (v := ?_) (a' := ?_) #[T, O, T, O, O, T, O, O, O, O, O, O, O] rfl rfl (any_of HT_.out (by kernel_rfl)) (fun _ _ _ h => h) (Or.inl ⟨by rfl, ?_⟩) ?_ ?_; rotate_left; focus (intro w'; go_simp; with_reducible rfl)
 rotate_left; focus (simp only [Act.put, s1, s2, s3, i64_w, i32_w]; rfl)
 refine pure_ (i := 7) (N := some 12) (v := ?_) (a' := ?_) #[T, O, T, O, O, T, O, T, O, O, O, O, O] rfl rfl (any_of HT_.out (by kernel_rfl)) (fun _ _ _ h => h) (Or.inl ⟨by rfl, ?_⟩) ?_ ?_; rotate_left; focus (intro w'; go_simp; with_reducible rfl)
 rotate_left; focus (simp only [Act.put, s1, s2, s3, i64_w, i32_w]; rfl)
 refine take_ (i := 1) (N := some 6) (v := ?_) (a' := ?_) #[T, T, T, O, O, T, O, T, O, O, O, O, O] rfl rfl (take_ofW HT_.out HW_.out (by kernel_rfl)) (fun _ _ _ h => h) (Or.inl ⟨by rfl, ?_⟩) hHeld ?_ ?_; rotate_left; focus (rintro w' ⟨s0, s1, s2, s3⟩; go_simp; with_reducible rfl)
 rotate_left; focus (simp only [Act.put, s1, s2, s3, i64_w, i32_w]; rfl)
 refine take_ (i := 3) (N := some 8) (v := ?_) (a' := ?_) #[T, T, T, T, O, T, O, T, O, O, O, O, O] rfl rfl (take_ofW HT_.out HW_.out (by kernel_rfl)) (fun _ _ _ h => h) (Or.inl ⟨by rfl, ?_⟩) hHeld ?_ ?_; rotate_left; focus (rintro w' ⟨s0, s1, s2, s3⟩; go_simp; with_reducible rfl)
 rotate_left; focus (simp only [Act.put, s1, s2, s3, i64_w, i32_w]; rfl)
 refine take_ (i := 6) (N := some 11) (v := ?_) (a' := ?_) #[T, T, T, T, O, T, T, T, O, O, O, O, O] rfl rfl (take_ofW HT_.out HW_.out (by kernel_rfl)) (fun _ _ _ h => h) (Or.inl ⟨by rfl, ?_⟩) hHeld ?_ ?_; rotate_left; focus (rintro w' ⟨s0, s1, s2, s3⟩; go_simp; with_reducible rfl)
 rotate_left; focus (simp only [Act.put, s1, s2, s3, i64_w, i32_w]; rfl)
 refine take_ (i := 8) (N := some 13) (v := ?_) (a' := ?_) #[T, T, T, T, O, T, T, T, T, O, O, O, O] rfl rfl (take_ofW HT_.out HW_.out (by kernel_rfl)) (fun _ _ _ h => h) (Or.inl ⟨by rfl, ?_⟩) hHeld ?_ ?_; rotate_left; focus (rintro w' ⟨s0, s1, s2, s3⟩; go_simp; with_reducible rfl)
 rotate_left; focus (simp only [Act.put, s1, s2, s3, i64_w, i32_w]; rfl)
 refine one_ (i := 4) (N := some 9) #[T, T, T, T, T, T, T, T, T, O, O, O, O] rfl rfl (one_of HT_.out (by kernel_rfl)) (by decide) (fun K hK => ?_); refine gS Try.func71 #[.int .i64 a0_0, .int .i64 a1_0] ?_
 with_reducible refine (cmp_Compare_int.calls a0_0 a1_0 t819 _ A3.out).mono ?_
 rintro e w' ⟨rfl, ⟨nd, rfl⟩⟩; refine ⟨_, rfl, ?_⟩; refine hK.out _ _ ⟨kc BK817 0, kc BK817 1, kc BK818 0, kc BK818 1⟩ (fun hHeld => ?_); clear hK K
 refine norm_ (a' := ?_) ?_ ?_; rotate_left; focus (show Act.put _ (some 9) _ = _; simp only [Act.put, s1, s2, s3, i64_w, i32_w]; rfl)
 refine one_ (i := 9) (N := some 14) #[T, T, T, T, T, T, T, T, T, T, O, O, O] rfl rfl (one_of HT_.out (by kernel_rfl)) (by decide) (fun K hK => ?_); refine gS Try.func71 #[.int .i64 a0_1, .int .i64 a1_1] ?_
 with_reducible refine (cmp_Compare_int.calls a0_1 a1_1 t820 _ A4.out).mono ?_
 rintro e w' ⟨rfl, ⟨nd, rfl⟩⟩; refine ⟨_, rfl, ?_⟩; refine hK.out _ _ ⟨kc BK817 0, kc BK817 1, kc BK818 0, kc BK818 1⟩ (fun hHeld => ?_); clear hK K
 refine norm_ (a' := ?_) ?_ ?_; rotate_left; focus (show Act.put _ (some 14) _ = _; simp only [Act.put, s1, s2, s3, i64_w, i32_w]; rfl)
 refine one_ (i := 10) (N := some 15) #[T, T, T, T, T, T, T, T, T, T, T, O, O] rfl rfl (one_of HT_.out (by kernel_rfl)) (by decide) (fun K hK => ?_)
 refine Kd.R_lit_step (Kd.int .i64) _ 3 ?hg (N := 15) ?hd (xs := ([t819, t820] : List Int)) (inner := [.int .i64 t819, .int .i64 t820]) (ok := fun _ => True) (okp := fun _ => True) ?hr ?hp (fun _ hk => hk) trivial (Below.refl _ _) (Nat.le_refl _) (by simp) ?_; (case hd => rfl); (case hg => rfl); (case hr => first | (go_simp; done) | (go_simp; rfl)); (case hp => exact (Reps.one (show Kd.M (Kd.int .i64) _ _ _ t819 [.int .i64 t819] from rfl) (Reps.one (show Kd.M (Kd.int .i64) _ _ _ t820 [.int .i64 t820] from rfl) (Reps.none _ _))))
 intro v822 w9 ho10 hb hg_ hnew_; clear hg_ hnew_
 (first | rw [← Ny821.out] at ho10 | (simp only [Int.reduceToNat] at ho10; rw [← Ny821.out] at ho10))
 have HO823 := Aside0.mk (Kd.R_lower ho10 (ko HB)); replace BK817 := kb BK817 hb; replace BK818 := kb BK818 hb; replace HB := kB HB hb; clear hb ho10; obtain ⟨Ao11, co11, eo11⟩ := Kd.R_slice HO823.out
 (first | subst eo11 | (injection eo11 with f1_ f2_ f3_; have f4_ := f1_.symm; have f5_ := f3_.symm; clear f1_ f2_ f3_; subst f4_; subst f5_))
 refine hK.out _ _ ⟨kc BK817 0, kc BK817 1, kc BK818 0, kc BK818 1⟩ (fun hHeld => ?_); clear hK K
 refine norm_ (a' := ?_) ?_ ?_; rotate_left; focus (show Act.put _ (some 15) _ = _; simp only [Act.put, s1, s2, s3, i64_w, i32_w]; rfl)
 refine one_ (i := 11) (N := some 16) #[T, T, T, T, T, T, T, T, T, T, T, T, O] rfl rfl (one_of HT_.out (by kernel_rfl)) (by decide) (fun K hK => ?_); refine gS Try.func62 #[.slice Ao11 y821.length co11] ?_
 with_reducible refine (cmp_Or_int.calls k _ _ y821 t824 _ ?side1 ?side2 A5.out).mono ?_
 (case side1 => exact kQ ((Kd.R_reads' HO823.out).2.2))
 (case side2 => exact (Kd.R_reads' HO823.out).2.1)
 rintro e w' ⟨rfl, ⟨nd, rfl⟩⟩; refine ⟨_, rfl, ?_⟩; refine hK.out _ _ ⟨kc BK817 0, kc BK817 1, kc BK818 0, kc BK818 1⟩ (fun hHeld => ?_); clear hK K
 refine norm_ (a' := ?_) ?_ ?_; rotate_left; focus (show Act.put _ (some 16) _ = _; simp only [Act.put, s1, s2, s3, i64_w, i32_w]; rfl)
 refine pure_ (i := 12) (N := some 4) (v := ?_) (a' := ?_) #[T, T, T, T, T, T, T, T, T, T, T, T, T] rfl rfl (any_of HT_.out (by kernel_rfl)) (fun _ _ _ h => h) (Or.inl ⟨by rfl, ?_⟩) ?_ ?_; rotate_left; focus (intro w'; go_simp; with_reducible rfl)
 rotate_left; focus (simp only [Act.put, s1, s2, s3, i64_w, i32_w]; rfl)
 refine done_ (done_of HT_.out (by kernel_rfl)) ?_
 try go_wp2
 go_ret
 exact ⟨by first | rfl | (simp [errW_none, errW_some] <;> rfl) | (simp [*, errW_none, errW_some] <;> rfl), ky HB⟩

/-! ### cobweblaw03_alive: function 38 -/
def cobweblaw03_alive.f (k : Nat)  : Option (Bool) := (grid_Of.f 6 (-6) 2).bind fun bt825 => ((wide_Of.f 7).bind fun bt828 => ((wide_Of.f 2).bind fun bt830 => ((frac_Of.f 3).bind fun bt832 => ((grid_At.f k bt828.1 bt828.2 bt830.1 bt830.2 bt832.1 bt832.2.1 bt832.2.2.1 bt832.2.2.2 1).bind fun bt836 => ((grid_Sides.f bt825.1 bt825.2 2).bind fun bt840 => (if (bt825.1 == 2 && (bt825.2 == (-1))) = true then (if bt836.2.2 = true then (if (bt836.1 == 2 && (bt836.2.1 == 2)) = true then ((grid_Center.f bt825.1 bt825.2 2).bind fun bt846 => (if (bt846.1 == 8 && (bt846.2 == (-4))) = true then (if (bt840.1 == 12 && (bt840.2.1 == (-12))) = true then (if (bt840.2.2.1 == 20 && (bt840.2.2.2 == (-4))) = true then ((grid_Cmp.f k bt825.1 bt825.2 bt836.1 bt836.2.1).bind fun t848 => (if t848 = (-1) then ((grid_Snap.f 6 2).bind fun t849 => (if t849 = 2 then ((grid_Right.f 28).bind fun t850 => (if t850 = true then ((grid_Right.f 29).bind fun t851 => (if t851 = true then (none) else ((grid_In.f bt825.1 bt825.2 2).bind fun t852 => (some t852)))) else (none))) else (none))) else (none))) else (none)) else (none)) else (none))) else (none)) else (none)) else (none)))))))
theorem cobweblaw03_alive.mono : ∀ k, LeO (cobweblaw03_alive.f k ) (cobweblaw03_alive.f (k + 1) ) := by
 intro  k
 unfold cobweblaw03_alive.f
 repeat' first
   | (with_reducible exact grid_At.mono _ _ _ _ _ _ _ _ _ _)
   | (with_reducible exact grid_Cmp.mono _ _ _ _ _)
   | (with_reducible exact LeO.refl _)
   | (with_reducible exact LeO.none _)
   | (with_reducible refine LeO.ite ?_ ?_)
   | (with_reducible refine LeO.bind ?_ (fun _ => ?_))
   | exact grid_At.mono _ _ _ _ _ _ _ _ _ _
   | exact grid_Cmp.mono _ _ _ _ _
   | exact LeO.none _
   | refine LeO.ite ?_ ?_
   | refine LeO.bind ?_ (fun _ => ?_)
set_option maxHeartbeats 8000000 in
set_option maxRecDepth 100000 in
theorem cobweblaw03_alive.calls (k : Nat)  (r : Bool) (w : World) (h : cobweblaw03_alive.f k  = some r) :
  Calls Try.prog 38 #[] w fun e w' => e = .returned (.bool r) ∧ Below w.heap.size w w' := by
 have hu62 := Try.underlying62; have hu60 := Try.underlying60; have hu26 := Try.underlying26; have HB := Aside0.mk (Below.refl w.heap.size w); have H : ((grid_Of.f 6 (-6) 2).bind fun bt825 => ((wide_Of.f 7).bind fun bt828 => ((wide_Of.f 2).bind fun bt830 => ((frac_Of.f 3).bind fun bt832 => ((grid_At.f k bt828.1 bt828.2 bt830.1 bt830.2 bt832.1 bt832.2.1 bt832.2.2.1 bt832.2.2.2 1).bind fun bt836 => ((grid_Sides.f bt825.1 bt825.2 2).bind fun bt840 => (if (bt825.1 == 2 && (bt825.2 == (-1))) = true then (if bt836.2.2 = true then (if (bt836.1 == 2 && (bt836.2.1 == 2)) = true then ((grid_Center.f bt825.1 bt825.2 2).bind fun bt846 => (if (bt846.1 == 8 && (bt846.2 == (-4))) = true then (if (bt840.1 == 12 && (bt840.2.1 == (-12))) = true then (if (bt840.2.2.1 == 20 && (bt840.2.2.2 == (-4))) = true then ((grid_Cmp.f k bt825.1 bt825.2 bt836.1 bt836.2.1).bind fun t848 => (if t848 = (-1) then ((grid_Snap.f 6 2).bind fun t849 => (if t849 = 2 then ((grid_Right.f 28).bind fun t850 => (if t850 = true then ((grid_Right.f 29).bind fun t851 => (if t851 = true then (none) else ((grid_In.f bt825.1 bt825.2 2).bind fun t852 => (some t852)))) else (none))) else (none))) else (none))) else (none)) else (none)) else (none))) else (none)) else (none)) else (none)))))))) = some r := h; clear h; replace H := Option.bind_eq_some_iff.mp H; obtain ⟨⟨t825, t826⟩, A10, H⟩ := H
 (try dsimp only at H); have A1 := Aside0.mk A10; clear A10; replace H := Option.bind_eq_some_iff.mp H; obtain ⟨⟨t828, t829⟩, A20, H⟩ := H; (try dsimp only at H); have A2 := Aside0.mk A20; clear A20; replace H := Option.bind_eq_some_iff.mp H; obtain ⟨⟨t830, t831⟩, A30, H⟩ := H
 (try dsimp only at H); have A3 := Aside0.mk A30; clear A30; replace H := Option.bind_eq_some_iff.mp H; obtain ⟨⟨t832, t833, t834, t835⟩, A40, H⟩ := H; (try dsimp only at H); have A4 := Aside0.mk A40; clear A40; replace H := Option.bind_eq_some_iff.mp H; obtain ⟨⟨t836, t837, t838⟩, A50, H⟩ := H
 (try dsimp only at H); have A5 := Aside0.mk A50; clear A50; replace H := Option.bind_eq_some_iff.mp H; obtain ⟨⟨t840, t841, t842, t843⟩, A60, H⟩ := H; (try dsimp only at H); have A6 := Aside0.mk A60; clear A60
 by_cases c7 : (t825 == 2 && (t826 == (-1))) = true
 rotate_left
 ·rw [if_neg c7] at H
  exact absurd H (by simp)

 rw [if_pos c7] at H
 have c7b0 : (t825 == 2 && (t826 == (-1))) = true := c7
 (try (have c7b1 : decide (t825 = 2 && (t826 == (-1))) = true := by simpa using c7))
 (try (have c7b2 : (t825 == 2 && (t826 == (-1))) = true := by simpa using c7))
 clear c7
 by_cases c8 : t838 = true
 rotate_left
 ·replace c8 := Bool.eq_false_iff.mpr c8; subst c8
  rw [if_neg (show ¬ (false = true) by decide)] at H; exact absurd H (by simp)
 subst c8
 rw [if_pos rfl] at H
 by_cases c9 : (t836 == 2 && (t837 == 2)) = true
 rotate_left
 ·rw [if_neg c9] at H
  exact absurd H (by simp)
 rw [if_pos c9] at H
 have c9b0 : (t836 == 2 && (t837 == 2)) = true := c9
 (try (have c9b1 : decide (t836 = 2 && (t837 == 2)) = true := by simpa using c9))
 (try (have c9b2 : (t836 == 2 && (t837 == 2)) = true := by simpa using c9))
 clear c9; replace H := Option.bind_eq_some_iff.mp H; obtain ⟨⟨t846, t847⟩, A100, H⟩ := H; (try dsimp only at H); have A10 := Aside0.mk A100; clear A100
 by_cases c11 : (t846 == 8 && (t847 == (-4))) = true
 rotate_left
 ·rw [if_neg c11] at H
  exact absurd H (by simp)
 rw [if_pos c11] at H
 have c11b0 : (t846 == 8 && (t847 == (-4))) = true := c11
 (try (have c11b1 : decide (t846 = 8 && (t847 == (-4))) = true := by simpa using c11))
 (try (have c11b2 : (t846 == 8 && (t847 == (-4))) = true := by simpa using c11))
 clear c11
 by_cases c12 : (t840 == 12 && (t841 == (-12))) = true
 rotate_left
 ·rw [if_neg c12] at H
  exact absurd H (by simp)
 rw [if_pos c12] at H
 have c12b0 : (t840 == 12 && (t841 == (-12))) = true := c12
 (try (have c12b1 : decide (t840 = 12 && (t841 == (-12))) = true := by simpa using c12))
 (try (have c12b2 : (t840 == 12 && (t841 == (-12))) = true := by simpa using c12))
 clear c12
 by_cases c13 : (t842 == 20 && (t843 == (-4))) = true
 rotate_left
 ·rw [if_neg c13] at H
  exact absurd H (by simp)
 rw [if_pos c13] at H
 have c13b0 : (t842 == 20 && (t843 == (-4))) = true := c13
 (try (have c13b1 : decide (t842 = 20 && (t843 == (-4))) = true := by simpa using c13))
 (try (have c13b2 : (t842 == 20 && (t843 == (-4))) = true := by simpa using c13))
 clear c13; replace H := Option.bind_eq_some_iff.mp H; obtain ⟨t848, A140, H⟩ := H; (try dsimp only at H); have A14 := Aside0.mk A140; clear A140
 by_cases c15 : t848 = (-1)
 rotate_left
 ·rw [if_neg c15] at H
  exact absurd H (by simp)
 rw [if_pos c15] at H
 have c15b0 : (t848 == (-1)) = true := beq_iff_eq.mpr c15; have c15b1 : (t848 != (-1)) = false := bne_eq_false_iff_eq.mpr c15; clear c15; replace H := Option.bind_eq_some_iff.mp H; obtain ⟨t849, A160, H⟩ := H; (try dsimp only at H); have A16 := Aside0.mk A160; clear A160
 by_cases c17 : t849 = 2
 rotate_left
 ·rw [if_neg c17] at H
  exact absurd H (by simp)
 rw [if_pos c17] at H
 have c17b0 : (t849 == 2) = true := beq_iff_eq.mpr c17; have c17b1 : (t849 != 2) = false := bne_eq_false_iff_eq.mpr c17; clear c17; replace H := Option.bind_eq_some_iff.mp H; obtain ⟨t850, A180, H⟩ := H; (try dsimp only at H); have A18 := Aside0.mk A180; clear A180
 by_cases c19 : t850 = true
 rotate_left
 ·replace c19 := Bool.eq_false_iff.mpr c19; subst c19
  rw [if_neg (show ¬ (false = true) by decide)] at H; exact absurd H (by simp)
 subst c19
 rw [if_pos rfl] at H; replace H := Option.bind_eq_some_iff.mp H; obtain ⟨t851, A200, H⟩ := H; (try dsimp only at H); have A20 := Aside0.mk A200; clear A200
 by_cases c21 : t851 = true
 ·subst c21
  rw [if_pos rfl] at H; exact absurd H (by simp)
 replace c21 := Bool.eq_false_iff.mpr c21; subst c21
 rw [if_neg (show ¬ (false = true) by decide)] at H; replace H := Option.bind_eq_some_iff.mp H; obtain ⟨t852, A220, H⟩ := H; (try dsimp only at H); have A22 := Aside0.mk A220; clear A220; obtain rfl := Option.some.inj H
 go_enter Try.func38, Try.ntmps38
 go_wp2_with (first | ((with_reducible refine gate_callee (f := 37) rfl ?_); refine gL 7 Try.func37 #[.agg #[.int .i64 6, .int .i64 (-6)], .int .i64 2] ?_; (with_reducible refine (grid_Of.calls 6 (-6) 2 t825 t826 _ A1.out).mono ?_); rintro e w23 ⟨rfl, hb⟩; refine ⟨_, rfl, ?_⟩; replace HB := kB HB hb; (try clear hb); (try clear hb2); (try clear hk); (try clear hi)) | ((with_reducible refine gate_dst (N := 1) rfl ?_); refine box_event ?hg (N := 1) ?hd (cs := #[.int .i64 0, .int .i64 0]) (t := 60) ?hr ?_; (case hd => rfl); (case hg => rfl); (case hr => first | (go_simp; done) | (go_simp; rfl)); intro gb827 hg w24 hbox hb; have BK827 := Aside0.mk (hbox); have GW827 := kS HB hg; have GE827 := kS HB hg; replace HB := kB HB hb; clear hb hbox hg; have hcz25_0 : w24.cell? ⟨gb827, 0, none⟩ = some (.int .i64 0) := kc BK827 0; have hcz25_1 : w24.cell? ⟨gb827, 1, none⟩ = some (.int .i64 0) := kc BK827 1; have hfz25_0 := blk_frozen BK827.out 0; have hfz25_1 := blk_frozen BK827.out 1) | ((with_reducible refine gate_callee (f := 24) rfl ?_); refine gL 9 Try.func24 #[.int .i64 7] ?_; (with_reducible refine (wide_Of.calls 7 t828 t829 _ A2.out).mono ?_); rintro e w26 ⟨rfl, hb⟩; refine ⟨_, rfl, ?_⟩; have n0_ := Aside0.mk (blk_below (g := gb827) (o := .cells #[.int .i64 t825, .int .i64 t826] 60 (0, 0)) (by (with_reducible repeat (first | refine zr ?_ _ | refine zw ?_ | refine za ?_ _)); refine blk_put (cs := #[.int .i64 t825, .int .i64 0]) ?_ 1 _ rfl; (with_reducible repeat (first | refine zr ?_ _ | refine zw ?_ | refine za ?_ _)); refine blk_put (cs := #[.int .i64 0, .int .i64 0]) ?_ 0 _ rfl; (with_reducible repeat (first | refine zr ?_ _ | refine zw ?_ | refine za ?_ _)); exact BK827.out) hb); have n1_ := kB HB hb; clear BK827; clear HB; have BK827 := n0_; have HB := n1_; clear n0_ n1_; (try clear hb); (try clear hb2); (try clear hk); (try clear hi)) | ((with_reducible refine gate_callee (f := 24) rfl ?_); refine gL 10 Try.func24 #[.int .i64 2] ?_; (with_reducible refine (wide_Of.calls 2 t830 t831 _ A3.out).mono ?_); rintro e w27 ⟨rfl, hb⟩; refine ⟨_, rfl, ?_⟩; replace BK827 := kb BK827 hb; replace HB := kB HB hb; (try clear hb); (try clear hb2); (try clear hk); (try clear hi)) | ((with_reducible refine gate_callee (f := 46) rfl ?_); refine gL 12 Try.func46 #[.int .i64 3] ?_; (with_reducible refine (frac_Of.calls 3 t832 t833 t834 t835 _ A4.out).mono ?_); rintro e w28 ⟨rfl, hb⟩; refine ⟨_, rfl, ?_⟩; replace BK827 := kb BK827 hb; replace HB := kB HB hb; (try clear hb); (try clear hb2); (try clear hk); (try clear hi)) | ((with_reducible refine gate_callee (f := 39) rfl ?_); refine gL 13 Try.func39 #[.agg #[.int .i64 t828, .int .u64 t829, .int .i64 t830, .int .u64 t831], .agg #[.int .i64 t832, .int .u64 t833, .int .i64 t834, .int .u64 t835], .int .i64 1] ?_; (with_reducible refine (grid_At.calls k t828 t829 t830 t831 t832 t833 t834 t835 1 t836 t837 true _ A5.out).mono ?_); rintro e w29 ⟨rfl, hb⟩; refine ⟨_, rfl, ?_⟩; replace BK827 := kb BK827 hb; replace HB := kB HB hb; (try clear hb); (try clear hb2); (try clear hk); (try clear hi)) | ((with_reducible refine gate_dst (N := 2) rfl ?_); refine box_event ?hg (N := 2) ?hd (cs := #[.int .i64 0, .int .i64 0]) (t := 60) ?hr ?_; (case hd => rfl); (case hg => rfl); (case hr => first | (go_simp; done) | (go_simp; rfl)); intro gb839 hg w30 hbox hb; have BK839 := Aside0.mk (hbox); have GW839 := kS HB hg; have GE839 := kS HB hg; have NB827_839 := kN BK827 hg; have NB839_827 := kM BK827 hg; replace BK827 := kb BK827 hb; replace HB := kB HB hb; clear hb hbox hg; have hnb31 := NB839_827.out; have hnc31 := NB827_839.out; have hcz32_0 : w30.cell? ⟨gb839, 0, none⟩ = some (.int .i64 0) := kc BK839 0; have hcz32_1 : w30.cell? ⟨gb839, 1, none⟩ = some (.int .i64 0) := kc BK839 1; have hfz32_0 := blk_frozen BK839.out 0; have hfz32_1 := blk_frozen BK839.out 1; have hcz33_0 : w30.cell? ⟨gb827, 0, none⟩ = some (.int .i64 t825) := kc BK827 0; have hcz33_1 : w30.cell? ⟨gb827, 1, none⟩ = some (.int .i64 t826) := kc BK827 1; have hfz33_0 := blk_frozen BK827.out 0; have hfz33_1 := blk_frozen BK827.out 1) | ((with_reducible refine gate_callee (f := 42) rfl ?_); refine gL 18 Try.func42 #[.agg #[.int .i64 t825, .int .i64 t826], .int .i64 2] ?_; (with_reducible refine (grid_Sides.calls t825 t826 2 t840 t841 t842 t843 _ A6.out).mono ?_); rintro e w34 ⟨rfl, hb⟩; refine ⟨_, rfl, ?_⟩; have n0_ := kb BK827 hb; have n1_ := Aside0.mk (blk_below (g := gb839) (o := .cells #[.int .i64 t836, .int .i64 t837] 60 (0, 0)) (by (with_reducible repeat (first | refine zr ?_ _ | refine zw ?_ | refine za ?_ _)); refine blk_put (cs := #[.int .i64 t836, .int .i64 0]) ?_ 1 _ rfl; (with_reducible repeat (first | refine zr ?_ _ | refine zw ?_ | refine za ?_ _)); refine blk_put (cs := #[.int .i64 0, .int .i64 0]) ?_ 0 _ rfl; (with_reducible repeat (first | refine zr ?_ _ | refine zw ?_ | refine za ?_ _)); exact BK839.out) hb); have n2_ := kB HB hb; clear BK827; clear BK839; clear HB; have BK827 := n0_; have BK839 := n1_; have HB := n2_; clear n0_ n1_ n2_; (try clear hb); (try clear hb2); (try clear hk); (try clear hi)) | ((with_reducible refine gate_dst (N := 4) rfl ?_); refine box_event ?hg (N := 4) ?hd (cs := #[.int .i64 0, .int .i64 0]) (t := 62) ?hr ?_; (case hd => rfl); (case hg => rfl); (case hr => first | (go_simp; done) | (go_simp; rfl)); intro gb844 hg w35 hbox hb; have BK844 := Aside0.mk (hbox); have GW844 := kS HB hg; have GE844 := kS HB hg; have NB827_844 := kN BK827 hg; have NB844_827 := kM BK827 hg; have NB839_844 := kN BK839 hg; have NB844_839 := kM BK839 hg; replace BK827 := kb BK827 hb; replace BK839 := kb BK839 hb; replace HB := kB HB hb; clear hb hbox hg) | ((with_reducible refine gate_dst (N := 5) rfl ?_); refine box_event ?hg (N := 5) ?hd (cs := #[.int .i64 0, .int .i64 0]) (t := 62) ?hr ?_; (case hd => rfl); (case hg => rfl); (case hr => first | (go_simp; done) | (go_simp; rfl)); intro gb845 hg w36 hbox hb; have BK845 := Aside0.mk (hbox); have GW845 := kS HB hg; have GE845 := kS HB hg; have NB827_845 := kN BK827 hg; have NB845_827 := kM BK827 hg; have NB839_845 := kN BK839 hg; have NB845_839 := kM BK839 hg; have NB844_845 := kN BK844 hg; have NB845_844 := kM BK844 hg; replace BK827 := kb BK827 hb; replace BK839 := kb BK839 hb; replace BK844 := kb BK844 hb; replace HB := kB HB hb; clear hb hbox hg; have hnb37 := NB844_827.out; have hnc37 := NB827_844.out; have hnb38 := NB844_839.out; have hnc38 := NB839_844.out; have hnb39 := NB844_845.out; have hnc39 := NB845_844.out; have hcz40_0 : w36.cell? ⟨gb844, 0, none⟩ = some (.int .i64 0) := kc BK844 0; have hcz40_1 : w36.cell? ⟨gb844, 1, none⟩ = some (.int .i64 0) := kc BK844 1; have hfz40_0 := blk_frozen BK844.out 0; have hfz40_1 := blk_frozen BK844.out 1; have hnb41 := NB845_827.out; have hnc41 := NB827_845.out; have hnb42 := NB845_839.out; have hnc42 := NB839_845.out; have hcz43_0 : w36.cell? ⟨gb845, 0, none⟩ = some (.int .i64 0) := kc BK845 0; have hcz43_1 : w36.cell? ⟨gb845, 1, none⟩ = some (.int .i64 0) := kc BK845 1; have hfz43_0 := blk_frozen BK845.out 0; have hfz43_1 := blk_frozen BK845.out 1; have hcz44_0 : w36.cell? ⟨gb827, 0, none⟩ = some (.int .i64 t825) := kc BK827 0; have hcz44_1 : w36.cell? ⟨gb827, 1, none⟩ = some (.int .i64 t826) := kc BK827 1; have hfz44_0 := blk_frozen BK827.out 0; have hfz44_1 := blk_frozen BK827.out 1; have hcz45_0 : w36.cell? ⟨gb839, 0, none⟩ = some (.int .i64 t836) := kc BK839 0; have hcz45_1 : w36.cell? ⟨gb839, 1, none⟩ = some (.int .i64 t837) := kc BK839 1; have hfz45_0 := blk_frozen BK839.out 0; have hfz45_1 := blk_frozen BK839.out 1) | (go_at_call 41; (with_reducible refine (grid_Center.calls t825 t826 2 t846 t847 _ A10.out).mono ?_); rintro e w46 ⟨rfl, hb⟩; have n0_ := kb BK827 hb; have n1_ := kb BK839 hb; have n2_ := Aside0.mk (blk_below (g := gb844) (o := .cells #[.int .i64 t840, .int .i64 t841] 62 (0, 0)) (by (with_reducible repeat (first | refine zr ?_ _ | refine zw ?_ | refine za ?_ _)); refine blk_far ?_ NB844_845.out _; (with_reducible repeat (first | refine zr ?_ _ | refine zw ?_ | refine za ?_ _)); refine blk_far ?_ NB844_845.out _; (with_reducible repeat (first | refine zr ?_ _ | refine zw ?_ | refine za ?_ _)); refine blk_put (cs := #[.int .i64 t840, .int .i64 0]) ?_ 1 _ rfl; (with_reducible repeat (first | refine zr ?_ _ | refine zw ?_ | refine za ?_ _)); refine blk_put (cs := #[.int .i64 0, .int .i64 0]) ?_ 0 _ rfl; (with_reducible repeat (first | refine zr ?_ _ | refine zw ?_ | refine za ?_ _)); exact BK844.out) hb); have n3_ := Aside0.mk (blk_below (g := gb845) (o := .cells #[.int .i64 t842, .int .i64 t843] 62 (0, 0)) (by (with_reducible repeat (first | refine zr ?_ _ | refine zw ?_ | refine za ?_ _)); refine blk_put (cs := #[.int .i64 t842, .int .i64 0]) ?_ 1 _ rfl; (with_reducible repeat (first | refine zr ?_ _ | refine zw ?_ | refine za ?_ _)); refine blk_put (cs := #[.int .i64 0, .int .i64 0]) ?_ 0 _ rfl; (with_reducible repeat (first | refine zr ?_ _ | refine zw ?_ | refine za ?_ _)); refine blk_far ?_ NB845_844.out _; (with_reducible repeat (first | refine zr ?_ _ | refine zw ?_ | refine za ?_ _)); refine blk_far ?_ NB845_844.out _; (with_reducible repeat (first | refine zr ?_ _ | refine zw ?_ | refine za ?_ _)); exact BK845.out) hb); have n4_ := kB HB hb; clear BK827; clear BK839; clear BK844; clear BK845; clear HB; have BK827 := n0_; have BK839 := n1_; have BK844 := n2_; have BK845 := n3_; have HB := n4_; clear n0_ n1_ n2_ n3_ n4_; (try clear hb); (try clear hb2); (try clear hk); (try clear hi); have hcz47_0 : w46.cell? ⟨gb844, 0, none⟩ = some (.int .i64 t840) := kc BK844 0; have hcz47_1 : w46.cell? ⟨gb844, 1, none⟩ = some (.int .i64 t841) := kc BK844 1; have hfz47_0 := blk_frozen BK844.out 0; have hfz47_1 := blk_frozen BK844.out 1; have hcz48_0 : w46.cell? ⟨gb845, 0, none⟩ = some (.int .i64 t842) := kc BK845 0; have hcz48_1 : w46.cell? ⟨gb845, 1, none⟩ = some (.int .i64 t843) := kc BK845 1; have hfz48_0 := blk_frozen BK845.out 0; have hfz48_1 := blk_frozen BK845.out 1; have hcz49_0 : w46.cell? ⟨gb827, 0, none⟩ = some (.int .i64 t825) := kc BK827 0; have hcz49_1 : w46.cell? ⟨gb827, 1, none⟩ = some (.int .i64 t826) := kc BK827 1; have hfz49_0 := blk_frozen BK827.out 0; have hfz49_1 := blk_frozen BK827.out 1; have hcz50_0 : w46.cell? ⟨gb839, 0, none⟩ = some (.int .i64 t836) := kc BK839 0; have hcz50_1 : w46.cell? ⟨gb839, 1, none⟩ = some (.int .i64 t837) := kc BK839 1; have hfz50_0 := blk_frozen BK839.out 0; have hfz50_1 := blk_frozen BK839.out 1) | (go_at_call 48; (with_reducible refine (grid_Cmp.calls k t825 t826 t836 t837 t848 _ A14.out).mono ?_); rintro e w51 ⟨rfl, hb⟩; replace BK827 := kb BK827 hb; replace BK839 := kb BK839 hb; replace BK844 := kb BK844 hb; replace BK845 := kb BK845 hb; replace HB := kB HB hb; (try clear hb); (try clear hb2); (try clear hk); (try clear hi)) | (go_at_call 32; (with_reducible refine (grid_Snap.calls 6 2 t849 _ A16.out).mono ?_); rintro e w52 ⟨rfl, hb⟩; replace BK827 := kb BK827 hb; replace BK839 := kb BK839 hb; replace BK844 := kb BK844 hb; replace BK845 := kb BK845 hb; replace HB := kB HB hb; (try clear hb); (try clear hb2); (try clear hk); (try clear hi)) | (go_at_call 35; (with_reducible refine (grid_Right.calls 28 true _ A18.out).mono ?_); rintro e w' ⟨rfl, ⟨nd, rfl⟩⟩) | (go_at_call 35; (with_reducible refine (grid_Right.calls 29 false _ A20.out).mono ?_); rintro e w' ⟨rfl, ⟨nd, rfl⟩⟩; have hcz53_0 : w52.cell? ⟨gb827, 0, none⟩ = some (.int .i64 t825) := kc BK827 0; have hcz53_1 : w52.cell? ⟨gb827, 1, none⟩ = some (.int .i64 t826) := kc BK827 1; have hfz53_0 := blk_frozen BK827.out 0; have hfz53_1 := blk_frozen BK827.out 1) | (go_at_call 44; (with_reducible refine (grid_In.calls t825 t826 2 t852 _ A22.out).mono ?_); rintro e w54 ⟨rfl, hb⟩; replace BK827 := kb BK827 hb; replace BK839 := kb BK839 hb; replace BK844 := kb BK844 hb; replace BK845 := kb BK845 hb; replace HB := kB HB hb; (try clear hb); (try clear hb2); (try clear hk); (try clear hi)))
 go_ret
 exact ⟨by first | rfl | (simp [errW_none, errW_some] <;> rfl) | (simp [*, errW_none, errW_some] <;> rfl), ky HB⟩
end Go.Proofs.Ytpjbniihdndlmab.Q
