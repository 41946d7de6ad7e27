-- Printed by wip/pp.sh (a session's own turning of the kit's print) for this seat.
import Derived.Test.YtpjbniihdndlmaaQx0
import Derived.Test.YtpjbniihdndlmaaQx1
import Derived.Test.YtpjbniihdndlmaaQx6
namespace Go.Proofs.Ytpjbniihdndlmaa.Q
open Go.RowKit Go.Proofs.YtpjbniihdndlmaaW.PrintWords Go.Proofs.YtpjbniihdndlmaaW.PrintLast Go.Proofs.YtpjbniihdndlmaaW.PrintMore
open Go.Proofs.Ytpjbniihdndlmaa.H
attribute [local go_sem] hq_add64 hq_sub64 hq_not64 add64c_nn sub64c_nn sub64c_le
attribute [local go_sem] max2_int min2_int max_two min_two max_three min_three max_four min_four   -- for this text's walks alone
set_option linter.unusedVariables false
set_option linter.unusedSimpArgs false

attribute [local go_sem high] eqA24
/-! ### wide_Cmp: function 24 -/
def wide_Cmp.f (k : Nat) (a0_0 : Int) (a0_1 : Int) (a1_0 : Int) (a1_1 : Int) : Option (Int) := (cmp_Compare_int64.f a0_0 a1_0).bind fun t178 => ((cmp_Compare_uint64.f a0_1 a1_1).bind fun t179 => ((cmp_Or_int.f k (([t178, t179] : List Int))).bind fun t183 => (some t183)))
theorem wide_Cmp.mono : ∀ a0 a1 a2 a3 k, LeO (wide_Cmp.f k a0 a1 a2 a3) (wide_Cmp.f (k + 1) a0 a1 a2 a3) := by
 intro a0 a1 a2 a3 k
 unfold wide_Cmp.f
 repeat' first
   | (with_reducible exact cmp_Or_int.mono _ _)
   | (with_reducible exact LeO.refl _)
   | (with_reducible exact LeO.none _)
   | (with_reducible refine LeO.ite ?_ ?_)
   | (with_reducible refine LeO.bind ?_ (fun _ => ?_))
   | exact cmp_Or_int.mono _ _
   | exact LeO.none _
   | refine LeO.ite ?_ ?_
   | refine LeO.bind ?_ (fun _ => ?_)
def wide_Cmp.T1 : Bool × List (List Nat × List Nat) := (true, [([], []), ([0], [0]), ([], []), ([2], [2]), ([1, 3], [1, 3]), ([], []), ([5], [5]), ([], []), ([7], [7]), ([6, 8, 4], [6, 8]), ([4, 9], [4, 9]), ([10, 9], [10]), ([11, 11, 0, 1, 2, 3, 4, 5, 6, 7, 8, 9, 10, 11], [11])])
def wide_Cmp.B1 : List Nat := [0, 1, 0, 4, 15, 0, 32, 0, 128, 511, 1023, 2047, 4095]
theorem wide_Cmp.tab1 : rtab .any (opsOf Try.f24 1) = wide_Cmp.T1 := by kernel_rfl
theorem wide_Cmp.bits1 : waitsOk wide_Cmp.T1.2 wide_Cmp.B1 = true := by kernel_rfl
set_option maxHeartbeats 8000000 in
set_option maxRecDepth 100000 in
theorem wide_Cmp.calls (k : Nat) (a0_0 : Int) (a0_1 : Int) (a1_0 : Int) (a1_1 : Int) (r : Int) (w : World) (h : wide_Cmp.f k a0_0 a0_1 a1_0 a1_1 = some r) :
  Calls Try.prog 24 #[.agg #[.int .i64 a0_0, .int .u64 a0_1], .agg #[.int .i64 a1_0, .int .u64 a1_1]] w fun e w' => e = .returned (.int .i64 r) ∧ Below w.heap.size w w' := by
 have hu24 := Try.underlying24; have HB := Aside0.mk (Below.refl w.heap.size w); have H : ((cmp_Compare_int64.f a0_0 a1_0).bind fun t178 => ((cmp_Compare_uint64.f a0_1 a1_1).bind fun t179 => ((cmp_Or_int.f k (([t178, t179] : List Int))).bind fun t183 => (some t183)))) = some r := h; clear h; replace H := Option.bind_eq_some_iff.mp H; obtain ⟨t178, A30, H⟩ := H; replace H : ((cmp_Compare_uint64.f a0_1 a1_1).bind fun t179 => ((cmp_Or_int.f k (([t178, t179] : List Int))).bind fun t183 => (some t183))) = some r := H; have A3 := Aside0.mk A30; clear A30; replace H := Option.bind_eq_some_iff.mp H; obtain ⟨t179, A40, H⟩ := H; replace H : ((cmp_Or_int.f k (([t178, t179] : List Int))).bind fun t183 => (some t183)) = some r := H; have A4 := Aside0.mk A40; clear A40; obtain ⟨y180, hy180⟩ : ∃ y_ : List Int, y_ = (([t178, t179] : List Int)) := ⟨_, rfl⟩
 replace H : ((cmp_Or_int.f k y180).bind fun t183 => (some t183)) = some r := by first | (rw [hy180]; with_reducible exact H) | (have H2_ := (Option.bind_some _ _).symm.trans H; rw [hy180]; with_reducible exact H2_) | (have H2_ := (Option.bind_some _ _).symm.trans H; with_reducible exact H2_) | with_reducible exact H | (rw [hy180]; exact H) | exact H
 have Ny180 := Aside0.mk hy180; clear hy180; replace H := Option.bind_eq_some_iff.mp H; obtain ⟨t183, A50, H⟩ := H; replace H : (some t183) = some r := H; have A5 := Aside0.mk A50; clear A50; obtain rfl := Option.some.inj H
 go_enter Try.func24, Try.ntmps24
 try go_wp2_with (first | ((with_reducible refine gate_dst (N := 2) rfl ?_); refine box_event ?hg (N := 2) ?hd (cs := #[.int .i64 a0_0, .int .u64 a0_1]) (t := 24) ?hr ?_; (case hd => rfl); (case hg => rfl); (case hr => first | (go_simp; done) | (go_simp; rfl)); intro gb176 hg w6 hbox hb; have BK176 := Aside0.mk (hbox); have GW176 := kS HB hg; have GE176 := kS HB hg; replace HB := kB HB hb; clear hb hbox hg) | ((with_reducible refine gate_dst (N := 3) rfl ?_); refine box_event ?hg (N := 3) ?hd (cs := #[.int .i64 a1_0, .int .u64 a1_1]) (t := 24) ?hr ?_; (case hd => rfl); (case hg => rfl); (case hr => first | (go_simp; done) | (go_simp; rfl)); intro gb177 hg w7 hbox hb; have BK177 := Aside0.mk (hbox); have GW177 := kS HB hg; have GE177 := kS HB hg; have NB176_177 := kN BK176 hg; have NB177_176 := kM BK176 hg; replace BK176 := kb BK176 hb; replace HB := kB HB hb; clear hb hbox hg))
 replace BK176 := Aside0.mk (blk_drew BK176.out); replace BK177 := Aside0.mk (blk_drew BK177.out); replace HB := Aside0.mk (below_drew1 HB.out); refine start_ (n := 13) (S := fun w' => w'.cell? ⟨gb176, 0, none⟩ = some (.int .i64 a0_0) ∧ w'.cell? ⟨gb176, 1, none⟩ = some (.int .u64 a0_1) ∧ w'.cell? ⟨gb177, 0, none⟩ = some (.int .i64 a1_0) ∧ w'.cell? ⟨gb177, 1, none⟩ = some (.int .u64 a1_1)) (ds := []) #[O, O, O, O, O, O, O, O, O, O, O, O, O] (by kernel_rfl) rfl rfl ⟨kc BK176 0, kc BK176 1, kc BK177 0, kc BK177 1⟩ (fun hHeld => ?_); refine with_tabW wide_Cmp.tab1 wide_Cmp.bits1 (fun HT_ HW_ => ?_)
 generalize w7.drew = w8 at BK176 BK177 HB hHeld ⊢
 refine pure_ (i := 0) (N := some 5) (v := ?_) (a' := ?_) #[T, O, O, O, O, O, O, O, O, O, O, O, O] rfl rfl (any_of HT_.out (by kernel_rfl)) (fun _ _ _ h => h) (Or.inl ⟨by rfl, ?_⟩) ?_ ?_; rotate_left; focus (intro w'; go_simp; with_reducible rfl)
 rotate_left; focus (simp only [Act.put, s1, s2, s3, i64_w, i32_w]; rfl)
 refine pure_ (i := 2) (N := some 7) (v := ?_) (a' := ?_) #[T, O, T, O, O, O, O, O, O, O, O, O, O] rfl rfl (any_of HT_.out (by kernel_rfl)) (fun _ _ _ h => h) (Or.inl ⟨by rfl, ?_⟩) ?_ ?_; rotate_left; focus (intro w'; go_simp; with_reducible rfl)
 rotate_left; focus (simp only [Act.put, s1, s2, s3, i64_w, i32_w]; rfl)
 refine pure_ (i := 5) (N := some 10) (v := ?_) (a' := ?_) #[T, O, T, O, O, T, O, O, O, O, O, O, O] rfl rfl (any_of HT_.out (by kernel_rfl)) (fun _ _ _ h => h) (Or.inl ⟨by rfl, ?_⟩) ?_ ?_; rotate_left; focus (intro w'; go_simp; with_reducible rfl)
 rotate_left; focus (simp only [Act.put, s1, s2, s3, i64_w, i32_w]; rfl)
 refine pure_ (i := 7) (N := some 12) (v := ?_) (a' := ?_) #[T, O, T, O, O, T, O, T, O, O, O, O, O] rfl rfl (any_of HT_.out (by kernel_rfl)) (fun _ _ _ h => h) (Or.inl ⟨by rfl, ?_⟩) ?_ ?_; rotate_left; focus (intro w'; go_simp; with_reducible rfl)
 rotate_left; focus (simp only [Act.put, s1, s2, s3, i64_w, i32_w]; rfl)
 refine take_ (i := 1) (N := some 6) (v := ?_) (a' := ?_) #[T, T, T, O, O, T, O, T, O, O, O, O, O] rfl rfl (take_ofW HT_.out HW_.out (by kernel_rfl)) (fun _ _ _ h => h) (Or.inl ⟨by rfl, ?_⟩) hHeld ?_ ?_; rotate_left; focus (rintro w' ⟨s0, s1, s2, s3⟩; go_simp; with_reducible rfl)
 rotate_left; focus (simp only [Act.put, s1, s2, s3, i64_w, i32_w]; rfl)
 refine take_ (i := 3) (N := some 8) (v := ?_) (a' := ?_) #[T, T, T, T, O, T, O, T, O, O, O, O, O] rfl rfl (take_ofW HT_.out HW_.out (by kernel_rfl)) (fun _ _ _ h => h) (Or.inl ⟨by rfl, ?_⟩) hHeld ?_ ?_; rotate_left; focus (rintro w' ⟨s0, s1, s2, s3⟩; go_simp; with_reducible rfl)
 rotate_left; focus (simp only [Act.put, s1, s2, s3, i64_w, i32_w]; rfl)
 refine take_ (i := 6) (N := some 11) (v := ?_) (a' := ?_) #[T, T, T, T, O, T, T, T, O, O, O, O, O] rfl rfl (take_ofW HT_.out HW_.out (by kernel_rfl)) (fun _ _ _ h => h) (Or.inl ⟨by rfl, ?_⟩) hHeld ?_ ?_; rotate_left; focus (rintro w' ⟨s0, s1, s2, s3⟩; go_simp; with_reducible rfl)
 rotate_left; focus (simp only [Act.put, s1, s2, s3, i64_w, i32_w]; rfl)
 refine take_ (i := 8) (N := some 13) (v := ?_) (a' := ?_) #[T, T, T, T, O, T, T, T, T, O, O, O, O] rfl rfl (take_ofW HT_.out HW_.out (by kernel_rfl)) (fun _ _ _ h => h) (Or.inl ⟨by rfl, ?_⟩) hHeld ?_ ?_; rotate_left; focus (rintro w' ⟨s0, s1, s2, s3⟩; go_simp; with_reducible rfl)
 rotate_left; focus (simp only [Act.put, s1, s2, s3, i64_w, i32_w]; rfl)
 refine one_ (i := 4) (N := some 9) #[T, T, T, T, T, T, T, T, T, O, O, O, O] rfl rfl (one_of HT_.out (by kernel_rfl)) (by decide) (fun K hK => ?_); refine goes_ Try.func61 (by kernel_rfl) rfl #[.int .i64 a0_0, .int .i64 a1_0] (by rfl) rfl rfl (by (try simp only [zm, zc, zn]); first | done | rfl | (simp only [zd, zt]; rfl)) ?_
 with_reducible refine (cmp_Compare_int64.calls a0_0 a1_0 t178 _ A3.out).mono ?_
 rintro e w' ⟨rfl, ⟨nd, rfl⟩⟩; refine ⟨_, rfl, ?_⟩; refine hK.out _ _ ⟨kc BK176 0, kc BK176 1, kc BK177 0, kc BK177 1⟩ (fun hHeld => ?_); clear hK K
 refine norm_ (a' := ?_) ?_ ?_; rotate_left; focus (show Act.put _ (some 9) _ = _; simp only [Act.put, s1, s2, s3, i64_w, i32_w]; rfl)
 refine one_ (i := 9) (N := some 14) #[T, T, T, T, T, T, T, T, T, T, O, O, O] rfl rfl (one_of HT_.out (by kernel_rfl)) (by decide) (fun K hK => ?_); refine goes_ Try.func62 (by kernel_rfl) rfl #[.int .u64 a0_1, .int .u64 a1_1] (by rfl) rfl rfl (by (try simp only [zm, zc, zn]); first | done | rfl | (simp only [zd, zt]; rfl)) ?_
 with_reducible refine (cmp_Compare_uint64.calls a0_1 a1_1 t179 _ A4.out).mono ?_
 rintro e w' ⟨rfl, ⟨nd, rfl⟩⟩; refine ⟨_, rfl, ?_⟩; refine hK.out _ _ ⟨kc BK176 0, kc BK176 1, kc BK177 0, kc BK177 1⟩ (fun hHeld => ?_); clear hK K
 refine norm_ (a' := ?_) ?_ ?_; rotate_left; focus (show Act.put _ (some 14) _ = _; simp only [Act.put, s1, s2, s3, i64_w, i32_w]; rfl)
 refine one_ (i := 10) (N := some 15) #[T, T, T, T, T, T, T, T, T, T, T, O, O] rfl rfl (one_of HT_.out (by kernel_rfl)) (by decide) (fun K hK => ?_)
 refine Kd.R_lit_step (Kd.int .i64) _ 3 ?hg (N := 15) ?hd (xs := ([t178, t179] : List Int)) (inner := [.int .i64 t178, .int .i64 t179]) (ok := fun _ => True) (okp := fun _ => True) ?hr ?hp (fun _ hk => hk) trivial (Below.refl _ _) (Nat.le_refl _) (by simp) ?_; (case hd => rfl); (case hg => rfl); (case hr => first | (go_simp; done) | (go_simp; rfl)); (case hp => exact (Reps.one (show Kd.M (Kd.int .i64) _ _ _ t178 [.int .i64 t178] from rfl) (Reps.one (show Kd.M (Kd.int .i64) _ _ _ t179 [.int .i64 t179] from rfl) (Reps.none _ _))))
 intro v181 w9 ho10 hb hg_ hnew_; clear hg_ hnew_
 (first | rw [← Ny180.out] at ho10 | (simp only [Int.reduceToNat] at ho10; rw [← Ny180.out] at ho10))
 have HO182 := Aside0.mk (Kd.R_lower ho10 (ko HB)); replace BK176 := kb BK176 hb; replace BK177 := kb BK177 hb; replace HB := kB HB hb; clear hb ho10; obtain ⟨Ao11, co11, eo11⟩ := Kd.R_slice HO182.out
 (first | subst eo11 | (injection eo11 with f1_ f2_ f3_; have f4_ := f1_.symm; have f5_ := f3_.symm; clear f1_ f2_ f3_; subst f4_; subst f5_))
 refine hK.out _ _ ⟨kc BK176 0, kc BK176 1, kc BK177 0, kc BK177 1⟩ (fun hHeld => ?_); clear hK K
 refine norm_ (a' := ?_) ?_ ?_; rotate_left; focus (show Act.put _ (some 15) _ = _; simp only [Act.put, s1, s2, s3, i64_w, i32_w]; rfl)
 refine one_ (i := 11) (N := some 16) #[T, T, T, T, T, T, T, T, T, T, T, T, O] rfl rfl (one_of HT_.out (by kernel_rfl)) (by decide) (fun K hK => ?_); refine goes_ Try.func60 (by kernel_rfl) rfl #[.slice Ao11 y180.length co11] (by rfl) rfl rfl (by (try simp only [zm, zc, zn]); first | done | rfl | (simp only [zd, zt]; rfl)) ?_
 with_reducible refine (cmp_Or_int.calls k _ _ y180 t183 _ ?side1 ?side2 A5.out).mono ?_
 (case side1 => repeat (first | exact (Kd.R_reads' HO182.out).2.2 | (with_reducible refine Kd.C_alloc ?_ _) | (with_reducible refine Kd.C_drewN ?_ _) | (with_reducible refine Kd.C_drew ?_)))
 (case side2 => exact (Kd.R_reads' HO182.out).2.1)
 rintro e w' ⟨rfl, ⟨nd, rfl⟩⟩; refine ⟨_, rfl, ?_⟩; refine hK.out _ _ ⟨kc BK176 0, kc BK176 1, kc BK177 0, kc BK177 1⟩ (fun hHeld => ?_); clear hK K
 refine norm_ (a' := ?_) ?_ ?_; rotate_left; focus (show Act.put _ (some 16) _ = _; simp only [Act.put, s1, s2, s3, i64_w, i32_w]; rfl)
 refine pure_ (i := 12) (N := some 4) (v := ?_) (a' := ?_) #[T, T, T, T, T, T, T, T, T, T, T, T, T] rfl rfl (any_of HT_.out (by kernel_rfl)) (fun _ _ _ h => h) (Or.inl ⟨by rfl, ?_⟩) ?_ ?_; rotate_left; focus (intro w'; go_simp; with_reducible rfl)
 rotate_left; focus (simp only [Act.put, s1, s2, s3, i64_w, i32_w]; rfl)
 refine done_ (done_of HT_.out (by kernel_rfl)) ?_
 try go_wp2
 go_ret
 exact ⟨by first | rfl | (simp [errW_none, errW_some] <;> rfl) | (simp [*, errW_none, errW_some] <;> rfl), ky HB⟩

/-! ### wide_Sign: function 26 -/
def wide_Sign.f (a0_0 : Int) (a0_1 : Int) : Option (Int) := if (a0_0 == 0 && (a0_1 == 0)) = true then (some 0) else (some (wrap64 (1 - (wrap64 (2 * (wrap64 ((IntKind.u64.wrap (a0_0)) / 9223372036854775808)))))))
set_option maxHeartbeats 8000000 in
set_option maxRecDepth 100000 in
theorem wide_Sign.calls (a0_0 : Int) (a0_1 : Int) (r : Int) (w : World) (h : wide_Sign.f a0_0 a0_1 = some r) :
  Calls Try.prog 26 #[.agg #[.int .i64 a0_0, .int .u64 a0_1]] w fun e w' => e = .returned (.int .i64 r) ∧ Below w.heap.size w w' := by
 have hu24 := Try.underlying24; have HB := Aside0.mk (Below.refl w.heap.size w); have H : (if (a0_0 == 0 && (a0_1 == 0)) = true then (some 0) else (some (wrap64 (1 - (wrap64 (2 * (wrap64 ((IntKind.u64.wrap (a0_0)) / 9223372036854775808)))))))) = some r := h; clear h
 by_cases c2 : (a0_0 == 0 && (a0_1 == 0)) = true
 ·rw [if_pos c2] at H
  have c2b0 : (a0_0 == 0 && (a0_1 == 0)) = true := c2
  (try (have c2b1 : decide (a0_0 = 0 && (a0_1 == 0)) = true := by simpa using c2))
  (try (have c2b2 : (a0_0 == 0 && (a0_1 == 0)) = true := by simpa using c2))
  clear c2; obtain rfl := Option.some.inj H
  go_enter Try.func26, Try.ntmps26
  go_wp2_with (first | ((with_reducible refine gate_dst (N := 1) rfl ?_); refine box_event ?hg (N := 1) ?hd (cs := #[.int .i64 a0_0, .int .u64 a0_1]) (t := 24) ?hr ?_; (case hd => rfl); (case hg => rfl); (case hr => first | (go_simp; done) | (go_simp; rfl)); intro gb184 hg w3 hbox hb; have BK184 := Aside0.mk (hbox); have GW184 := kS HB hg; have GE184 := kS HB hg; replace HB := kB HB hb; clear hb hbox hg; have hcz4_0 : w3.cell? ⟨gb184, 0, none⟩ = some (.int .i64 a0_0) := kc BK184 0; have hcz4_1 : w3.cell? ⟨gb184, 1, none⟩ = some (.int .u64 a0_1) := kc BK184 1; have hfz4_0 := blk_frozen BK184.out 0; have hfz4_1 := blk_frozen BK184.out 1))
  go_ret
  exact ⟨by first | rfl | (simp [errW_none, errW_some] <;> rfl) | (simp [*, errW_none, errW_some] <;> rfl), ky HB⟩
 rw [if_neg c2] at H
 have c2b0 : (a0_0 == 0 && (a0_1 == 0)) = false := by simpa using c2
 (try (have c2b1 : decide (a0_0 = 0 && (a0_1 == 0)) = false := by simpa using c2))
 (try (have c2b2 : (a0_0 == 0 && (a0_1 == 0)) = false := by simpa using c2))
 (try (have c2b3 : ¬ (a0_0 = 0 && (a0_1 == 0)) := by simpa using c2))
 clear c2; obtain rfl := Option.some.inj H
 go_enter Try.func26, Try.ntmps26
 go_wp2_with (first | ((with_reducible refine gate_dst (N := 1) rfl ?_); refine box_event ?hg (N := 1) ?hd (cs := #[.int .i64 a0_0, .int .u64 a0_1]) (t := 24) ?hr ?_; (case hd => rfl); (case hg => rfl); (case hr => first | (go_simp; done) | (go_simp; rfl)); intro gb184 hg w5 hbox hb; have BK184 := Aside0.mk (hbox); have GW184 := kS HB hg; have GE184 := kS HB hg; replace HB := kB HB hb; clear hb hbox hg; have hcz6_0 : w5.cell? ⟨gb184, 0, none⟩ = some (.int .i64 a0_0) := kc BK184 0; have hcz6_1 : w5.cell? ⟨gb184, 1, none⟩ = some (.int .u64 a0_1) := kc BK184 1; have hfz6_0 := blk_frozen BK184.out 0; have hfz6_1 := blk_frozen BK184.out 1))
 go_ret
 exact ⟨by first | rfl | (simp [errW_none, errW_some] <;> rfl) | (simp [*, errW_none, errW_some] <;> rfl), ky HB⟩

/-! ### wide_divide: function 64 -/
mutual
def wide_divide.l0 : Nat → Int → Int → Int → Int → Int → Int → Int → Int → Int → Option (Int × Int × Int × Int)
 | 0, _, _, _, _, _, _, _, _, _ => none
 | k + 1, x0, x1, x2, x3, x8, x9, x10, x11, x12 => if x12 ≥ 0 then (if 0 ≤ (Int.tmod x12 64) then (if x12 ≥ 64 then (if 0 ≤ (wrap64 (x12 - 64)) then (wide_divide.j1 k x0 x1 x2 x3 x8 x9 x10 x11 x12 (Go.bits .and .u64 (shr .u64 x0 (wrap64 (x12 - 64))) 1)) else (none)) else (wide_divide.j1 k x0 x1 x2 x3 x8 x9 x10 x11 x12 (Go.bits .and .u64 (shr .u64 x1 (Int.tmod x12 64)) 1))) else (none)) else (some (x8, x9, x10, x11))
def wide_divide.j1 : Nat → Int → Int → Int → Int → Int → Int → Int → Int → Int → Int → Option (Int × Int × Int × Int)
 | 0, _, _, _, _, _, _, _, _, _, _ => none
 | k + 1, x0, x1, x2, x3, x8, x9, x10, x11, x12, x13 => if (sub64c (Go.bits .or .u64 (IntKind.u64.wrap (x11 * 2)) x13) x3 0) ≤ 1 then (if (x10 / 9223372036854775808) = 1 then (wide_divide.l0 k x0 x1 x2 x3 (Go.bits .or .u64 (IntKind.u64.wrap (x8 * 2)) (x9 / 9223372036854775808)) (Go.bits .or .u64 (IntKind.u64.wrap (x9 * 2)) 1) (sub64s (Go.bits .or .u64 (IntKind.u64.wrap (x10 * 2)) (x11 / 9223372036854775808)) x2 (sub64c (Go.bits .or .u64 (IntKind.u64.wrap (x11 * 2)) x13) x3 0)) (sub64s (Go.bits .or .u64 (IntKind.u64.wrap (x11 * 2)) x13) x3 0) (wrap64 (x12 - 1))) else (if (sub64c (Go.bits .or .u64 (IntKind.u64.wrap (x10 * 2)) (x11 / 9223372036854775808)) x2 (sub64c (Go.bits .or .u64 (IntKind.u64.wrap (x11 * 2)) x13) x3 0)) = 0 then (wide_divide.l0 k x0 x1 x2 x3 (Go.bits .or .u64 (IntKind.u64.wrap (x8 * 2)) (x9 / 9223372036854775808)) (Go.bits .or .u64 (IntKind.u64.wrap (x9 * 2)) 1) (sub64s (Go.bits .or .u64 (IntKind.u64.wrap (x10 * 2)) (x11 / 9223372036854775808)) x2 (sub64c (Go.bits .or .u64 (IntKind.u64.wrap (x11 * 2)) x13) x3 0)) (sub64s (Go.bits .or .u64 (IntKind.u64.wrap (x11 * 2)) x13) x3 0) (wrap64 (x12 - 1))) else (wide_divide.l0 k x0 x1 x2 x3 (Go.bits .or .u64 (IntKind.u64.wrap (x8 * 2)) (x9 / 9223372036854775808)) (IntKind.u64.wrap (x9 * 2)) (Go.bits .or .u64 (IntKind.u64.wrap (x10 * 2)) (x11 / 9223372036854775808)) (Go.bits .or .u64 (IntKind.u64.wrap (x11 * 2)) x13) (wrap64 (x12 - 1))))) else (none)
end
def wide_divide.f (k : Nat) (a0 : Int) (a1 : Int) (a2 : Int) (a3 : Int) : Option (Int × Int × Int × Int) := wide_divide.l0 k a0 a1 a2 a3 0 0 0 0 127
theorem wide_divide.mono_l : ∀ k, (∀ y0 y1 y2 y3 y4 y5 y6 y7 y8, LeO (wide_divide.l0 k y0 y1 y2 y3 y4 y5 y6 y7 y8) (wide_divide.l0 (k + 1) y0 y1 y2 y3 y4 y5 y6 y7 y8)) ∧ (∀ y0 y1 y2 y3 y4 y5 y6 y7 y8 y9, LeO (wide_divide.j1 k y0 y1 y2 y3 y4 y5 y6 y7 y8 y9) (wide_divide.j1 (k + 1) y0 y1 y2 y3 y4 y5 y6 y7 y8 y9))
 | 0 => ⟨fun _ _ _ _ _ _ _ _ _ r h => by simp [wide_divide.l0] at h, fun _ _ _ _ _ _ _ _ _ _ r h => by simp [wide_divide.j1] at h⟩
 | k + 1 => by
  obtain ⟨ih0, ih1⟩ := wide_divide.mono_l k; refine ⟨?_, ?_⟩
  ·intro y0 y1 y2 y3 y4 y5 y6 y7 y8
   unfold wide_divide.l0
   repeat' first
   | (with_reducible exact ih0 _ _ _ _ _ _ _ _ _)
   | (with_reducible exact ih1 _ _ _ _ _ _ _ _ _ _)
   | (with_reducible exact LeO.refl _)
   | (with_reducible exact LeO.none _)
   | (with_reducible refine LeO.ite ?_ ?_)
   | (with_reducible refine LeO.bind ?_ (fun _ => ?_))
   | exact ih0 _ _ _ _ _ _ _ _ _
   | exact ih1 _ _ _ _ _ _ _ _ _ _
   | exact LeO.none _
   | refine LeO.ite ?_ ?_
   | refine LeO.bind ?_ (fun _ => ?_)
  ·intro y0 y1 y2 y3 y4 y5 y6 y7 y8 y9
   unfold wide_divide.j1
   repeat' first
   | (with_reducible exact ih0 _ _ _ _ _ _ _ _ _)
   | (with_reducible exact ih1 _ _ _ _ _ _ _ _ _ _)
   | (with_reducible exact LeO.refl _)
   | (with_reducible exact LeO.none _)
   | (with_reducible refine LeO.ite ?_ ?_)
   | (with_reducible refine LeO.bind ?_ (fun _ => ?_))
   | exact ih0 _ _ _ _ _ _ _ _ _
   | exact ih1 _ _ _ _ _ _ _ _ _ _
   | exact LeO.none _
   | refine LeO.ite ?_ ?_
   | refine LeO.bind ?_ (fun _ => ?_)
theorem wide_divide.mono : ∀ a0 a1 a2 a3 k, LeO (wide_divide.f k a0 a1 a2 a3) (wide_divide.f (k + 1) a0 a1 a2 a3) := by
 intro a0 a1 a2 a3 k; obtain ⟨ih0, ih1⟩ := wide_divide.mono_l k
 unfold wide_divide.f
 repeat' first
   | (with_reducible exact ih0 _ _ _ _ _ _ _ _ _)
   | (with_reducible exact ih1 _ _ _ _ _ _ _ _ _ _)
   | (with_reducible exact LeO.refl _)
   | (with_reducible exact LeO.none _)
   | (with_reducible refine LeO.ite ?_ ?_)
   | (with_reducible refine LeO.bind ?_ (fun _ => ?_))
   | exact ih0 _ _ _ _ _ _ _ _ _
   | exact ih1 _ _ _ _ _ _ _ _ _ _
   | exact LeO.none _
   | refine LeO.ite ?_ ?_
   | refine LeO.bind ?_ (fun _ => ?_)
set_option maxHeartbeats 8000000 in
set_option maxRecDepth 100000 in
theorem wide_divide.calls (k : Nat) (a0 : Int) (a1 : Int) (a2 : Int) (a3 : Int) (r1 : Int) (r2 : Int) (r3 : Int) (r4 : Int) (w : World) (h : wide_divide.f k a0 a1 a2 a3 = some (r1, r2, r3, r4)) :
  Calls Try.prog 64 #[.int .u64 a0, .int .u64 a1, .int .u64 a2, .int .u64 a3] w fun e w' => e = .returned (.tuple #[.int .u64 r1, .int .u64 r2, .int .u64 r3, .int .u64 r4]) ∧ Drawn0 w w' := by
 have H : (wide_divide.l0 k a0 a1 a2 a3 0 0 0 0 127) = some (r1, r2, r3, r4) := h; clear h; have H' := Aside0.mk H; clear H
 go_enter Try.func64, Try.ntmps64
 go_wp2_with (first | ((first | rw [hq_add64] | rw [hq_sub64]); rotate_left; (first | decide | exact add64c_nn _ _ _ | exact sub64c_nn _ _ _); (first | decide | exact sub64c_le _ _ _ | exact of_eq_true (by assumption))))
 go_loopg [8, 9, 10, 11, 12] k (fun kq v8 v9 v10 v11 v12 w' => ∃ (x8_1 : Int) (x9_1 : Int) (x10_1 : Int) (x11_1 : Int) (x12_1 : Int), v8 = .int .u64 x8_1 ∧ v9 = .int .u64 x9_1 ∧ v10 = .int .u64 x10_1 ∧ v11 = .int .u64 x11_1 ∧ v12 = .int .i64 x12_1 ∧ Aside0 (wide_divide.l0 kq a0 a1 a2 a3 x8_1 x9_1 x10_1 x11_1 x12_1 = some (r1, r2, r3, r4)) ∧ Aside0 (kq ≤ k) ∧ Drawn0 w w')
 case atStart => exact ⟨(0), (0), (0), (0), (127), (by first | rfl | (simp; done) | (simp [*]; done)), (by first | rfl | (simp; done) | (simp [*]; done)), (by first | rfl | (simp; done) | (simp [*]; done)), (by first | rfl | (simp; done) | (simp [*]; done)), (by first | rfl | (simp; done) | (simp [*]; done)), H', ⟨Nat.le_refl _⟩, by repeat (first | exact Drawn0.refl _ | apply Drawn0.step)⟩
 case round =>
  clear H'
  try clear p2
  obtain ⟨x8_1, x9_1, x10_1, x11_1, x12_1, rfl, rfl, rfl, rfl, rfl, HA, HK1, ⟨m1, rfl⟩⟩ := hrel
  cases gk with
  | zero => exact absurd HA.out (by simp [wide_divide.l0])
  | succ k1 =>
   have H := HA.out; clear HA
   simp only [wide_divide.l0] at H
   by_cases c5 : x12_1 ≥ 0
   rotate_left
   ·rw [if_neg c5] at H
    have c5b0 : decide (0 ≤ x12_1) = false := decide_eq_false c5; clear c5
    simp only [Option.some.injEq, Prod.mk.injEq] at H
    obtain ⟨rfl, rfl, rfl, rfl⟩ := H
    go_wp2_with (first | ((first | rw [hq_add64] | rw [hq_sub64]); rotate_left; (first | decide | exact add64c_nn _ _ _ | exact sub64c_nn _ _ _); (first | decide | exact sub64c_le _ _ _ | exact of_eq_true (by assumption))))
    refine bodyPost_ret (results_list (rs := [.tmp 8, .tmp 9, .tmp 10, .tmp 11]) rfl (by simp) (.tmp (.tmp (.tmp (.tmp .nil))))) rfl ?_; exact ⟨by first | rfl | (simp; done) | (simp [*]; done), by repeat (first | exact Drawn0.refl _ | apply Drawn0.step)⟩

   rw [if_pos c5] at H
   have c5b0 : decide (0 ≤ x12_1) = true := decide_eq_true c5; clear c5; obtain ⟨ji6, hji6⟩ : ∃ j_ : Int, (Int.tmod x12_1 64) = j_ := ⟨_, rfl⟩
   replace H : (if 0 ≤ (ji6) then (if x12_1 ≥ 64 then (if 0 ≤ (wrap64 (x12_1 - 64)) then (wide_divide.j1 k1 a0 a1 a2 a3 x8_1 x9_1 x10_1 x11_1 x12_1 (Go.bits .and .u64 (shr .u64 a0 (wrap64 (x12_1 - 64))) 1)) else (none)) else (wide_divide.j1 k1 a0 a1 a2 a3 x8_1 x9_1 x10_1 x11_1 x12_1 (Go.bits .and .u64 (shr .u64 a1 (ji6)) 1))) else (none)) = some (r1, r2, r3, r4) := by first | (rw [hji6] at H; exact H) | (simp only [hji6] at H ⊢; exact H)
   by_cases c7 : 0 ≤ (ji6)
   rotate_left
   ·rw [if_neg c7] at H
    exact absurd H (by simp)
   rw [if_pos c7] at H
   have c7b0 := eq_true c7; have c7b1 : decide (0 ≤ (ji6)) = true := decide_eq_true c7; clear c7; obtain ⟨ji8, hji8⟩ : ∃ j_ : Int, (shr .u64 a1 (ji6)) = j_ := ⟨_, rfl⟩
   replace H : (if x12_1 ≥ 64 then (if 0 ≤ (wrap64 (x12_1 - 64)) then (wide_divide.j1 k1 a0 a1 a2 a3 x8_1 x9_1 x10_1 x11_1 x12_1 (Go.bits .and .u64 (shr .u64 a0 (wrap64 (x12_1 - 64))) 1)) else (none)) else (wide_divide.j1 k1 a0 a1 a2 a3 x8_1 x9_1 x10_1 x11_1 x12_1 (Go.bits .and .u64 (ji8) 1))) = some (r1, r2, r3, r4) := by first | (rw [hji8] at H; exact H) | (simp only [hji8] at H ⊢; exact H)
   have hji8_ : (a1 / 2 ^ min (ji6).toNat 64) = ji8 := hji8; have hji8z : (ji6) ≤ 64 → (a1 / 2 ^ (ji6).toNat) = ji8 := shr_small hji8; have HC9 := Aside0.mk H; clear H
   go_upto_if 29 with (fail)
   go_cut [13] (fun v13 wc => ∃ (kq : Nat) (x13_8 : Int), v13 = .int .u64 x13_8 ∧ Aside0 (wide_divide.j1 kq a0 a1 a2 a3 x8_1 x9_1 x10_1 x11_1 x12_1 x13_8 = some (r1, r2, r3, r4)) ∧ Aside0 (kq ≤ k1) ∧ Drawn0 w wc)
   case first =>
    have H := HC9.out; clear HC9
    by_cases c10 : x12_1 ≥ 64
    rotate_left
    ·rw [if_neg c10] at H
     have c10b0 : decide (64 ≤ x12_1) = false := decide_eq_false c10; clear c10
     (first | rw [c10b0] | (simp only [i64_w, i32_w]; rw [c10b0]) | skip)
     have H' := Aside0.mk H; clear H
     go_wp2_with (first | ((first | rw [hq_add64] | rw [hq_sub64]); rotate_left; (first | decide | exact add64c_nn _ _ _ | exact sub64c_nn _ _ _); (first | decide | exact sub64c_le _ _ _ | exact of_eq_true (by assumption))))
     go_meet
     case rel => exact ⟨_, (Go.bits .and .u64 (ji8) 1), (by first | rfl | (simp; done) | (simp only [← hji8] <;> (first | rfl | simp)) | (simp [*]; done)), H', ⟨by have := HK1.out; first | omega | exact Nat.le_refl _⟩, by repeat (first | exact Drawn0.refl _ | apply Drawn0.step)⟩
    rw [if_pos c10] at H
    have c10b0 : decide (64 ≤ x12_1) = true := decide_eq_true c10; clear c10
    (first | rw [c10b0] | (simp only [i64_w, i32_w]; rw [c10b0]) | skip)
    obtain ⟨ji11, hji11⟩ : ∃ j_ : Int, (wrap64 (x12_1 - 64)) = j_ := ⟨_, rfl⟩
    replace H : (if 0 ≤ (ji11) then (wide_divide.j1 k1 a0 a1 a2 a3 x8_1 x9_1 x10_1 x11_1 x12_1 (Go.bits .and .u64 (shr .u64 a0 (ji11)) 1)) else (none)) = some (r1, r2, r3, r4) := by first | (rw [hji11] at H; exact H) | (simp only [hji11] at H ⊢; exact H)
    have hji11w : (IntKind.i64.wrap (x12_1 - 64)) = ji11 := (i64_w _).trans hji11
    by_cases c12 : 0 ≤ (ji11)
    rotate_left
    ·rw [if_neg c12] at H
     exact absurd H (by simp)
    rw [if_pos c12] at H
    have c12b0 := eq_true c12; have c12b1 : decide (0 ≤ (ji11)) = true := decide_eq_true c12; clear c12; obtain ⟨ji13, hji13⟩ : ∃ j_ : Int, (shr .u64 a0 (ji11)) = j_ := ⟨_, rfl⟩
    replace H : (wide_divide.j1 k1 a0 a1 a2 a3 x8_1 x9_1 x10_1 x11_1 x12_1 (Go.bits .and .u64 (ji13) 1)) = some (r1, r2, r3, r4) := by first | (rw [hji13] at H; exact H) | (simp only [hji13] at H ⊢; exact H)
    have hji13_ : (a0 / 2 ^ min (ji11).toNat 64) = ji13 := hji13; have hji13z : (ji11) ≤ 64 → (a0 / 2 ^ (ji11).toNat) = ji13 := shr_small hji13; have H' := Aside0.mk H; clear H
    go_wp2_with (first | ((first | rw [hq_add64] | rw [hq_sub64]); rotate_left; (first | decide | exact add64c_nn _ _ _ | exact sub64c_nn _ _ _); (first | decide | exact sub64c_le _ _ _ | exact of_eq_true (by assumption))))
    go_meet
    case rel => exact ⟨_, (Go.bits .and .u64 (ji13) 1), (by first | rfl | (simp; done) | (simp only [← hji13] <;> (first | rfl | simp)) | (simp [*]; done)), H', ⟨by have := HK1.out; first | omega | exact Nat.le_refl _⟩, by repeat (first | exact Drawn0.refl _ | apply Drawn0.step)⟩
   case rest =>
    clear HC9; try clear c1; try clear p2; try clear c5; try clear c5b0; try clear c6; try clear p6; try clear c7; try clear c7b0; try clear c7b1; try clear c10; try clear c10b0; try clear c12; try clear c12b0; try clear c12b1; try clear p2
    obtain ⟨kq, x13_8, rfl, HA, HJ8, ⟨mc8, rfl⟩⟩ := hcut
    cases kq with
    | zero => exact absurd HA.out (by simp [wide_divide.j1])
    | succ kj8 =>
     have H := HA.out; clear HA
     simp only [wide_divide.j1] at H
     by_cases c14 : (sub64c (Go.bits .or .u64 (IntKind.u64.wrap (x11_1 * 2)) x13_8) a3 0) ≤ 1
     rotate_left
     ·rw [if_neg c14] at H
      exact absurd H (by simp)
     rw [if_pos c14] at H
     have c14b0 := eq_true c14; have c14b1 : decide ((sub64c (Go.bits .or .u64 (IntKind.u64.wrap (x11_1 * 2)) x13_8) a3 0) ≤ 1) = true := decide_eq_true c14; clear c14
     by_cases c15 : (x10_1 / 9223372036854775808) = 1
     ·rw [if_pos c15] at H
      have c15b0 : ((x10_1 / 9223372036854775808) == 1) = true := beq_iff_eq.mpr c15; have c15b1 : ((x10_1 / 9223372036854775808) != 1) = false := bne_eq_false_iff_eq.mpr c15; clear c15; have H' := Aside0.mk H; clear H
      go_wp2_with (first | ((first | rw [hq_add64] | rw [hq_sub64]); rotate_left; (first | decide | exact add64c_nn _ _ _ | exact sub64c_nn _ _ _); (first | decide | exact sub64c_le _ _ _ | exact of_eq_true (by assumption))))
      go_roundg kj8
      case measure => have := HK1.out; have := HJ8.out; omega
      case rel => exact ⟨(Go.bits .or .u64 (IntKind.u64.wrap (x8_1 * 2)) (x9_1 / 9223372036854775808)), (Go.bits .or .u64 (IntKind.u64.wrap (x9_1 * 2)) 1), (sub64s (Go.bits .or .u64 (IntKind.u64.wrap (x10_1 * 2)) (x11_1 / 9223372036854775808)) a2 (sub64c (Go.bits .or .u64 (IntKind.u64.wrap (x11_1 * 2)) x13_8) a3 0)), (sub64s (Go.bits .or .u64 (IntKind.u64.wrap (x11_1 * 2)) x13_8) a3 0), (wrap64 (x12_1 - 1)), (by first | rfl | (simp; done) | (simp [*]; done)), (by first | rfl | (simp; done) | (simp [*]; done)), (by first | rfl | (simp; done) | (simp [*]; done)), (by first | rfl | (simp; done) | (simp [*]; done)), (by first | rfl | (simp; done) | (simp [*]; done)), H', ⟨by have := HK1.out; have := HJ8.out; omega⟩, by repeat (first | exact Drawn0.refl _ | apply Drawn0.step)⟩
     rw [if_neg c15] at H
     have c15b0 : ((x10_1 / 9223372036854775808) == 1) = false := beq_eq_false_iff_ne.mpr c15; have c15b1 : ((x10_1 / 9223372036854775808) != 1) = true := bne_iff_ne.mpr c15
     by_cases c16 : (sub64c (Go.bits .or .u64 (IntKind.u64.wrap (x10_1 * 2)) (x11_1 / 9223372036854775808)) a2 (sub64c (Go.bits .or .u64 (IntKind.u64.wrap (x11_1 * 2)) x13_8) a3 0)) = 0
     rotate_left
     ·rw [if_neg c16] at H
      have c16b0 : ((sub64c (Go.bits .or .u64 (IntKind.u64.wrap (x10_1 * 2)) (x11_1 / 9223372036854775808)) a2 (sub64c (Go.bits .or .u64 (IntKind.u64.wrap (x11_1 * 2)) x13_8) a3 0)) == 0) = false := beq_eq_false_iff_ne.mpr c16; have c16b1 : ((sub64c (Go.bits .or .u64 (IntKind.u64.wrap (x10_1 * 2)) (x11_1 / 9223372036854775808)) a2 (sub64c (Go.bits .or .u64 (IntKind.u64.wrap (x11_1 * 2)) x13_8) a3 0)) != 0) = true := bne_iff_ne.mpr c16; have H' := Aside0.mk H; clear H
      go_wp2_with (first | ((first | rw [hq_add64] | rw [hq_sub64]); rotate_left; (first | decide | exact add64c_nn _ _ _ | exact sub64c_nn _ _ _); (first | decide | exact sub64c_le _ _ _ | exact of_eq_true (by assumption))))
      go_roundg kj8
      case measure => have := HK1.out; have := HJ8.out; omega
      case rel => exact ⟨(Go.bits .or .u64 (IntKind.u64.wrap (x8_1 * 2)) (x9_1 / 9223372036854775808)), (IntKind.u64.wrap (x9_1 * 2)), (Go.bits .or .u64 (IntKind.u64.wrap (x10_1 * 2)) (x11_1 / 9223372036854775808)), (Go.bits .or .u64 (IntKind.u64.wrap (x11_1 * 2)) x13_8), (wrap64 (x12_1 - 1)), (by first | rfl | (simp; done) | (simp [*]; done)), (by first | rfl | (simp; done) | (simp [*]; done)), (by first | rfl | (simp; done) | (simp [*]; done)), (by first | rfl | (simp; done) | (simp [*]; done)), (by first | rfl | (simp; done) | (simp [*]; done)), H', ⟨by have := HK1.out; have := HJ8.out; omega⟩, by repeat (first | exact Drawn0.refl _ | apply Drawn0.step)⟩
     rw [if_pos c16] at H
     have c16b0 : ((sub64c (Go.bits .or .u64 (IntKind.u64.wrap (x10_1 * 2)) (x11_1 / 9223372036854775808)) a2 (sub64c (Go.bits .or .u64 (IntKind.u64.wrap (x11_1 * 2)) x13_8) a3 0)) == 0) = true := beq_iff_eq.mpr c16; have c16b1 : ((sub64c (Go.bits .or .u64 (IntKind.u64.wrap (x10_1 * 2)) (x11_1 / 9223372036854775808)) a2 (sub64c (Go.bits .or .u64 (IntKind.u64.wrap (x11_1 * 2)) x13_8) a3 0)) != 0) = false := bne_eq_false_iff_eq.mpr c16; clear c16; have H' := Aside0.mk H; clear H
     go_wp2_with (first | ((first | rw [hq_add64] | rw [hq_sub64]); rotate_left; (first | decide | exact add64c_nn _ _ _ | exact sub64c_nn _ _ _); (first | decide | exact sub64c_le _ _ _ | exact of_eq_true (by assumption))))
     go_roundg kj8
     case measure => have := HK1.out; have := HJ8.out; omega
     case rel => exact ⟨(Go.bits .or .u64 (IntKind.u64.wrap (x8_1 * 2)) (x9_1 / 9223372036854775808)), (Go.bits .or .u64 (IntKind.u64.wrap (x9_1 * 2)) 1), (sub64s (Go.bits .or .u64 (IntKind.u64.wrap (x10_1 * 2)) (x11_1 / 9223372036854775808)) a2 (sub64c (Go.bits .or .u64 (IntKind.u64.wrap (x11_1 * 2)) x13_8) a3 0)), (sub64s (Go.bits .or .u64 (IntKind.u64.wrap (x11_1 * 2)) x13_8) a3 0), (wrap64 (x12_1 - 1)), (by first | rfl | (simp; done) | (simp [*]; done)), (by first | rfl | (simp; done) | (simp [*]; done)), (by first | rfl | (simp; done) | (simp [*]; done)), (by first | rfl | (simp; done) | (simp [*]; done)), (by first | rfl | (simp; done) | (simp [*]; done)), H', ⟨by have := HK1.out; have := HJ8.out; omega⟩, by repeat (first | exact Drawn0.refl _ | apply Drawn0.step)⟩
/-! ### wide_Div: function 27 -/
def wide_Div.j0 : Nat → Bool → Int → Int → Int → Int → Int → Int → Option (Int × Int × Int × Int × Bool)
 | 0, _, _, _, _, _, _, _ => none
 | k + 1, x56, x187000, x187001, x188000, x188001, x189000, x189001 => if x56 = true then ((wide_Of.f (-1)).bind fun bt199 => ((wide_wrap.f x188000 x188001 bt199.1 bt199.2).bind fun bt201 => ((wide_turn.f x189000 x189001).bind fun bt203 => ((wide_wrap.f x187000 x187001 bt203.1 bt203.2).bind fun bt205 => (some (bt201.1, bt201.2, bt205.1, bt205.2, true)))))) else (some (x188000, x188001, x189000, x189001, true))
def wide_Div.f (k : Nat) (a0_0 : Int) (a0_1 : Int) (a1_0 : Int) (a1_1 : Int) : Option (Int × Int × Int × Int × Bool) := (wide_Sign.f a1_0 a1_1).bind fun t189 => (if t189 ≤ 0 then (some (0, 0, 0, 0, false)) else ((wide_size.f a0_0 a0_1).bind fun bt190 => ((wide_divide.f k bt190.1 bt190.2 (IntKind.u64.wrap (a1_0)) a1_1).bind fun bt192 => ((wide_signed.f bt192.1 bt192.2.1 (decide (a0_0 < 0))).bind fun bt196 => (if a0_0 < 0 then (wide_Div.j0 k (!((wrap64 (bt192.2.2.1)) == 0) || (!(bt192.2.2.2 == 0))) a1_0 a1_1 bt196.1 bt196.2.1 (wrap64 (bt192.2.2.1)) bt192.2.2.2) else (wide_Div.j0 k false a1_0 a1_1 bt196.1 bt196.2.1 (wrap64 (bt192.2.2.1)) bt192.2.2.2))))))
theorem wide_Div.mono_l : ∀ k, (∀ y0 y1 y2 y3 y4 y5 y6, LeO (wide_Div.j0 k y0 y1 y2 y3 y4 y5 y6) (wide_Div.j0 (k + 1) y0 y1 y2 y3 y4 y5 y6))
 | 0 => fun _ _ _ _ _ _ _ r h => by simp [wide_Div.j0] at h
 | k + 1 => by
  have ih0 := wide_Div.mono_l k
  ·intro y0 y1 y2 y3 y4 y5 y6
   unfold wide_Div.j0
   repeat' first
   | (with_reducible exact ih0 _ _ _ _ _ _ _)
   | (with_reducible exact wide_divide.mono _ _ _ _ _)
   | (with_reducible exact LeO.refl _)
   | (with_reducible exact LeO.none _)
   | (with_reducible refine LeO.ite ?_ ?_)
   | (with_reducible refine LeO.bind ?_ (fun _ => ?_))
   | exact ih0 _ _ _ _ _ _ _
   | exact wide_divide.mono _ _ _ _ _
   | exact LeO.none _
   | refine LeO.ite ?_ ?_
   | refine LeO.bind ?_ (fun _ => ?_)
theorem wide_Div.mono : ∀ a0 a1 a2 a3 k, LeO (wide_Div.f k a0 a1 a2 a3) (wide_Div.f (k + 1) a0 a1 a2 a3) := by
 intro a0 a1 a2 a3 k; have ih0 := wide_Div.mono_l k
 unfold wide_Div.f
 repeat' first
   | (with_reducible exact ih0 _ _ _ _ _ _ _)
   | (with_reducible exact wide_divide.mono _ _ _ _ _)
   | (with_reducible exact LeO.refl _)
   | (with_reducible exact LeO.none _)
   | (with_reducible refine LeO.ite ?_ ?_)
   | (with_reducible refine LeO.bind ?_ (fun _ => ?_))
   | exact ih0 _ _ _ _ _ _ _
   | exact wide_divide.mono _ _ _ _ _
   | exact LeO.none _
   | refine LeO.ite ?_ ?_
   | refine LeO.bind ?_ (fun _ => ?_)
set_option maxHeartbeats 8000000 in
set_option maxRecDepth 100000 in
theorem wide_Div.calls (k : Nat) (a0_0 : Int) (a0_1 : Int) (a1_0 : Int) (a1_1 : Int) (r1 : Int) (r2 : Int) (r3 : Int) (r4 : Int) (r5 : Bool) (w : World) (h : wide_Div.f k a0_0 a0_1 a1_0 a1_1 = some (r1, r2, r3, r4, r5)) :
  Calls Try.prog 27 #[.agg #[.int .i64 a0_0, .int .u64 a0_1], .agg #[.int .i64 a1_0, .int .u64 a1_1]] w fun e w' => e = .returned (.tuple #[.agg #[.int .i64 r1, .int .u64 r2], .agg #[.int .i64 r3, .int .u64 r4], .bool r5]) ∧ Below w.heap.size w w' := by
 have hu24 := Try.underlying24; have HB := Aside0.mk (Below.refl w.heap.size w); have H : ((wide_Sign.f a1_0 a1_1).bind fun t189 => (if t189 ≤ 0 then (some (0, 0, 0, 0, false)) else ((wide_size.f a0_0 a0_1).bind fun bt190 => ((wide_divide.f k bt190.1 bt190.2 (IntKind.u64.wrap (a1_0)) a1_1).bind fun bt192 => ((wide_signed.f bt192.1 bt192.2.1 (decide (a0_0 < 0))).bind fun bt196 => (if a0_0 < 0 then (wide_Div.j0 k (!((wrap64 (bt192.2.2.1)) == 0) || (!(bt192.2.2.2 == 0))) a1_0 a1_1 bt196.1 bt196.2.1 (wrap64 (bt192.2.2.1)) bt192.2.2.2) else (wide_Div.j0 k false a1_0 a1_1 bt196.1 bt196.2.1 (wrap64 (bt192.2.2.1)) bt192.2.2.2))))))) = some (r1, r2, r3, r4, r5) := h; clear h; replace H := Option.bind_eq_some_iff.mp H; obtain ⟨t189, A30, H⟩ := H; replace H : (if t189 ≤ 0 then (some (0, 0, 0, 0, false)) else ((wide_size.f a0_0 a0_1).bind fun bt190 => ((wide_divide.f k bt190.1 bt190.2 (IntKind.u64.wrap (a1_0)) a1_1).bind fun bt192 => ((wide_signed.f bt192.1 bt192.2.1 (decide (a0_0 < 0))).bind fun bt196 => (if a0_0 < 0 then (wide_Div.j0 k (!((wrap64 (bt192.2.2.1)) == 0) || (!(bt192.2.2.2 == 0))) a1_0 a1_1 bt196.1 bt196.2.1 (wrap64 (bt192.2.2.1)) bt192.2.2.2) else (wide_Div.j0 k false a1_0 a1_1 bt196.1 bt196.2.1 (wrap64 (bt192.2.2.1)) bt192.2.2.2)))))) = some (r1, r2, r3, r4, r5) := H; have A3 := Aside0.mk A30; clear A30
 by_cases c4 : t189 ≤ 0
 ·rw [if_pos c4] at H
  have c4b0 : decide (t189 ≤ 0) = true := decide_eq_true c4; clear c4
  simp only [Option.some.injEq, Prod.mk.injEq] at H
  obtain ⟨rfl, rfl, rfl, rfl, rfl⟩ := H
  go_enter Try.func27, Try.ntmps27
  go_wp2_with (first | ((with_reducible refine gate_dst (N := 2) rfl ?_); refine box_event ?hg (N := 2) ?hd (cs := #[.int .i64 a0_0, .int .u64 a0_1]) (t := 24) ?hr ?_; (case hd => rfl); (case hg => rfl); (case hr => first | (go_simp; done) | (go_simp; rfl)); intro gb185 hg w5 hbox hb; have BK185 := Aside0.mk (hbox); have GW185 := kS HB hg; have GE185 := kS HB hg; replace HB := kB HB hb; clear hb hbox hg) | ((with_reducible refine gate_dst (N := 3) rfl ?_); refine box_event ?hg (N := 3) ?hd (cs := #[.int .i64 a1_0, .int .u64 a1_1]) (t := 24) ?hr ?_; (case hd => rfl); (case hg => rfl); (case hr => first | (go_simp; done) | (go_simp; rfl)); intro gb186 hg w6 hbox hb; have BK186 := Aside0.mk (hbox); have GW186 := kS HB hg; have GE186 := kS HB hg; have NB185_186 := kN BK185 hg; have NB186_185 := kM BK185 hg; replace BK185 := kb BK185 hb; replace HB := kB HB hb; clear hb hbox hg) | ((with_reducible refine gate_dst (N := 4) rfl ?_); refine box_event ?hg (N := 4) ?hd (cs := #[.int .i64 0, .int .u64 0]) (t := 24) ?hr ?_; (case hd => rfl); (case hg => rfl); (case hr => first | (go_simp; done) | (go_simp; rfl)); intro gb187 hg w7 hbox hb; have BK187 := Aside0.mk (hbox); have GW187 := kS HB hg; have GE187 := kS HB hg; have NB185_187 := kN BK185 hg; have NB187_185 := kM BK185 hg; have NB186_187 := kN BK186 hg; have NB187_186 := kM BK186 hg; replace BK185 := kb BK185 hb; replace BK186 := kb BK186 hb; replace HB := kB HB hb; clear hb hbox hg) | ((with_reducible refine gate_dst (N := 5) rfl ?_); refine box_event ?hg (N := 5) ?hd (cs := #[.int .i64 0, .int .u64 0]) (t := 24) ?hr ?_; (case hd => rfl); (case hg => rfl); (case hr => first | (go_simp; done) | (go_simp; rfl)); intro gb188 hg w8 hbox hb; have BK188 := Aside0.mk (hbox); have GW188 := kS HB hg; have GE188 := kS HB hg; have NB185_188 := kN BK185 hg; have NB188_185 := kM BK185 hg; have NB186_188 := kN BK186 hg; have NB188_186 := kM BK186 hg; have NB187_188 := kN BK187 hg; have NB188_187 := kM BK187 hg; replace BK185 := kb BK185 hb; replace BK186 := kb BK186 hb; replace BK187 := kb BK187 hb; replace HB := kB HB hb; clear hb hbox hg; have hnb9 := NB186_185.out; have hnc9 := NB185_186.out; have hnb10 := NB186_187.out; have hnc10 := NB187_186.out; have hnb11 := NB186_188.out; have hnc11 := NB188_186.out; have hcz12_0 : w8.cell? ⟨gb186, 0, none⟩ = some (.int .i64 a1_0) := kc BK186 0; have hcz12_1 : w8.cell? ⟨gb186, 1, none⟩ = some (.int .u64 a1_1) := kc BK186 1; have hfz12_0 := blk_frozen BK186.out 0; have hfz12_1 := blk_frozen BK186.out 1) | ((with_reducible refine gate_callee (f := 26) rfl ?_); refine goesL_ (some 14) rfl rfl Try.func26 (by kernel_rfl) rfl #[.agg #[.int .i64 a1_0, .int .u64 a1_1]] rfl (by (try simp only [zm, zc, zn]); first | done | rfl | (simp only [zd, zt]; rfl)) ?_; (with_reducible refine (wide_Sign.calls a1_0 a1_1 t189 _ A3.out).mono ?_); rintro e w13 ⟨rfl, hb⟩; refine ⟨_, rfl, ?_⟩; replace BK185 := kb BK185 hb; replace BK186 := kb BK186 hb; replace BK187 := kb BK187 hb; replace BK188 := kb BK188 hb; replace HB := kB HB hb; (try clear hb); (try clear hb2); (try clear hk); (try clear hi); have hnb14 := NB187_185.out; have hnc14 := NB185_187.out; have hnb15 := NB187_188.out; have hnc15 := NB188_187.out; have hcz16_0 : w13.cell? ⟨gb187, 0, none⟩ = some (.int .i64 0) := kc BK187 0; have hcz16_1 : w13.cell? ⟨gb187, 1, none⟩ = some (.int .u64 0) := kc BK187 1; have hfz16_0 := blk_frozen BK187.out 0; have hfz16_1 := blk_frozen BK187.out 1; have hnb17 := NB188_185.out; have hnc17 := NB185_188.out; have hcz18_0 : w13.cell? ⟨gb188, 0, none⟩ = some (.int .i64 0) := kc BK188 0; have hcz18_1 : w13.cell? ⟨gb188, 1, none⟩ = some (.int .u64 0) := kc BK188 1; have hfz18_0 := blk_frozen BK188.out 0; have hfz18_1 := blk_frozen BK188.out 1))
  refine bodyPost_ret (results_list (rs := [.cell 4 24, .cell 5 24, .tmp 6]) rfl (by simp) (.cell gb187 24 #[.int .i64 0, .int .u64 0] (0, 0) _ rfl (by (with_reducible repeat (first | refine zr ?_ _ | refine zw ?_ | refine za ?_ _)); refine blk_far ?_ NB187_188.out _; (with_reducible repeat (first | refine zr ?_ _ | refine zw ?_ | refine za ?_ _)); refine blk_far ?_ NB187_188.out _; (with_reducible repeat (first | refine zr ?_ _ | refine zw ?_ | refine za ?_ _)); refine blk_put (cs := #[.int .i64 0, .int .u64 0]) ?_ 1 _ rfl; (with_reducible repeat (first | refine zr ?_ _ | refine zw ?_ | refine za ?_ _)); refine blk_put (cs := #[.int .i64 0, .int .u64 0]) ?_ 0 _ rfl; (with_reducible repeat (first | refine zr ?_ _ | refine zw ?_ | refine za ?_ _)); exact BK187.out) Try.underlying24 rfl (by kernel_rfl) (.cell gb188 24 #[.int .i64 0, .int .u64 0] (0, 0) _ rfl (by (with_reducible repeat (first | refine zr ?_ _ | refine zw ?_ | refine za ?_ _)); refine blk_put (cs := #[.int .i64 0, .int .u64 0]) ?_ 1 _ rfl; (with_reducible repeat (first | refine zr ?_ _ | refine zw ?_ | refine za ?_ _)); refine blk_put (cs := #[.int .i64 0, .int .u64 0]) ?_ 0 _ rfl; (with_reducible repeat (first | refine zr ?_ _ | refine zw ?_ | refine za ?_ _)); refine blk_far ?_ NB188_187.out _; (with_reducible repeat (first | refine zr ?_ _ | refine zw ?_ | refine za ?_ _)); refine blk_far ?_ NB188_187.out _; (with_reducible repeat (first | refine zr ?_ _ | refine zw ?_ | refine za ?_ _)); exact BK188.out) Try.underlying24 rfl (by kernel_rfl) (.tmp .nil)))) rfl ?_; exact ⟨by first | rfl | (simp [errW_none, errW_some] <;> rfl) | (simp [*, errW_none, errW_some] <;> rfl), ky HB⟩
 rw [if_neg c4] at H
 have c4b0 : decide (t189 ≤ 0) = false := decide_eq_false c4; clear c4; replace H := Option.bind_eq_some_iff.mp H; obtain ⟨⟨t190, t191⟩, A190, H⟩ := H; replace H : ((wide_divide.f k t190 t191 (IntKind.u64.wrap (a1_0)) a1_1).bind fun bt192 => ((wide_signed.f bt192.1 bt192.2.1 (decide (a0_0 < 0))).bind fun bt196 => (if a0_0 < 0 then (wide_Div.j0 k (!((wrap64 (bt192.2.2.1)) == 0) || (!(bt192.2.2.2 == 0))) a1_0 a1_1 bt196.1 bt196.2.1 (wrap64 (bt192.2.2.1)) bt192.2.2.2) else (wide_Div.j0 k false a1_0 a1_1 bt196.1 bt196.2.1 (wrap64 (bt192.2.2.1)) bt192.2.2.2)))) = some (r1, r2, r3, r4, r5) := H; have A19 := Aside0.mk A190; clear A190; replace H := Option.bind_eq_some_iff.mp H; obtain ⟨⟨t192, t193, t194, t195⟩, A200, H⟩ := H; replace H : ((wide_signed.f t192 t193 (decide (a0_0 < 0))).bind fun bt196 => (if a0_0 < 0 then (wide_Div.j0 k (!((wrap64 (t194)) == 0) || (!(t195 == 0))) a1_0 a1_1 bt196.1 bt196.2.1 (wrap64 (t194)) t195) else (wide_Div.j0 k false a1_0 a1_1 bt196.1 bt196.2.1 (wrap64 (t194)) t195))) = some (r1, r2, r3, r4, r5) := H; have A20 := Aside0.mk A200; clear A200; replace H := Option.bind_eq_some_iff.mp H; obtain ⟨⟨t196, t197, t198⟩, A210, H⟩ := H; replace H : (if a0_0 < 0 then (wide_Div.j0 k (!((wrap64 (t194)) == 0) || (!(t195 == 0))) a1_0 a1_1 t196 t197 (wrap64 (t194)) t195) else (wide_Div.j0 k false a1_0 a1_1 t196 t197 (wrap64 (t194)) t195)) = some (r1, r2, r3, r4, r5) := H; have A21 := Aside0.mk A210; clear A210; have HC22 := Aside0.mk H; clear H
 go_enter Try.func27, Try.ntmps27
 go_upto_region 7 with (first | ((with_reducible refine gate_dst (N := 2) rfl ?_); refine box_event ?hg (N := 2) ?hd (cs := #[.int .i64 a0_0, .int .u64 a0_1]) (t := 24) ?hr ?_; (case hd => rfl); (case hg => rfl); (case hr => first | (go_simp; done) | (go_simp; rfl)); intro gb185 hg w23 hbox hb; have BK185 := Aside0.mk (hbox); have GW185 := kS HB hg; have GE185 := kS HB hg; replace HB := kB HB hb; clear hb hbox hg) | ((with_reducible refine gate_dst (N := 3) rfl ?_); refine box_event ?hg (N := 3) ?hd (cs := #[.int .i64 a1_0, .int .u64 a1_1]) (t := 24) ?hr ?_; (case hd => rfl); (case hg => rfl); (case hr => first | (go_simp; done) | (go_simp; rfl)); intro gb186 hg w24 hbox hb; have BK186 := Aside0.mk (hbox); have GW186 := kS HB hg; have GE186 := kS HB hg; have NB185_186 := kN BK185 hg; have NB186_185 := kM BK185 hg; replace BK185 := kb BK185 hb; replace HB := kB HB hb; clear hb hbox hg) | ((with_reducible refine gate_dst (N := 4) rfl ?_); refine box_event ?hg (N := 4) ?hd (cs := #[.int .i64 0, .int .u64 0]) (t := 24) ?hr ?_; (case hd => rfl); (case hg => rfl); (case hr => first | (go_simp; done) | (go_simp; rfl)); intro gb187 hg w25 hbox hb; have BK187 := Aside0.mk (hbox); have GW187 := kS HB hg; have GE187 := kS HB hg; have NB185_187 := kN BK185 hg; have NB187_185 := kM BK185 hg; have NB186_187 := kN BK186 hg; have NB187_186 := kM BK186 hg; replace BK185 := kb BK185 hb; replace BK186 := kb BK186 hb; replace HB := kB HB hb; clear hb hbox hg) | ((with_reducible refine gate_dst (N := 5) rfl ?_); refine box_event ?hg (N := 5) ?hd (cs := #[.int .i64 0, .int .u64 0]) (t := 24) ?hr ?_; (case hd => rfl); (case hg => rfl); (case hr => first | (go_simp; done) | (go_simp; rfl)); intro gb188 hg w26 hbox hb; have BK188 := Aside0.mk (hbox); have GW188 := kS HB hg; have GE188 := kS HB hg; have NB185_188 := kN BK185 hg; have NB188_185 := kM BK185 hg; have NB186_188 := kN BK186 hg; have NB188_186 := kM BK186 hg; have NB187_188 := kN BK187 hg; have NB188_187 := kM BK187 hg; replace BK185 := kb BK185 hb; replace BK186 := kb BK186 hb; replace BK187 := kb BK187 hb; replace HB := kB HB hb; clear hb hbox hg; have hnb27 := NB186_185.out; have hnc27 := NB185_186.out; have hnb28 := NB186_187.out; have hnc28 := NB187_186.out; have hnb29 := NB186_188.out; have hnc29 := NB188_186.out; have hcz30_0 : w26.cell? ⟨gb186, 0, none⟩ = some (.int .i64 a1_0) := kc BK186 0; have hcz30_1 : w26.cell? ⟨gb186, 1, none⟩ = some (.int .u64 a1_1) := kc BK186 1; have hfz30_0 := blk_frozen BK186.out 0; have hfz30_1 := blk_frozen BK186.out 1) | ((with_reducible refine gate_callee (f := 26) rfl ?_); refine goesL_ (some 14) rfl rfl Try.func26 (by kernel_rfl) rfl #[.agg #[.int .i64 a1_0, .int .u64 a1_1]] rfl (by (try simp only [zm, zc, zn]); first | done | rfl | (simp only [zd, zt]; rfl)) ?_; (with_reducible refine (wide_Sign.calls a1_0 a1_1 t189 _ A3.out).mono ?_); rintro e w31 ⟨rfl, hb⟩; refine ⟨_, rfl, ?_⟩; replace BK185 := kb BK185 hb; replace BK186 := kb BK186 hb; replace BK187 := kb BK187 hb; replace BK188 := kb BK188 hb; replace HB := kB HB hb; (try clear hb); (try clear hb2); (try clear hk); (try clear hi); have hnb32 := NB185_187.out; have hnc32 := NB187_185.out; have hnb33 := NB185_188.out; have hnc33 := NB188_185.out; have hcz34_0 : w31.cell? ⟨gb185, 0, none⟩ = some (.int .i64 a0_0) := kc BK185 0; have hcz34_1 : w31.cell? ⟨gb185, 1, none⟩ = some (.int .u64 a0_1) := kc BK185 1; have hfz34_0 := blk_frozen BK185.out 0; have hfz34_1 := blk_frozen BK185.out 1) | ((with_reducible refine gate_callee (f := 51) rfl ?_); refine goesL_ (some 20) rfl rfl Try.func51 (by kernel_rfl) rfl #[.agg #[.int .i64 a0_0, .int .u64 a0_1]] rfl (by (try simp only [zm, zc, zn]); first | done | rfl | (simp only [zd, zt]; rfl)) ?_; (with_reducible refine (wide_size.calls a0_0 a0_1 t190 t191 _ A19.out).mono ?_); rintro e w35 ⟨rfl, hb⟩; refine ⟨_, rfl, ?_⟩; replace BK185 := kb BK185 hb; replace BK186 := kb BK186 hb; replace BK187 := kb BK187 hb; replace BK188 := kb BK188 hb; replace HB := kB HB hb; (try clear hb); (try clear hb2); (try clear hk); (try clear hi); have hcz36_0 : w35.cell? ⟨gb186, 0, none⟩ = some (.int .i64 a1_0) := kc BK186 0; have hcz36_1 : w35.cell? ⟨gb186, 1, none⟩ = some (.int .u64 a1_1) := kc BK186 1; have hfz36_0 := blk_frozen BK186.out 0; have hfz36_1 := blk_frozen BK186.out 1) | ((with_reducible refine gate_callee (f := 64) rfl ?_); refine goesL_ (some 31) rfl rfl Try.func64 (by kernel_rfl) rfl #[.int .u64 t190, .int .u64 t191, .int .u64 (IntKind.u64.wrap (a1_0)), .int .u64 a1_1] rfl (by (try simp only [zm, zc, zn]); first | done | rfl | (simp only [zd, zt]; rfl)) ?_; (with_reducible refine (wide_divide.calls k t190 t191 (IntKind.u64.wrap (a1_0)) a1_1 t192 t193 t194 t195 _ A20.out).mono ?_); rintro e w' ⟨rfl, ⟨nd, rfl⟩⟩; refine ⟨_, rfl, ?_⟩; (try (rw [drewN_self w35]; generalize hq_ : World.drewN w35 _ = w35; have n0_ : Aside0 (w35.heap[gb185]? = some (.cells #[.int .i64 a0_0, .int .u64 a0_1] 24 (0, 0))) := ⟨by rw [← hq_]; exact (kx BK185)⟩; have n1_ : Aside0 (w35.heap[gb186]? = some (.cells #[.int .i64 a1_0, .int .u64 a1_1] 24 (0, 0))) := ⟨by rw [← hq_]; exact (kx BK186)⟩; have n2_ : Aside0 (w35.heap[gb187]? = some (.cells #[.int .i64 0, .int .u64 0] 24 (0, 0))) := ⟨by rw [← hq_]; exact (kx BK187)⟩; have n3_ : Aside0 (w35.heap[gb188]? = some (.cells #[.int .i64 0, .int .u64 0] 24 (0, 0))) := ⟨by rw [← hq_]; exact (kx BK188)⟩; have n4_ : Aside0 (Below w.heap.size w w35) := ⟨by rw [← hq_]; exact (ky HB)⟩; clear BK185 BK186 BK187 BK188 HB hq_; have BK185 := n0_; have BK186 := n1_; have BK187 := n2_; have BK188 := n3_; have HB := n4_; clear n0_ n1_ n2_ n3_ n4_)); have hnb37 := NB188_187.out; have hnc37 := NB187_188.out; have hcz38_0 : w35.cell? ⟨gb188, 0, none⟩ = some (.int .i64 0) := kc BK188 0; have hcz38_1 : w35.cell? ⟨gb188, 1, none⟩ = some (.int .u64 0) := kc BK188 1; have hfz38_0 := blk_frozen BK188.out 0; have hfz38_1 := blk_frozen BK188.out 1; have hcz39_0 : w35.cell? ⟨gb185, 0, none⟩ = some (.int .i64 a0_0) := kc BK185 0; have hcz39_1 : w35.cell? ⟨gb185, 1, none⟩ = some (.int .u64 a0_1) := kc BK185 1; have hfz39_0 := blk_frozen BK185.out 0; have hfz39_1 := blk_frozen BK185.out 1) | ((with_reducible refine gate_callee (f := 54) rfl ?_); refine goesL_ (some 46) rfl rfl Try.func54 (by kernel_rfl) rfl #[.int .u64 t192, .int .u64 t193, .bool (decide (a0_0 < 0))] rfl (by (try simp only [zm, zc, zn]); first | done | rfl | (simp only [zd, zt]; rfl)) ?_; (with_reducible refine (wide_signed.calls t192 t193 (decide (a0_0 < 0)) t196 t197 t198 _ A21.out).mono ?_); rintro e w40 ⟨rfl, hb⟩; refine ⟨_, rfl, ?_⟩; have n0_ := kb BK185 hb; have n1_ := kb BK186 hb; have n2_ := kb BK187 hb; have n3_ := Aside0.mk (blk_below (g := gb188) (o := .cells #[.int .i64 (wrap64 (t194)), .int .u64 t195] 24 (0, 0)) (by (with_reducible repeat (first | refine zr ?_ _ | refine zw ?_ | refine za ?_ _)); refine blk_put (cs := #[.int .i64 (wrap64 (t194)), .int .u64 0]) ?_ 1 _ rfl; (with_reducible repeat (first | refine zr ?_ _ | refine zw ?_ | refine za ?_ _)); refine blk_put (cs := #[.int .i64 0, .int .u64 0]) ?_ 0 _ rfl; (with_reducible repeat (first | refine zr ?_ _ | refine zw ?_ | refine za ?_ _)); exact BK188.out) hb); have n4_ := kB HB hb; clear BK185; clear BK186; clear BK187; clear BK188; clear HB; have BK185 := n0_; have BK186 := n1_; have BK187 := n2_; have BK188 := n3_; have HB := n4_; clear n0_ n1_ n2_ n3_ n4_; (try clear hb); (try clear hb2); (try clear hk); (try clear hi); have hcz41_0 : w40.cell? ⟨gb187, 0, none⟩ = some (.int .i64 0) := kc BK187 0; have hcz41_1 : w40.cell? ⟨gb187, 1, none⟩ = some (.int .u64 0) := kc BK187 1; have hfz41_0 := blk_frozen BK187.out 0; have hfz41_1 := blk_frozen BK187.out 1))
 (try simp only [Act.put, s1, s2, s3])
 go_cut [56] (fun v56 wc => ∃ (kq : Nat) (x56_21 : Bool), v56 = .bool x56_21 ∧ Aside0 (wide_Div.j0 kq x56_21 a1_0 a1_1 t196 t197 (wrap64 (t194)) t195 = some (r1, r2, r3, r4, r5)) ∧ Aside0 (kq ≤ k) ∧ Aside0 (wc.heap[gb185]? = some (.cells #[.int .i64 a0_0, .int .u64 a0_1] 24 (0, 0))) ∧ Aside0 (wc.heap[gb186]? = some (.cells #[.int .i64 a1_0, .int .u64 a1_1] 24 (0, 0))) ∧ Aside0 (wc.heap[gb187]? = some (.cells #[.int .i64 t196, .int .u64 t197] 24 (0, 0))) ∧ Aside0 (wc.heap[gb188]? = some (.cells #[.int .i64 (wrap64 (t194)), .int .u64 t195] 24 (0, 0))) ∧ Aside0 (Below w.heap.size w wc))
 case first =>
  have H := HC22.out; clear HC22
  by_cases c42 : a0_0 < 0
  rotate_left
  ·rw [if_neg c42] at H
   have c42b0 : decide (a0_0 < 0) = false := decide_eq_false c42; clear c42
   (first | rw [c42b0] | (simp only [i64_w, i32_w]; rw [c42b0]) | skip)
   have H' := Aside0.mk H; clear H; have hnb50 := NB185_186.out; have hnc50 := NB186_185.out; have hnb51 := NB185_187.out; have hnc51 := NB187_185.out; have hnb52 := NB185_188.out; have hnc52 := NB188_185.out; obtain ⟨hcz53_0, hcz53_1⟩ := kc2 BK185; obtain ⟨hfz53_0, hfz53_1⟩ := kf2 BK185
   go_wp2
   go_meet
   case rel => exact ⟨_, (false), (by first | rfl | (simp; done) | (simp [*]; done)), H', ⟨by first | omega | exact Nat.le_refl _⟩, ⟨kx BK185⟩, ⟨kx BK186⟩, ⟨by (with_reducible repeat (first | refine zr ?_ _ | refine zw ?_ | refine za ?_ _)); refine blk_put (cs := #[.int .i64 t196, .int .u64 0]) ?_ 1 _ rfl; (with_reducible repeat (first | refine zr ?_ _ | refine zw ?_ | refine za ?_ _)); refine blk_put (cs := #[.int .i64 0, .int .u64 0]) ?_ 0 _ rfl; (with_reducible repeat (first | refine zr ?_ _ | refine zw ?_ | refine za ?_ _)); exact BK187.out⟩, ⟨kx BK188⟩, ⟨ky HB⟩⟩
  rw [if_pos c42] at H
  have c42b0 : decide (a0_0 < 0) = true := decide_eq_true c42; clear c42
  (first | rw [c42b0] | (simp only [i64_w, i32_w]; rw [c42b0]) | skip)
  have H' := Aside0.mk H; clear H; have hnb43 := NB185_186.out; have hnc43 := NB186_185.out; have hnb44 := NB185_187.out; have hnc44 := NB187_185.out; have hnb45 := NB185_188.out; have hnc45 := NB188_185.out; obtain ⟨hcz46_0, hcz46_1⟩ := kc2 BK185; obtain ⟨hfz46_0, hfz46_1⟩ := kf2 BK185; have hnb47 := NB188_186.out; have hnc47 := NB186_188.out; have hnb48 := NB188_187.out; have hnc48 := NB187_188.out; obtain ⟨hcz49_0, hcz49_1⟩ := kc2 BK188; obtain ⟨hfz49_0, hfz49_1⟩ := kf2 BK188
  go_wp2
  go_meet
  case rel => exact ⟨_, ((!((wrap64 (t194)) == 0) || (!(t195 == 0)))), (by first | rfl | (simp; done) | (simp [*]; done)), H', ⟨by first | omega | exact Nat.le_refl _⟩, ⟨kx BK185⟩, ⟨kx BK186⟩, ⟨by (with_reducible repeat (first | refine zr ?_ _ | refine zw ?_ | refine za ?_ _)); refine blk_put (cs := #[.int .i64 t196, .int .u64 0]) ?_ 1 _ rfl; (with_reducible repeat (first | refine zr ?_ _ | refine zw ?_ | refine za ?_ _)); refine blk_put (cs := #[.int .i64 0, .int .u64 0]) ?_ 0 _ rfl; (with_reducible repeat (first | refine zr ?_ _ | refine zw ?_ | refine za ?_ _)); exact BK187.out⟩, ⟨kx BK188⟩, ⟨ky HB⟩⟩
 case rest =>
  clear HC22; try clear c1; try clear c2; try clear p2; try clear c3; try clear c4; try clear c4b0; try clear c5; try clear c6; try clear p6; try clear c9; try clear c10; try clear c11; try clear c14; try clear c15; try clear c17; try clear c26; try clear c27; try clear c28; try clear c29; try clear c32; try clear c33; try clear c37; try clear c42; try clear c42b0; try clear c43; try clear c44; try clear c45; try clear c47; try clear c48; try clear c50; try clear c51; try clear c52; try clear hcz12_0; try clear hcz12_1; try clear hcz16_0; try clear hcz16_1; try clear hcz18_0; try clear hcz18_1; try clear hcz30_0; try clear hcz30_1; try clear hcz34_0; try clear hcz34_1; try clear hcz36_0; try clear hcz36_1; try clear hcz38_0; try clear hcz38_1; try clear hcz39_0; try clear hcz39_1; try clear hcz41_0; try clear hcz41_1; try clear hcz46_0; try clear hcz46_1; try clear hcz49_0; try clear hcz49_1; try clear hcz53_0; try clear hcz53_1; try clear hfz12_0; try clear hfz12_1; try clear hfz16_0; try clear hfz16_1; try clear hfz18_0; try clear hfz18_1; try clear hfz30_0; try clear hfz30_1; try clear hfz34_0; try clear hfz34_1; try clear hfz36_0; try clear hfz36_1; try clear hfz38_0; try clear hfz38_1; try clear hfz39_0; try clear hfz39_1; try clear hfz41_0; try clear hfz41_1; try clear hfz46_0; try clear hfz46_1; try clear hfz49_0; try clear hfz49_1; try clear hfz53_0; try clear hfz53_1
  obtain ⟨kq, x56_21, rfl, HA, HJ21, BK185, BK186, BK187, BK188, HB⟩ := hcut
  cases kq with
  | zero => exact absurd HA.out (by simp [wide_Div.j0])
  | succ kj21 =>
   have H := HA.out; clear HA
   simp only [wide_Div.j0] at H
   by_cases c54 : x56_21 = true
   rotate_left
   ·replace c54 := Bool.eq_false_iff.mpr c54; subst c54
    have H1 : (some (t196, t197, (wrap64 (t194)), t195, true)) = some (r1, r2, r3, r4, r5) := by rw [if_neg (show ¬ (false = true) by decide)] at H; exact H
    clear H; have H := H1; clear H1
    simp only [Option.some.injEq, Prod.mk.injEq] at H
    obtain ⟨rfl, rfl, rfl, rfl, rfl⟩ := H; have hnb77 := NB187_185.out; have hnc77 := NB185_187.out; have hnb78 := NB187_186.out; have hnc78 := NB186_187.out; have hnb79 := NB187_188.out; have hnc79 := NB188_187.out; obtain ⟨hcz80_0, hcz80_1⟩ := kc2 BK187; obtain ⟨hfz80_0, hfz80_1⟩ := kf2 BK187; have hnb81 := NB188_185.out; have hnc81 := NB185_188.out; have hnb82 := NB188_186.out; have hnc82 := NB186_188.out; obtain ⟨hcz83_0, hcz83_1⟩ := kc2 BK188; obtain ⟨hfz83_0, hfz83_1⟩ := kf2 BK188
    go_wp2_with fail
    go_region
    all_goals go_wp2
    refine bodyPost_ret (results_list (rs := [.cell 4 24, .cell 5 24, .tmp 6]) rfl (by simp) (.cell gb187 24 #[.int .i64 t196, .int .u64 t197] (0, 0) _ rfl (by (with_reducible repeat (first | refine zr ?_ _ | refine zw ?_ | refine za ?_ _)); refine blk_far ?_ NB187_188.out _; (with_reducible repeat (first | refine zr ?_ _ | refine zw ?_ | refine za ?_ _)); refine blk_far ?_ NB187_188.out _; (with_reducible repeat (first | refine zr ?_ _ | refine zw ?_ | refine za ?_ _)); refine blk_put (cs := #[.int .i64 t196, .int .u64 t197]) ?_ 1 _ rfl; (with_reducible repeat (first | refine zr ?_ _ | refine zw ?_ | refine za ?_ _)); refine blk_put (cs := #[.int .i64 t196, .int .u64 t197]) ?_ 0 _ rfl; (with_reducible repeat (first | refine zr ?_ _ | refine zw ?_ | refine za ?_ _)); exact BK187.out) Try.underlying24 rfl (by kernel_rfl) (.cell gb188 24 #[.int .i64 (wrap64 (t194)), .int .u64 t195] (0, 0) _ rfl (by (with_reducible repeat (first | refine zr ?_ _ | refine zw ?_ | refine za ?_ _)); refine blk_put (cs := #[.int .i64 (wrap64 (t194)), .int .u64 t195]) ?_ 1 _ rfl; (with_reducible repeat (first | refine zr ?_ _ | refine zw ?_ | refine za ?_ _)); refine blk_put (cs := #[.int .i64 (wrap64 (t194)), .int .u64 t195]) ?_ 0 _ rfl; (with_reducible repeat (first | refine zr ?_ _ | refine zw ?_ | refine za ?_ _)); refine blk_far ?_ NB188_187.out _; (with_reducible repeat (first | refine zr ?_ _ | refine zw ?_ | refine za ?_ _)); refine blk_far ?_ NB188_187.out _; (with_reducible repeat (first | refine zr ?_ _ | refine zw ?_ | refine za ?_ _)); exact BK188.out) Try.underlying24 rfl (by kernel_rfl) (.tmp .nil)))) rfl ?_; exact ⟨by first | rfl | (simp [errW_none, errW_some] <;> rfl) | (simp [*, errW_none, errW_some] <;> rfl), ky HB⟩

   subst c54
   have H1 : ((wide_Of.f (-1)).bind fun bt199 => ((wide_wrap.f t196 t197 bt199.1 bt199.2).bind fun bt201 => ((wide_turn.f (wrap64 (t194)) t195).bind fun bt203 => ((wide_wrap.f a1_0 a1_1 bt203.1 bt203.2).bind fun bt205 => (some (bt201.1, bt201.2, bt205.1, bt205.2, true)))))) = some (r1, r2, r3, r4, r5) := by rw [if_pos rfl] at H; exact H
   clear H; have H := H1; clear H1; replace H := Option.bind_eq_some_iff.mp H; obtain ⟨⟨t199, t200⟩, A550, H⟩ := H; replace H : ((wide_wrap.f t196 t197 t199 t200).bind fun bt201 => ((wide_turn.f (wrap64 (t194)) t195).bind fun bt203 => ((wide_wrap.f a1_0 a1_1 bt203.1 bt203.2).bind fun bt205 => (some (bt201.1, bt201.2, bt205.1, bt205.2, true))))) = some (r1, r2, r3, r4, r5) := H; have A55 := Aside0.mk A550; clear A550; replace H := Option.bind_eq_some_iff.mp H; obtain ⟨⟨t201, t202⟩, A560, H⟩ := H; replace H : ((wide_turn.f (wrap64 (t194)) t195).bind fun bt203 => ((wide_wrap.f a1_0 a1_1 bt203.1 bt203.2).bind fun bt205 => (some (t201, t202, bt205.1, bt205.2, true)))) = some (r1, r2, r3, r4, r5) := H; have A56 := Aside0.mk A560; clear A560; replace H := Option.bind_eq_some_iff.mp H; obtain ⟨⟨t203, t204⟩, A570, H⟩ := H; replace H : ((wide_wrap.f a1_0 a1_1 t203 t204).bind fun bt205 => (some (t201, t202, bt205.1, bt205.2, true))) = some (r1, r2, r3, r4, r5) := H; have A57 := Aside0.mk A570; clear A570; replace H := Option.bind_eq_some_iff.mp H; obtain ⟨⟨t205, t206⟩, A580, H⟩ := H; replace H : (some (t201, t202, t205, t206, true)) = some (r1, r2, r3, r4, r5) := H; have A58 := Aside0.mk A580; clear A580
   simp only [Option.some.injEq, Prod.mk.injEq] at H
   obtain ⟨rfl, rfl, rfl, rfl, rfl⟩ := H
   try go_wp2
   replace BK185 := Aside0.mk (blk_drew BK185.out); replace BK186 := Aside0.mk (blk_drew BK186.out); replace BK187 := Aside0.mk (blk_drew BK187.out); replace BK188 := Aside0.mk (blk_drew BK188.out); replace HB := Aside0.mk (below_drew1 HB.out); refine start_ (n := 4) (S := fun w' => w'.cell? ⟨gb187, 0, none⟩ = some (.int .i64 t196) ∧ w'.cell? ⟨gb187, 1, none⟩ = some (.int .u64 t197)) (ds := [3]) #[O, O, O, O] (by kernel_rfl) rfl rfl ⟨kc BK187 0, kc BK187 1⟩ (fun hHeld => ?_)
   generalize wc.drew = w59 at BK185 BK186 BK187 BK188 HB hHeld ⊢
   refine take_ (i := 0) (N := some 57) (v := ?_) (a' := ?_) #[T, O, O, O] rfl rfl (by kernel_rfl) (fun _ _ _ h => h) (Or.inl ⟨by rfl, ?_⟩) hHeld ?_ ?_; rotate_left; focus (rintro w' ⟨s0, s1⟩; go_simp; with_reducible rfl)
   rotate_left; focus (simp only [Act.put, s1, s2, s3, i64_w, i32_w]; rfl)
   refine one_ (i := 1) (N := some 58) #[T, T, O, O] rfl rfl (by kernel_rfl) (by decide) (fun K hK => ?_); refine goes_ Try.func32 (by kernel_rfl) rfl #[.int .i64 (-1)] (by rfl) rfl rfl (by (try simp only [zm, zc, zn]); first | done | rfl | (simp only [zd, zt]; rfl)) ?_
   with_reducible refine (wide_Of.calls (-1) t199 t200 _ A55.out).mono ?_
   rintro e w60 ⟨rfl, hb⟩; refine ⟨_, rfl, ?_⟩; replace BK185 := kb BK185 hb; replace BK186 := kb BK186 hb; replace BK187 := kb BK187 hb; replace BK188 := kb BK188 hb; replace HB := kB HB hb
   (try clear hb); (try clear hb2); (try clear hk); (try clear hi)
   refine hK.out _ _ ⟨kc BK187 0, kc BK187 1⟩ (fun hHeld => ?_); clear hK K
   refine norm_ (a' := ?_) ?_ ?_; rotate_left; focus (show Act.put _ (some 58) _ = _; simp only [Act.put, s1, s2, s3, i64_w, i32_w]; rfl)
   refine one_ (i := 2) (N := some 59) #[T, T, T, O] rfl rfl (by kernel_rfl) (by decide) (fun K hK => ?_); refine goes_ Try.func65 (by kernel_rfl) rfl #[.agg #[.int .i64 t196, .int .u64 t197], .agg #[.int .i64 t199, .int .u64 t200]] (by rfl) rfl rfl (by (try simp only [zm, zc, zn]); first | done | rfl | (simp only [zd, zt]; rfl)) ?_
   with_reducible refine (wide_wrap.calls t196 t197 t199 t200 t201 t202 _ A56.out).mono ?_
   rintro e w61 ⟨rfl, hb⟩; refine ⟨_, rfl, ?_⟩; replace BK185 := kb BK185 hb; replace BK186 := kb BK186 hb; replace BK187 := kb BK187 hb; replace BK188 := kb BK188 hb; replace HB := kB HB hb
   (try clear hb); (try clear hb2); (try clear hk); (try clear hi)
   refine hK.out _ _ ⟨kc BK187 0, kc BK187 1⟩ (fun hHeld => ?_); clear hK K
   refine norm_ (a' := ?_) ?_ ?_; rotate_left; focus (show Act.put _ (some 59) _ = _; simp only [Act.put, s1, s2, s3, i64_w, i32_w]; rfl)
   refine last_ (i := 3) (N := none) #[T, T, T, T] rfl rfl (by kernel_rfl) (by decide) (fun K hK => ?_); have hs62 : w61.cell? ⟨gb187, 0, none⟩ = some (.int .i64 t196) := kc BK187 0; have hfs62 := blk_frozen BK187.out 0; have hns62_0 := NB185_187.out; have hns62_1 := NB186_187.out; have hns62_3 := NB188_187.out; have hms62_0 := NB187_185.out; have hms62_1 := NB187_186.out; have hms62_3 := NB187_188.out; have hs63 : w61.cell? ⟨gb187, 1, none⟩ = some (.int .u64 t197) := kc BK187 1; have hfs63 := blk_frozen BK187.out 1; have hns63_0 := NB185_187.out; have hns63_1 := NB186_187.out; have hns63_3 := NB188_187.out; have hms63_0 := NB187_185.out; have hms63_1 := NB187_186.out; have hms63_3 := NB187_188.out; refine skip_ (w1 := ?_) (by rfl) rfl ?_ ?_; rotate_left
   ·go_simp
    rfl
   refine hK.out _ _ ?_; clear hK K; refine done_ (by kernel_rfl) ?_
   try go_wp2
   have n0_ : Aside0 (((w61.setCell ⟨gb187, 0, none⟩ (.int .i64 t201)).setCell ⟨gb187, 1, none⟩ (.int .u64 t202)).heap[gb185]? = some (.cells #[.int .i64 a0_0, .int .u64 a0_1] 24 (0, 0))) := ⟨kx BK185⟩; have n1_ : Aside0 (((w61.setCell ⟨gb187, 0, none⟩ (.int .i64 t201)).setCell ⟨gb187, 1, none⟩ (.int .u64 t202)).heap[gb186]? = some (.cells #[.int .i64 a1_0, .int .u64 a1_1] 24 (0, 0))) := ⟨kx BK186⟩; have n2_ : Aside0 (((w61.setCell ⟨gb187, 0, none⟩ (.int .i64 t201)).setCell ⟨gb187, 1, none⟩ (.int .u64 t202)).heap[gb187]? = some (.cells #[.int .i64 t201, .int .u64 t202] 24 (0, 0))) := ⟨by (with_reducible repeat (first | refine zr ?_ _ | refine zw ?_ | refine za ?_ _)); refine blk_put (cs := #[.int .i64 t201, .int .u64 t197]) ?_ 1 _ rfl; (with_reducible repeat (first | refine zr ?_ _ | refine zw ?_ | refine za ?_ _)); refine blk_put (cs := #[.int .i64 t196, .int .u64 t197]) ?_ 0 _ rfl; (with_reducible repeat (first | refine zr ?_ _ | refine zw ?_ | refine za ?_ _)); exact BK187.out⟩; have n3_ : Aside0 (((w61.setCell ⟨gb187, 0, none⟩ (.int .i64 t201)).setCell ⟨gb187, 1, none⟩ (.int .u64 t202)).heap[gb188]? = some (.cells #[.int .i64 (wrap64 (t194)), .int .u64 t195] 24 (0, 0))) := ⟨kx BK188⟩; have n4_ : Aside0 (Below w.heap.size w ((w61.setCell ⟨gb187, 0, none⟩ (.int .i64 t201)).setCell ⟨gb187, 1, none⟩ (.int .u64 t202))) := ⟨ky HB⟩
   (try clear BK185); (try clear BK186); (try clear BK187); (try clear BK188); (try clear HB)
   generalize ((w61.setCell ⟨gb187, 0, none⟩ (.int .i64 t201)).setCell ⟨gb187, 1, none⟩ (.int .u64 t202)) = w64 at n0_ n1_ n2_ n3_ n4_ ⊢
   have BK185 := n0_; have BK186 := n1_; have BK187 := n2_; have BK188 := n3_; have HB := n4_; clear n0_ n1_ n2_ n3_ n4_; replace BK185 := Aside0.mk (blk_drew BK185.out); replace BK186 := Aside0.mk (blk_drew BK186.out); replace BK187 := Aside0.mk (blk_drew BK187.out); replace BK188 := Aside0.mk (blk_drew BK188.out); replace HB := Aside0.mk (below_drew1 HB.out); refine start_ (n := 5) (S := fun w' => w'.cell? ⟨gb186, 0, none⟩ = some (.int .i64 a1_0) ∧ w'.cell? ⟨gb186, 1, none⟩ = some (.int .u64 a1_1) ∧ w'.cell? ⟨gb188, 0, none⟩ = some (.int .i64 (wrap64 (t194))) ∧ w'.cell? ⟨gb188, 1, none⟩ = some (.int .u64 t195)) (ds := [4]) #[O, O, O, O, O] (by kernel_rfl) rfl rfl ⟨kc BK186 0, kc BK186 1, kc BK188 0, kc BK188 1⟩ (fun hHeld => ?_)
   generalize w64.drew = w65 at BK185 BK186 BK187 BK188 HB hHeld ⊢
   refine take_ (i := 0) (N := some 60) (v := ?_) (a' := ?_) #[T, O, O, O, O] rfl rfl (by kernel_rfl) (fun _ _ _ h => h) (Or.inl ⟨by rfl, ?_⟩) hHeld ?_ ?_; rotate_left; focus (rintro w' ⟨s0, s1, s2, s3⟩; go_simp; with_reducible rfl)
   rotate_left; focus (simp only [Act.put, s1, s2, s3, i64_w, i32_w]; rfl)
   refine take_ (i := 1) (N := some 61) (v := ?_) (a' := ?_) #[T, T, O, O, O] rfl rfl (by kernel_rfl) (fun _ _ _ h => h) (Or.inl ⟨by rfl, ?_⟩) hHeld ?_ ?_; rotate_left; focus (rintro w' ⟨s0, s1, s2, s3⟩; go_simp; with_reducible rfl)
   rotate_left; focus (simp only [Act.put, s1, s2, s3, i64_w, i32_w]; rfl)
   refine one_ (i := 2) (N := some 62) #[T, T, T, O, O] rfl rfl (by kernel_rfl) (by decide) (fun K hK => ?_); refine goes_ Try.func66 (by kernel_rfl) rfl #[.agg #[.int .i64 (wrap64 (t194)), .int .u64 t195]] (by rfl) rfl rfl (by (try simp only [zm, zc, zn]); first | done | rfl | (simp only [zd, zt]; rfl)) ?_
   with_reducible refine (wide_turn.calls (wrap64 (t194)) t195 t203 t204 _ A57.out).mono ?_
   rintro e w66 ⟨rfl, hb⟩; refine ⟨_, rfl, ?_⟩; replace BK185 := kb BK185 hb; replace BK186 := kb BK186 hb; replace BK187 := kb BK187 hb; replace BK188 := kb BK188 hb; replace HB := kB HB hb
   (try clear hb); (try clear hb2); (try clear hk); (try clear hi)
   refine hK.out _ _ ⟨kc BK186 0, kc BK186 1, kc BK188 0, kc BK188 1⟩ (fun hHeld => ?_); clear hK K
   refine norm_ (a' := ?_) ?_ ?_; rotate_left; focus (show Act.put _ (some 62) _ = _; simp only [Act.put, s1, s2, s3, i64_w, i32_w]; rfl)
   refine one_ (i := 3) (N := some 63) #[T, T, T, T, O] rfl rfl (by kernel_rfl) (by decide) (fun K hK => ?_); refine goes_ Try.func65 (by kernel_rfl) rfl #[.agg #[.int .i64 a1_0, .int .u64 a1_1], .agg #[.int .i64 t203, .int .u64 t204]] (by rfl) rfl rfl (by (try simp only [zm, zc, zn]); first | done | rfl | (simp only [zd, zt]; rfl)) ?_
   with_reducible refine (wide_wrap.calls a1_0 a1_1 t203 t204 t205 t206 _ A58.out).mono ?_
   rintro e w67 ⟨rfl, hb⟩; refine ⟨_, rfl, ?_⟩; replace BK185 := kb BK185 hb; replace BK186 := kb BK186 hb; replace BK187 := kb BK187 hb; replace BK188 := kb BK188 hb; replace HB := kB HB hb
   (try clear hb); (try clear hb2); (try clear hk); (try clear hi)
   refine hK.out _ _ ⟨kc BK186 0, kc BK186 1, kc BK188 0, kc BK188 1⟩ (fun hHeld => ?_); clear hK K
   refine norm_ (a' := ?_) ?_ ?_; rotate_left; focus (show Act.put _ (some 63) _ = _; simp only [Act.put, s1, s2, s3, i64_w, i32_w]; rfl)
   refine last_ (i := 4) (N := none) #[T, T, T, T, T] rfl rfl (by kernel_rfl) (by decide) (fun K hK => ?_); have hs68 : w67.cell? ⟨gb188, 0, none⟩ = some (.int .i64 (wrap64 (t194))) := kc BK188 0; have hfs68 := blk_frozen BK188.out 0; have hns68_0 := NB185_188.out; have hns68_1 := NB186_188.out; have hns68_2 := NB187_188.out; have hms68_0 := NB188_185.out; have hms68_1 := NB188_186.out; have hms68_2 := NB188_187.out; have hs69 : w67.cell? ⟨gb188, 1, none⟩ = some (.int .u64 t195) := kc BK188 1; have hfs69 := blk_frozen BK188.out 1; have hns69_0 := NB185_188.out; have hns69_1 := NB186_188.out; have hns69_2 := NB187_188.out; have hms69_0 := NB188_185.out; have hms69_1 := NB188_186.out; have hms69_2 := NB188_187.out; refine skip_ (w1 := ?_) (by rfl) rfl ?_ ?_; rotate_left
   ·go_simp
    rfl
   refine hK.out _ _ ?_; clear hK K; refine done_ (by kernel_rfl) ?_; have hnb70 := NB187_185.out; have hnc70 := NB185_187.out; have hnb71 := NB187_186.out; have hnc71 := NB186_187.out; have hnb72 := NB187_188.out; have hnc72 := NB188_187.out; obtain ⟨hcz73_0, hcz73_1⟩ := kc2 BK187; obtain ⟨hfz73_0, hfz73_1⟩ := kf2 BK187; have hnb74 := NB188_185.out; have hnc74 := NB185_188.out; have hnb75 := NB188_186.out; have hnc75 := NB186_188.out; obtain ⟨hcz76_0, hcz76_1⟩ := kc2 BK188; obtain ⟨hfz76_0, hfz76_1⟩ := kf2 BK188
   go_wp2_with fail
   go_region
   all_goals go_wp2
   refine bodyPost_ret (results_list (rs := [.cell 4 24, .cell 5 24, .tmp 6]) rfl (by simp) (.cell gb187 24 #[.int .i64 t201, .int .u64 t202] (0, 0) _ rfl (by (with_reducible repeat (first | refine zr ?_ _ | refine zw ?_ | refine za ?_ _)); refine blk_far ?_ NB187_188.out _; (with_reducible repeat (first | refine zr ?_ _ | refine zw ?_ | refine za ?_ _)); refine blk_far ?_ NB187_188.out _; (with_reducible repeat (first | refine zr ?_ _ | refine zw ?_ | refine za ?_ _)); refine blk_put (cs := #[.int .i64 t201, .int .u64 t202]) ?_ 1 _ rfl; (with_reducible repeat (first | refine zr ?_ _ | refine zw ?_ | refine za ?_ _)); refine blk_put (cs := #[.int .i64 t201, .int .u64 t202]) ?_ 0 _ rfl; (with_reducible repeat (first | refine zr ?_ _ | refine zw ?_ | refine za ?_ _)); refine blk_far ?_ NB187_188.out _; (with_reducible repeat (first | refine zr ?_ _ | refine zw ?_ | refine za ?_ _)); refine blk_far ?_ NB187_188.out _; (with_reducible repeat (first | refine zr ?_ _ | refine zw ?_ | refine za ?_ _)); exact BK187.out) Try.underlying24 rfl (by kernel_rfl) (.cell gb188 24 #[.int .i64 t205, .int .u64 t206] (0, 0) _ rfl (by (with_reducible repeat (first | refine zr ?_ _ | refine zw ?_ | refine za ?_ _)); refine blk_put (cs := #[.int .i64 t205, .int .u64 t206]) ?_ 1 _ rfl; (with_reducible repeat (first | refine zr ?_ _ | refine zw ?_ | refine za ?_ _)); refine blk_put (cs := #[.int .i64 t205, .int .u64 t206]) ?_ 0 _ rfl; (with_reducible repeat (first | refine zr ?_ _ | refine zw ?_ | refine za ?_ _)); refine blk_far ?_ NB188_187.out _; (with_reducible repeat (first | refine zr ?_ _ | refine zw ?_ | refine za ?_ _)); refine blk_far ?_ NB188_187.out _; (with_reducible repeat (first | refine zr ?_ _ | refine zw ?_ | refine za ?_ _)); refine blk_put (cs := #[.int .i64 t205, .int .u64 t195]) ?_ 1 _ rfl; (with_reducible repeat (first | refine zr ?_ _ | refine zw ?_ | refine za ?_ _)); refine blk_put (cs := #[.int .i64 (wrap64 (t194)), .int .u64 t195]) ?_ 0 _ rfl; (with_reducible repeat (first | refine zr ?_ _ | refine zw ?_ | refine za ?_ _)); exact BK188.out) Try.underlying24 rfl (by kernel_rfl) (.tmp .nil)))) rfl ?_; exact ⟨by first | rfl | (simp [errW_none, errW_some] <;> rfl) | (simp [*, errW_none, errW_some] <;> rfl), ky HB⟩
/-! ### wide_Add: function 29 -/
def wide_Add.f (a0_0 : Int) (a0_1 : Int) (a1_0 : Int) (a1_1 : Int) : Option (Int × Int × Bool) := (wide_wrap.f a0_0 a0_1 a1_0 a1_1).bind fun bt210 => (if ((decide (a0_0 < 0)) != (decide (a1_0 < 0))) = true then ((wide_told.f bt210.1 bt210.2 true).bind fun bt213 => (some (bt213.1, bt213.2.1, bt213.2.2))) else ((wide_told.f bt210.1 bt210.2 ((decide (a0_0 < 0)) == (decide (bt210.1 < 0)))).bind fun bt216 => (some (bt216.1, bt216.2.1, bt216.2.2))))
set_option maxHeartbeats 8000000 in
set_option maxRecDepth 100000 in
theorem wide_Add.calls (a0_0 : Int) (a0_1 : Int) (a1_0 : Int) (a1_1 : Int) (r1 : Int) (r2 : Int) (r3 : Bool) (w : World) (h : wide_Add.f a0_0 a0_1 a1_0 a1_1 = some (r1, r2, r3)) :
  Calls Try.prog 29 #[.agg #[.int .i64 a0_0, .int .u64 a0_1], .agg #[.int .i64 a1_0, .int .u64 a1_1]] w fun e w' => e = .returned (.tuple #[.agg #[.int .i64 r1, .int .u64 r2], .bool r3]) ∧ Below w.heap.size w w' := by
 have hu24 := Try.underlying24; have HB := Aside0.mk (Below.refl w.heap.size w); have H : ((wide_wrap.f a0_0 a0_1 a1_0 a1_1).bind fun bt210 => (if ((decide (a0_0 < 0)) != (decide (a1_0 < 0))) = true then ((wide_told.f bt210.1 bt210.2 true).bind fun bt213 => (some (bt213.1, bt213.2.1, bt213.2.2))) else ((wide_told.f bt210.1 bt210.2 ((decide (a0_0 < 0)) == (decide (bt210.1 < 0)))).bind fun bt216 => (some (bt216.1, bt216.2.1, bt216.2.2))))) = some (r1, r2, r3) := h; clear h; replace H := Option.bind_eq_some_iff.mp H; obtain ⟨⟨t210, t211⟩, A30, H⟩ := H; replace H : (if ((decide (a0_0 < 0)) != (decide (a1_0 < 0))) = true then ((wide_told.f t210 t211 true).bind fun bt213 => (some (bt213.1, bt213.2.1, bt213.2.2))) else ((wide_told.f t210 t211 ((decide (a0_0 < 0)) == (decide (t210 < 0)))).bind fun bt216 => (some (bt216.1, bt216.2.1, bt216.2.2)))) = some (r1, r2, r3) := H; have A3 := Aside0.mk A30; clear A30
 by_cases c4 : ((decide (a0_0 < 0)) != (decide (a1_0 < 0))) = true
 ·rw [if_pos c4] at H
  have c4b0 : ((decide (a0_0 < 0)) != (decide (a1_0 < 0))) = true := c4
  (try (have c4b1 : decide ((decide (a0_0 < 0)) = (decide (a1_0 < 0))) = false := by simpa using c4))
  (try (have c4b2 : ((decide (a0_0 < 0)) == (decide (a1_0 < 0))) = false := by simpa using c4))
  (try (have c4b3 : ¬ ((decide (a0_0 < 0)) = (decide (a1_0 < 0))) := by simpa using c4))
  clear c4; replace H := Option.bind_eq_some_iff.mp H; obtain ⟨⟨t213, t214, t215⟩, A50, H⟩ := H; replace H : (some (t213, t214, t215)) = some (r1, r2, r3) := H; have A5 := Aside0.mk A50; clear A50
  simp only [Option.some.injEq, Prod.mk.injEq] at H
  obtain ⟨rfl, rfl, rfl⟩ := H
  go_enter Try.func29, Try.ntmps29
  go_wp2_with (first | ((with_reducible refine gate_dst (N := 2) rfl ?_); refine box_event ?hg (N := 2) ?hd (cs := #[.int .i64 a0_0, .int .u64 a0_1]) (t := 24) ?hr ?_; (case hd => rfl); (case hg => rfl); (case hr => first | (go_simp; done) | (go_simp; rfl)); intro gb207 hg w6 hbox hb; have BK207 := Aside0.mk (hbox); have GW207 := kS HB hg; have GE207 := kS HB hg; replace HB := kB HB hb; clear hb hbox hg) | ((with_reducible refine gate_dst (N := 3) rfl ?_); refine box_event ?hg (N := 3) ?hd (cs := #[.int .i64 a1_0, .int .u64 a1_1]) (t := 24) ?hr ?_; (case hd => rfl); (case hg => rfl); (case hr => first | (go_simp; done) | (go_simp; rfl)); intro gb208 hg w7 hbox hb; have BK208 := Aside0.mk (hbox); have GW208 := kS HB hg; have GE208 := kS HB hg; have NB207_208 := kN BK207 hg; have NB208_207 := kM BK207 hg; replace BK207 := kb BK207 hb; replace HB := kB HB hb; clear hb hbox hg) | ((with_reducible refine gate_dst (N := 4) rfl ?_); refine box_event ?hg (N := 4) ?hd (cs := #[.int .i64 0, .int .u64 0]) (t := 24) ?hr ?_; (case hd => rfl); (case hg => rfl); (case hr => first | (go_simp; done) | (go_simp; rfl)); intro gb209 hg w8 hbox hb; have BK209 := Aside0.mk (hbox); have GW209 := kS HB hg; have GE209 := kS HB hg; have NB207_209 := kN BK207 hg; have NB209_207 := kM BK207 hg; have NB208_209 := kN BK208 hg; have NB209_208 := kM BK208 hg; replace BK207 := kb BK207 hb; replace BK208 := kb BK208 hb; replace HB := kB HB hb; clear hb hbox hg; have hnb9 := NB207_208.out; have hnc9 := NB208_207.out; have hnb10 := NB207_209.out; have hnc10 := NB209_207.out; have hcz11_0 : w8.cell? ⟨gb207, 0, none⟩ = some (.int .i64 a0_0) := kc BK207 0; have hcz11_1 : w8.cell? ⟨gb207, 1, none⟩ = some (.int .u64 a0_1) := kc BK207 1; have hfz11_0 := blk_frozen BK207.out 0; have hfz11_1 := blk_frozen BK207.out 1; have hnb12 := NB208_209.out; have hnc12 := NB209_208.out; have hcz13_0 : w8.cell? ⟨gb208, 0, none⟩ = some (.int .i64 a1_0) := kc BK208 0; have hcz13_1 : w8.cell? ⟨gb208, 1, none⟩ = some (.int .u64 a1_1) := kc BK208 1; have hfz13_0 := blk_frozen BK208.out 0; have hfz13_1 := blk_frozen BK208.out 1) | ((with_reducible refine gate_callee (f := 65) rfl ?_); refine goesL_ (some 9) rfl rfl Try.func65 (by kernel_rfl) rfl #[.agg #[.int .i64 a0_0, .int .u64 a0_1], .agg #[.int .i64 a1_0, .int .u64 a1_1]] rfl (by (try simp only [zm, zc, zn]); first | done | rfl | (simp only [zd, zt]; rfl)) ?_; (with_reducible refine (wide_wrap.calls a0_0 a0_1 a1_0 a1_1 t210 t211 _ A3.out).mono ?_); rintro e w14 ⟨rfl, hb⟩; refine ⟨_, rfl, ?_⟩; replace BK207 := kb BK207 hb; replace BK208 := kb BK208 hb; replace BK209 := kb BK209 hb; replace HB := kB HB hb; (try clear hb); (try clear hb2); (try clear hk); (try clear hi)) | ((with_reducible refine gate_dst (N := 6) rfl ?_); refine box_event ?hg (N := 6) ?hd (cs := #[.int .i64 0, .int .u64 0]) (t := 24) ?hr ?_; (case hd => rfl); (case hg => rfl); (case hr => first | (go_simp; done) | (go_simp; rfl)); intro gb212 hg w15 hbox hb; have BK212 := Aside0.mk (hbox); have GW212 := kS HB hg; have GE212 := kS HB hg; have NB207_212 := kN BK207 hg; have NB212_207 := kM BK207 hg; have NB208_212 := kN BK208 hg; have NB212_208 := kM BK208 hg; have NB209_212 := kN BK209 hg; have NB212_209 := kM BK209 hg; replace BK207 := kb BK207 hb; replace BK208 := kb BK208 hb; replace BK209 := kb BK209 hb; replace HB := kB HB hb; clear hb hbox hg; have hnb16 := NB212_207.out; have hnc16 := NB207_212.out; have hnb17 := NB212_208.out; have hnc17 := NB208_212.out; have hnb18 := NB212_209.out; have hnc18 := NB209_212.out; have hcz19_0 : w15.cell? ⟨gb212, 0, none⟩ = some (.int .i64 0) := kc BK212 0; have hcz19_1 : w15.cell? ⟨gb212, 1, none⟩ = some (.int .u64 0) := kc BK212 1; have hfz19_0 := blk_frozen BK212.out 0; have hfz19_1 := blk_frozen BK212.out 1; have hcz20_0 : w15.cell? ⟨gb207, 0, none⟩ = some (.int .i64 a0_0) := kc BK207 0; have hcz20_1 : w15.cell? ⟨gb207, 1, none⟩ = some (.int .u64 a0_1) := kc BK207 1; have hfz20_0 := blk_frozen BK207.out 0; have hfz20_1 := blk_frozen BK207.out 1; have hcz21_0 : w15.cell? ⟨gb208, 0, none⟩ = some (.int .i64 a1_0) := kc BK208 0; have hcz21_1 : w15.cell? ⟨gb208, 1, none⟩ = some (.int .u64 a1_1) := kc BK208 1; have hfz21_0 := blk_frozen BK208.out 0; have hfz21_1 := blk_frozen BK208.out 1) | ((with_reducible refine gate_callee (f := 59) rfl ?_); refine goesL_ (some 27) rfl rfl Try.func59 (by kernel_rfl) rfl #[.agg #[.int .i64 t210, .int .u64 t211], .bool true] rfl (by (try simp only [zm, zc, zn]); first | done | rfl | (simp only [zd, zt]; rfl)) ?_; (with_reducible refine (wide_told.calls t210 t211 true t213 t214 t215 _ A5.out).mono ?_); rintro e w22 ⟨rfl, hb⟩; refine ⟨_, rfl, ?_⟩; have n0_ := kb BK207 hb; have n1_ := kb BK208 hb; have n2_ := kb BK209 hb; have n3_ := Aside0.mk (blk_below (g := gb212) (o := .cells #[.int .i64 t210, .int .u64 t211] 24 (0, 0)) (by (with_reducible repeat (first | refine zr ?_ _ | refine zw ?_ | refine za ?_ _)); refine blk_put (cs := #[.int .i64 t210, .int .u64 0]) ?_ 1 _ rfl; (with_reducible repeat (first | refine zr ?_ _ | refine zw ?_ | refine za ?_ _)); refine blk_put (cs := #[.int .i64 0, .int .u64 0]) ?_ 0 _ rfl; (with_reducible repeat (first | refine zr ?_ _ | refine zw ?_ | refine za ?_ _)); exact BK212.out) hb); have n4_ := kB HB hb; clear BK207; clear BK208; clear BK209; clear BK212; clear HB; have BK207 := n0_; have BK208 := n1_; have BK209 := n2_; have BK212 := n3_; have HB := n4_; clear n0_ n1_ n2_ n3_ n4_; (try clear hb); (try clear hb2); (try clear hk); (try clear hi); have hcz23_0 : w22.cell? ⟨gb209, 0, none⟩ = some (.int .i64 0) := kc BK209 0; have hcz23_1 : w22.cell? ⟨gb209, 1, none⟩ = some (.int .u64 0) := kc BK209 1; have hfz23_0 := blk_frozen BK209.out 0; have hfz23_1 := blk_frozen BK209.out 1))
  refine bodyPost_ret (results_ct rfl _ _ gb209 24 #[.int .i64 t213, .int .u64 t214] (0, 0) _ rfl (by (with_reducible repeat (first | refine zr ?_ _ | refine zw ?_ | refine za ?_ _)); refine blk_put (cs := #[.int .i64 t213, .int .u64 0]) ?_ 1 _ rfl; (with_reducible repeat (first | refine zr ?_ _ | refine zw ?_ | refine za ?_ _)); refine blk_put (cs := #[.int .i64 0, .int .u64 0]) ?_ 0 _ rfl; (with_reducible repeat (first | refine zr ?_ _ | refine zw ?_ | refine za ?_ _)); exact BK209.out) Try.underlying24 rfl (by kernel_rfl)) rfl ?_; exact ⟨by first | rfl | (simp [errW_none, errW_some] <;> rfl) | (simp [*, errW_none, errW_some] <;> rfl), ky HB⟩
 rw [if_neg c4] at H
 have c4b0 : ((decide (a0_0 < 0)) != (decide (a1_0 < 0))) = false := by simpa using c4
 (try (have c4b1 : decide ((decide (a0_0 < 0)) = (decide (a1_0 < 0))) = true := by simpa using c4))
 (try (have c4b2 : ((decide (a0_0 < 0)) == (decide (a1_0 < 0))) = true := by simpa using c4))
 clear c4; replace H := Option.bind_eq_some_iff.mp H; obtain ⟨⟨t216, t217, t218⟩, A240, H⟩ := H; replace H : (some (t216, t217, t218)) = some (r1, r2, r3) := H; have A24 := Aside0.mk A240; clear A240
 simp only [Option.some.injEq, Prod.mk.injEq] at H
 obtain ⟨rfl, rfl, rfl⟩ := H
 go_enter Try.func29, Try.ntmps29
 go_wp2_with (first | ((with_reducible refine gate_dst (N := 2) rfl ?_); refine box_event ?hg (N := 2) ?hd (cs := #[.int .i64 a0_0, .int .u64 a0_1]) (t := 24) ?hr ?_; (case hd => rfl); (case hg => rfl); (case hr => first | (go_simp; done) | (go_simp; rfl)); intro gb207 hg w25 hbox hb; have BK207 := Aside0.mk (hbox); have GW207 := kS HB hg; have GE207 := kS HB hg; replace HB := kB HB hb; clear hb hbox hg) | ((with_reducible refine gate_dst (N := 3) rfl ?_); refine box_event ?hg (N := 3) ?hd (cs := #[.int .i64 a1_0, .int .u64 a1_1]) (t := 24) ?hr ?_; (case hd => rfl); (case hg => rfl); (case hr => first | (go_simp; done) | (go_simp; rfl)); intro gb208 hg w26 hbox hb; have BK208 := Aside0.mk (hbox); have GW208 := kS HB hg; have GE208 := kS HB hg; have NB207_208 := kN BK207 hg; have NB208_207 := kM BK207 hg; replace BK207 := kb BK207 hb; replace HB := kB HB hb; clear hb hbox hg) | ((with_reducible refine gate_dst (N := 4) rfl ?_); refine box_event ?hg (N := 4) ?hd (cs := #[.int .i64 0, .int .u64 0]) (t := 24) ?hr ?_; (case hd => rfl); (case hg => rfl); (case hr => first | (go_simp; done) | (go_simp; rfl)); intro gb209 hg w27 hbox hb; have BK209 := Aside0.mk (hbox); have GW209 := kS HB hg; have GE209 := kS HB hg; have NB207_209 := kN BK207 hg; have NB209_207 := kM BK207 hg; have NB208_209 := kN BK208 hg; have NB209_208 := kM BK208 hg; replace BK207 := kb BK207 hb; replace BK208 := kb BK208 hb; replace HB := kB HB hb; clear hb hbox hg; have hnb28 := NB207_208.out; have hnc28 := NB208_207.out; have hnb29 := NB207_209.out; have hnc29 := NB209_207.out; have hcz30_0 : w27.cell? ⟨gb207, 0, none⟩ = some (.int .i64 a0_0) := kc BK207 0; have hcz30_1 : w27.cell? ⟨gb207, 1, none⟩ = some (.int .u64 a0_1) := kc BK207 1; have hfz30_0 := blk_frozen BK207.out 0; have hfz30_1 := blk_frozen BK207.out 1; have hnb31 := NB208_209.out; have hnc31 := NB209_208.out; have hcz32_0 : w27.cell? ⟨gb208, 0, none⟩ = some (.int .i64 a1_0) := kc BK208 0; have hcz32_1 : w27.cell? ⟨gb208, 1, none⟩ = some (.int .u64 a1_1) := kc BK208 1; have hfz32_0 := blk_frozen BK208.out 0; have hfz32_1 := blk_frozen BK208.out 1) | ((with_reducible refine gate_callee (f := 65) rfl ?_); refine goesL_ (some 9) rfl rfl Try.func65 (by kernel_rfl) rfl #[.agg #[.int .i64 a0_0, .int .u64 a0_1], .agg #[.int .i64 a1_0, .int .u64 a1_1]] rfl (by (try simp only [zm, zc, zn]); first | done | rfl | (simp only [zd, zt]; rfl)) ?_; (with_reducible refine (wide_wrap.calls a0_0 a0_1 a1_0 a1_1 t210 t211 _ A3.out).mono ?_); rintro e w33 ⟨rfl, hb⟩; refine ⟨_, rfl, ?_⟩; replace BK207 := kb BK207 hb; replace BK208 := kb BK208 hb; replace BK209 := kb BK209 hb; replace HB := kB HB hb; (try clear hb); (try clear hb2); (try clear hk); (try clear hi)) | ((with_reducible refine gate_dst (N := 6) rfl ?_); refine box_event ?hg (N := 6) ?hd (cs := #[.int .i64 0, .int .u64 0]) (t := 24) ?hr ?_; (case hd => rfl); (case hg => rfl); (case hr => first | (go_simp; done) | (go_simp; rfl)); intro gb212 hg w34 hbox hb; have BK212 := Aside0.mk (hbox); have GW212 := kS HB hg; have GE212 := kS HB hg; have NB207_212 := kN BK207 hg; have NB212_207 := kM BK207 hg; have NB208_212 := kN BK208 hg; have NB212_208 := kM BK208 hg; have NB209_212 := kN BK209 hg; have NB212_209 := kM BK209 hg; replace BK207 := kb BK207 hb; replace BK208 := kb BK208 hb; replace BK209 := kb BK209 hb; replace HB := kB HB hb; clear hb hbox hg; have hnb35 := NB212_207.out; have hnc35 := NB207_212.out; have hnb36 := NB212_208.out; have hnc36 := NB208_212.out; have hnb37 := NB212_209.out; have hnc37 := NB209_212.out; have hcz38_0 : w34.cell? ⟨gb212, 0, none⟩ = some (.int .i64 0) := kc BK212 0; have hcz38_1 : w34.cell? ⟨gb212, 1, none⟩ = some (.int .u64 0) := kc BK212 1; have hfz38_0 := blk_frozen BK212.out 0; have hfz38_1 := blk_frozen BK212.out 1; have hcz39_0 : w34.cell? ⟨gb207, 0, none⟩ = some (.int .i64 a0_0) := kc BK207 0; have hcz39_1 : w34.cell? ⟨gb207, 1, none⟩ = some (.int .u64 a0_1) := kc BK207 1; have hfz39_0 := blk_frozen BK207.out 0; have hfz39_1 := blk_frozen BK207.out 1; have hcz40_0 : w34.cell? ⟨gb208, 0, none⟩ = some (.int .i64 a1_0) := kc BK208 0; have hcz40_1 : w34.cell? ⟨gb208, 1, none⟩ = some (.int .u64 a1_1) := kc BK208 1; have hfz40_0 := blk_frozen BK208.out 0; have hfz40_1 := blk_frozen BK208.out 1) | ((with_reducible refine gate_callee (f := 59) rfl ?_); refine goesL_ (some 27) rfl rfl Try.func59 (by kernel_rfl) rfl #[.agg #[.int .i64 t210, .int .u64 t211], .bool ((decide (a0_0 < 0)) == (decide (t210 < 0)))] rfl (by (try simp only [zm, zc, zn]); first | done | rfl | (simp only [zd, zt]; rfl)) ?_; (with_reducible refine (wide_told.calls t210 t211 ((decide (a0_0 < 0)) == (decide (t210 < 0))) t216 t217 t218 _ A24.out).mono ?_); rintro e w41 ⟨rfl, hb⟩; refine ⟨_, rfl, ?_⟩; have n0_ := kb BK207 hb; have n1_ := kb BK208 hb; have n2_ := kb BK209 hb; have n3_ := Aside0.mk (blk_below (g := gb212) (o := .cells #[.int .i64 t210, .int .u64 t211] 24 (0, 0)) (by (with_reducible repeat (first | refine zr ?_ _ | refine zw ?_ | refine za ?_ _)); refine blk_put (cs := #[.int .i64 t210, .int .u64 0]) ?_ 1 _ rfl; (with_reducible repeat (first | refine zr ?_ _ | refine zw ?_ | refine za ?_ _)); refine blk_put (cs := #[.int .i64 0, .int .u64 0]) ?_ 0 _ rfl; (with_reducible repeat (first | refine zr ?_ _ | refine zw ?_ | refine za ?_ _)); exact BK212.out) hb); have n4_ := kB HB hb; clear BK207; clear BK208; clear BK209; clear BK212; clear HB; have BK207 := n0_; have BK208 := n1_; have BK209 := n2_; have BK212 := n3_; have HB := n4_; clear n0_ n1_ n2_ n3_ n4_; (try clear hb); (try clear hb2); (try clear hk); (try clear hi); have hcz42_0 : w41.cell? ⟨gb209, 0, none⟩ = some (.int .i64 0) := kc BK209 0; have hcz42_1 : w41.cell? ⟨gb209, 1, none⟩ = some (.int .u64 0) := kc BK209 1; have hfz42_0 := blk_frozen BK209.out 0; have hfz42_1 := blk_frozen BK209.out 1))
 refine bodyPost_ret (results_ct rfl _ _ gb209 24 #[.int .i64 t216, .int .u64 t217] (0, 0) _ rfl (by (with_reducible repeat (first | refine zr ?_ _ | refine zw ?_ | refine za ?_ _)); refine blk_put (cs := #[.int .i64 t216, .int .u64 0]) ?_ 1 _ rfl; (with_reducible repeat (first | refine zr ?_ _ | refine zw ?_ | refine za ?_ _)); refine blk_put (cs := #[.int .i64 0, .int .u64 0]) ?_ 0 _ rfl; (with_reducible repeat (first | refine zr ?_ _ | refine zw ?_ | refine za ?_ _)); exact BK209.out) Try.underlying24 rfl (by kernel_rfl)) rfl ?_; exact ⟨by first | rfl | (simp [errW_none, errW_some] <;> rfl) | (simp [*, errW_none, errW_some] <;> rfl), ky HB⟩

end Go.Proofs.Ytpjbniihdndlmaa.Q
