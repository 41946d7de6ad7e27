-- Printed by wip/pp.sh (a session's own turning of the kit's print) for this seat.
import Derived.Test.YtpjbniihdndlmabQx0
import Derived.Test.YtpjbniihdndlmabQx5
import Derived.Test.YtpjbniihdndlmabQx12
import Derived.Test.YtpjbniihdndlmabQx13
import Derived.Test.YtpjbniihdndlmabQx14
import Derived.Test.YtpjbniihdndlmabQx17
namespace Go.Proofs.Ytpjbniihdndlmab.Q
open Go.RowKit Go.Proofs.YtpjbniihdndlmabW.PrintWords Go.Proofs.YtpjbniihdndlmabW.PrintLast Go.Proofs.YtpjbniihdndlmabW.PrintMore
open Go.Proofs.Ytpjbniihdndlmab.H
attribute [local go_sem] hq_add64 hq_sub64 hq_not64 add64c_nn sub64c_nn sub64c_le
attribute [local go_sem] max2_int min2_int max_two min_two max_three min_three max_four min_four   -- for this text's walks alone
set_option linter.unusedVariables false
set_option linter.unusedSimpArgs false

/-! ### cobwebref02_Cmp: function 17 -/
def cobwebref02_Cmp.f (k : Nat) (a0_0 : Bool) (l0_1 : List Int) (a0_2 : Bool) (l0_3 : List Int) (a1_0 : Bool) (l1_1 : List Int) (a1_2 : Bool) (l1_3 : List Int) : Option (Int) := (cobwebref01_Mul.f k a0_0 l0_1 a1_2 l1_3).bind fun bt390 => ((cobwebref01_Mul.f k a1_0 l1_1 a0_2 l0_3).bind fun bt394 => ((cobwebref01_Cmp.f k bt390.1 bt390.2 bt394.1 bt394.2).bind fun t398 => (some t398)))
theorem cobwebref02_Cmp.mono : ∀ a0 a1 a2 a3 a4 a5 a6 a7 k, LeO (cobwebref02_Cmp.f k a0 a1 a2 a3 a4 a5 a6 a7) (cobwebref02_Cmp.f (k + 1) a0 a1 a2 a3 a4 a5 a6 a7) := by
  intro a0 a1 a2 a3 a4 a5 a6 a7 k
  unfold cobwebref02_Cmp.f
  repeat' first
      | (with_reducible exact cobwebref01_Cmp.mono _ _ _ _ _)
      | (with_reducible exact cobwebref01_Mul.mono _ _ _ _ _)
      | (with_reducible exact LeO.refl _)
      | (with_reducible exact LeO.none _)
      | (with_reducible refine LeO.ite ?_ ?_)
      | (with_reducible refine LeO.bind ?_ (fun _ => ?_))
      | exact cobwebref01_Cmp.mono _ _ _ _ _
      | exact cobwebref01_Mul.mono _ _ _ _ _
      | exact LeO.none _
      | refine LeO.ite ?_ ?_
      | refine LeO.bind ?_ (fun _ => ?_)
def cobwebref02_Cmp.T1 : Bool × List (List Nat × List Nat) := (true, [([], []), ([0], [0]), ([], []), ([2], [2]), ([1, 3], [1, 3]), ([], []), ([5], [5]), ([], []), ([7], [7]), ([6, 8, 4], [6, 8]), ([4, 9, 9], [4, 9]), ([10, 10, 0, 1, 2, 3, 4, 5, 6, 7, 8, 9, 10], [10])])
def cobwebref02_Cmp.B1 : List Nat := [0, 1, 0, 4, 15, 0, 32, 0, 128, 511, 1023, 2047]
theorem cobwebref02_Cmp.tab1 : rtab .any (opsOf Try.f17 1) = cobwebref02_Cmp.T1 := by kernel_rfl
theorem cobwebref02_Cmp.bits1 : waitsOk cobwebref02_Cmp.T1.2 cobwebref02_Cmp.B1 = true := by kernel_rfl
set_option maxHeartbeats 8000000 in
set_option maxRecDepth 100000 in
theorem cobwebref02_Cmp.calls (k : Nat) (a0_0 : Bool) (A0_1 : Option Addr) (c0_1 : Nat) (l0_1 : List Int) (a0_2 : Bool) (A0_3 : Option Addr) (c0_3 : Nat) (l0_3 : List Int) (a1_0 : Bool) (A1_1 : Option Addr) (c1_1 : Nat) (l1_1 : List Int) (a1_2 : Bool) (A1_3 : Option Addr) (c1_3 : Nat) (l1_3 : List Int) (r : Int) (w : World) (hr0_1 : Kd.C (Kd.int .i64) w A0_1 l0_1.length l0_1) (hc0_1 : l0_1.length ≤ c0_1) (hr0_3 : Kd.C (Kd.int .i64) w A0_3 l0_3.length l0_3) (hc0_3 : l0_3.length ≤ c0_3) (hr1_1 : Kd.C (Kd.int .i64) w A1_1 l1_1.length l1_1) (hc1_1 : l1_1.length ≤ c1_1) (hr1_3 : Kd.C (Kd.int .i64) w A1_3 l1_3.length l1_3) (hc1_3 : l1_3.length ≤ c1_3) (h : cobwebref02_Cmp.f k a0_0 l0_1 a0_2 l0_3 a1_0 l1_1 a1_2 l1_3 = some r) :
    Calls Try.prog 17 #[.agg #[.bool a0_0, .slice A0_1 l0_1.length c0_1, .bool a0_2, .slice A0_3 l0_3.length c0_3], .agg #[.bool a1_0, .slice A1_1 l1_1.length c1_1, .bool a1_2, .slice A1_3 l1_3.length c1_3]] w fun e w' => e = .returned (.int .i64 r) ∧ Below w.heap.size w w' := by
  have hu35 := Try.underlying35
  have hu33 := Try.underlying33
  have HR0_1 := Aside0.mk hr0_1
  have HC0_1 := Aside0.mk hc0_1
  clear hr0_1 hc0_1
  have HR0_3 := Aside0.mk hr0_3
  have HC0_3 := Aside0.mk hc0_3
  clear hr0_3 hc0_3
  have HR1_1 := Aside0.mk hr1_1
  have HC1_1 := Aside0.mk hc1_1
  clear hr1_1 hc1_1
  have HR1_3 := Aside0.mk hr1_3
  have HC1_3 := Aside0.mk hc1_3
  clear hr1_3 hc1_3
  have HB := Aside0.mk (Below.refl w.heap.size w)
  have H : ((cobwebref01_Mul.f k a0_0 l0_1 a1_2 l1_3).bind fun bt390 => ((cobwebref01_Mul.f k a1_0 l1_1 a0_2 l0_3).bind fun bt394 => ((cobwebref01_Cmp.f k bt390.1 bt390.2 bt394.1 bt394.2).bind fun t398 => (some t398)))) = some r := h
  clear h
  replace H := Option.bind_eq_some_iff.mp H
  obtain ⟨⟨t390, t391⟩, A30, H⟩ := H
  replace H : ((cobwebref01_Mul.f k a1_0 l1_1 a0_2 l0_3).bind fun bt394 => ((cobwebref01_Cmp.f k t390 t391 bt394.1 bt394.2).bind fun t398 => (some t398))) = some r := H
  have A3 := Aside0.mk A30
  clear A30
  replace H := Option.bind_eq_some_iff.mp H
  obtain ⟨⟨t394, t395⟩, A40, H⟩ := H
  replace H : ((cobwebref01_Cmp.f k t390 t391 t394 t395).bind fun t398 => (some t398)) = some r := H
  have A4 := Aside0.mk A40
  clear A40
  replace H := Option.bind_eq_some_iff.mp H
  obtain ⟨t398, A50, H⟩ := H
  replace H : (some t398) = some r := H
  have A5 := Aside0.mk A50
  clear A50
  obtain rfl := Option.some.inj H
  go_enter Try.func17, Try.ntmps17
  try go_wp2_with (first | ((with_reducible refine gate_dst (N := 2) rfl ?_); refine box_event ?hg (N := 2) ?hd (cs := #[.bool a0_0, .slice A0_1 l0_1.length c0_1, .bool a0_2, .slice A0_3 l0_3.length c0_3]) (t := 35) ?hr ?_; (case hd => rfl); (case hg => rfl); (case hr => first | (go_simp; done) | (go_simp; rfl)); intro gb388 hg w6 hbox hb; have BK388 := Aside0.mk (hbox); have GW388 := kS HB hg; have GE388 := kS HB hg; replace HB := kB HB hb; clear hb hbox hg) | ((with_reducible refine gate_dst (N := 3) rfl ?_); refine box_event ?hg (N := 3) ?hd (cs := #[.bool a1_0, .slice A1_1 l1_1.length c1_1, .bool a1_2, .slice A1_3 l1_3.length c1_3]) (t := 35) ?hr ?_; (case hd => rfl); (case hg => rfl); (case hr => first | (go_simp; done) | (go_simp; rfl)); intro gb389 hg w7 hbox hb; have BK389 := Aside0.mk (hbox); have GW389 := kS HB hg; have GE389 := kS HB hg; have NB388_389 := kN BK388 hg; have NB389_388 := kM BK388 hg; replace BK388 := kb BK388 hb; replace HB := kB HB hb; clear hb hbox hg))
  replace BK388 := Aside0.mk (blk_drew BK388.out)
  replace BK389 := Aside0.mk (blk_drew BK389.out)
  replace HB := Aside0.mk (below_drew1 HB.out)
  refine start_ (n := 12) (S := fun w' => w'.cell? ⟨gb388, 0, none⟩ = some (.bool a0_0) ∧ w'.cell? ⟨gb388, 1, none⟩ = some (.slice A0_1 l0_1.length c0_1) ∧ w'.cell? ⟨gb388, 2, none⟩ = some (.bool a0_2) ∧ w'.cell? ⟨gb388, 3, none⟩ = some (.slice A0_3 l0_3.length c0_3) ∧ w'.cell? ⟨gb389, 0, none⟩ = some (.bool a1_0) ∧ w'.cell? ⟨gb389, 1, none⟩ = some (.slice A1_1 l1_1.length c1_1) ∧ w'.cell? ⟨gb389, 2, none⟩ = some (.bool a1_2) ∧ w'.cell? ⟨gb389, 3, none⟩ = some (.slice A1_3 l1_3.length c1_3)) (ds := []) #[O, O, O, O, O, O, O, O, O, O, O, O] (by kernel_rfl) rfl rfl ⟨kc BK388 0, kc BK388 1, kc BK388 2, kc BK388 3, kc BK389 0, kc BK389 1, kc BK389 2, kc BK389 3⟩ (fun hHeld => ?_); refine with_tabW cobwebref02_Cmp.tab1 cobwebref02_Cmp.bits1 (fun HT_ HW_ => ?_)
  generalize w7.drew = w8 at BK388 BK389 HB hHeld ⊢
  refine pure_ (i := 0) (N := some 5) (v := ?_) (a' := ?_) #[T, O, O, O, O, O, O, O, O, O, O, O] rfl rfl (any_of HT_.out (by kernel_rfl)) (fun _ _ _ h => h) (Or.inl ⟨by rfl, ?_⟩) ?_ ?_; rotate_left; focus (intro w'; go_simp; with_reducible rfl)
  rotate_left; focus (simp only [Act.put, s1, s2, s3, i64_w, i32_w]; rfl)
  refine pure_ (i := 2) (N := some 7) (v := ?_) (a' := ?_) #[T, O, T, O, O, O, O, O, O, O, O, O] rfl rfl (any_of HT_.out (by kernel_rfl)) (fun _ _ _ h => h) (Or.inl ⟨by rfl, ?_⟩) ?_ ?_; rotate_left; focus (intro w'; go_simp; with_reducible rfl)
  rotate_left; focus (simp only [Act.put, s1, s2, s3, i64_w, i32_w]; rfl)
  refine pure_ (i := 5) (N := some 10) (v := ?_) (a' := ?_) #[T, O, T, O, O, T, O, O, O, O, O, O] rfl rfl (any_of HT_.out (by kernel_rfl)) (fun _ _ _ h => h) (Or.inl ⟨by rfl, ?_⟩) ?_ ?_; rotate_left; focus (intro w'; go_simp; with_reducible rfl)
  rotate_left; focus (simp only [Act.put, s1, s2, s3, i64_w, i32_w]; rfl)
  refine pure_ (i := 7) (N := some 12) (v := ?_) (a' := ?_) #[T, O, T, O, O, T, O, T, O, O, O, O] rfl rfl (any_of HT_.out (by kernel_rfl)) (fun _ _ _ h => h) (Or.inl ⟨by rfl, ?_⟩) ?_ ?_; rotate_left; focus (intro w'; go_simp; with_reducible rfl)
  rotate_left; focus (simp only [Act.put, s1, s2, s3, i64_w, i32_w]; rfl)
  refine take_ (i := 1) (N := some 6) (v := ?_) (a' := ?_) #[T, T, T, O, O, T, O, T, O, O, O, O] rfl rfl (take_ofW HT_.out HW_.out (by kernel_rfl)) (fun _ _ _ h => h) (Or.inl ⟨by rfl, ?_⟩) hHeld ?_ ?_; rotate_left; focus (rintro w' ⟨s0, s1, s2, s3, s4, s5, s6, s7⟩; go_simp; with_reducible rfl)
  rotate_left; focus (simp only [Act.put, s1, s2, s3, i64_w, i32_w]; rfl)
  refine take_ (i := 3) (N := some 8) (v := ?_) (a' := ?_) #[T, T, T, T, O, T, O, T, O, O, O, O] rfl rfl (take_ofW HT_.out HW_.out (by kernel_rfl)) (fun _ _ _ h => h) (Or.inl ⟨by rfl, ?_⟩) hHeld ?_ ?_; rotate_left; focus (rintro w' ⟨s0, s1, s2, s3, s4, s5, s6, s7⟩; go_simp; with_reducible rfl)
  rotate_left; focus (simp only [Act.put, s1, s2, s3, i64_w, i32_w]; rfl)
  refine take_ (i := 6) (N := some 11) (v := ?_) (a' := ?_) #[T, T, T, T, O, T, T, T, O, O, O, O] rfl rfl (take_ofW HT_.out HW_.out (by kernel_rfl)) (fun _ _ _ h => h) (Or.inl ⟨by rfl, ?_⟩) hHeld ?_ ?_; rotate_left; focus (rintro w' ⟨s0, s1, s2, s3, s4, s5, s6, s7⟩; go_simp; with_reducible rfl)
  rotate_left; focus (simp only [Act.put, s1, s2, s3, i64_w, i32_w]; rfl)
  refine take_ (i := 8) (N := some 13) (v := ?_) (a' := ?_) #[T, T, T, T, O, T, T, T, T, O, O, O] rfl rfl (take_ofW HT_.out HW_.out (by kernel_rfl)) (fun _ _ _ h => h) (Or.inl ⟨by rfl, ?_⟩) hHeld ?_ ?_; rotate_left; focus (rintro w' ⟨s0, s1, s2, s3, s4, s5, s6, s7⟩; go_simp; with_reducible rfl)
  rotate_left; focus (simp only [Act.put, s1, s2, s3, i64_w, i32_w]; rfl)
  refine one_ (i := 4) (N := some 9) #[T, T, T, T, T, T, T, T, T, O, O, O] rfl rfl (one_of HT_.out (by kernel_rfl)) (by decide) (fun K hK => ?_)
  refine goes_ Try.func51 (by kernel_rfl) rfl #[.agg #[.bool a0_0, .slice A0_1 l0_1.length c0_1], .agg #[.bool a1_2, .slice A1_3 l1_3.length c1_3]] (by rfl) rfl rfl (by (try simp only [List.map_toArray, List.map_cons, List.map_nil]); first | done | rfl | (simp only [List.length_drop, List.length_take]; rfl)) ?_
  with_reducible refine (cobwebref01_Mul.calls k a0_0 _ _ l0_1 a1_2 _ _ l1_3 t390 t391 _ ?side1 ?side2 ?side3 ?side4 A3.out).mono ?_
  (case side1 => repeat (first | exact (Kd.C_below HR0_1.out HB.out) | (with_reducible refine Kd.C_alloc ?_ _) | (with_reducible refine Kd.C_drewN ?_ _) | (with_reducible refine Kd.C_drew ?_)))
  (case side2 => exact HC0_1.out)
  (case side3 => repeat (first | exact (Kd.C_below HR1_3.out HB.out) | (with_reducible refine Kd.C_alloc ?_ _) | (with_reducible refine Kd.C_drewN ?_ _) | (with_reducible refine Kd.C_drew ?_)))
  (case side4 => exact HC1_3.out)
  rintro e w9 ⟨v392, rfl, ho0, hb⟩
  refine ⟨_, rfl, ?_⟩
  have HO393 := Aside0.mk (Kd.V_lower (Kd.V_mono (ok' := fun k_ => k_ ≠ gb388 ∧ k_ ≠ gb389) ho0 (fun k_ hk_ => ⟨(Kd.freshB (g := gb388) (o := .cells #[.bool a0_0, .slice A0_1 l0_1.length c0_1, .bool a0_2, .slice A0_3 l0_3.length c0_3] 35 (0, 0)) (kx BK388) k_ hk_), (Kd.freshB (g := gb389) (o := .cells #[.bool a1_0, .slice A1_1 l1_1.length c1_1, .bool a1_2, .slice A1_3 l1_3.length c1_3] 35 (0, 0)) (kx BK389) k_ hk_)⟩)) (below_size (ky HB)))
  replace BK388 := kb BK388 hb
  replace BK389 := kb BK389 hb
  replace HB := kB HB hb
  (try clear hb); (try clear hb2); (try clear hk); (try clear hi); (try clear ho0)
  refine hK.out _ _ ⟨kc BK388 0, kc BK388 1, kc BK388 2, kc BK388 3, kc BK389 0, kc BK389 1, kc BK389 2, kc BK389 3⟩ (fun hHeld => ?_)
  clear hK K
  refine norm_ (a' := ?_) ?_ ?_; rotate_left; focus (show Act.put _ (some 9) _ = _; simp only [Act.put, s1, s2, s3, i64_w, i32_w]; rfl)
  refine one_ (i := 9) (N := some 14) #[T, T, T, T, T, T, T, T, T, T, O, O] rfl rfl (one_of HT_.out (by kernel_rfl)) (by decide) (fun K hK => ?_)
  refine goes_ Try.func51 (by kernel_rfl) rfl #[.agg #[.bool a1_0, .slice A1_1 l1_1.length c1_1], .agg #[.bool a0_2, .slice A0_3 l0_3.length c0_3]] (by rfl) rfl rfl (by (try simp only [List.map_toArray, List.map_cons, List.map_nil]); first | done | rfl | (simp only [List.length_drop, List.length_take]; rfl)) ?_
  with_reducible refine (cobwebref01_Mul.calls k a1_0 _ _ l1_1 a0_2 _ _ l0_3 t394 t395 _ ?side1 ?side2 ?side3 ?side4 A4.out).mono ?_
  (case side1 => repeat (first | exact (Kd.C_below HR1_1.out HB.out) | (with_reducible refine Kd.C_alloc ?_ _) | (with_reducible refine Kd.C_drewN ?_ _) | (with_reducible refine Kd.C_drew ?_)))
  (case side2 => exact HC1_1.out)
  (case side3 => repeat (first | exact (Kd.C_below HR0_3.out HB.out) | (with_reducible refine Kd.C_alloc ?_ _) | (with_reducible refine Kd.C_drewN ?_ _) | (with_reducible refine Kd.C_drew ?_)))
  (case side4 => exact HC0_3.out)
  rintro e w10 ⟨v396, rfl, ho0, hb⟩
  refine ⟨_, rfl, ?_⟩
  have HO397 := Aside0.mk (Kd.V_lower (Kd.V_mono (ok' := fun k_ => k_ ≠ gb388 ∧ k_ ≠ gb389) ho0 (fun k_ hk_ => ⟨(Kd.freshB (g := gb388) (o := .cells #[.bool a0_0, .slice A0_1 l0_1.length c0_1, .bool a0_2, .slice A0_3 l0_3.length c0_3] 35 (0, 0)) (kx BK388) k_ hk_), (Kd.freshB (g := gb389) (o := .cells #[.bool a1_0, .slice A1_1 l1_1.length c1_1, .bool a1_2, .slice A1_3 l1_3.length c1_3] 35 (0, 0)) (kx BK389) k_ hk_)⟩)) (below_size (ky HB)))
  replace HO393 := kV HO393 hb
  replace BK388 := kb BK388 hb
  replace BK389 := kb BK389 hb
  replace HB := kB HB hb
  (try clear hb); (try clear hb2); (try clear hk); (try clear hi); (try clear ho0)
  obtain ⟨Ao11, co11, eo11⟩ := Kd.V_slice HO393.out
  (first | subst eo11 | (injection eo11 with f1_ f2_ f3_; have f4_ := f1_.symm; have f5_ := f3_.symm; clear f1_ f2_ f3_; subst f4_; subst f5_))
  obtain ⟨Ao12, co12, eo12⟩ := Kd.V_slice HO397.out
  (first | subst eo12 | (injection eo12 with f1_ f2_ f3_; have f4_ := f1_.symm; have f5_ := f3_.symm; clear f1_ f2_ f3_; subst f4_; subst f5_))
  refine hK.out _ _ ⟨kc BK388 0, kc BK388 1, kc BK388 2, kc BK388 3, kc BK389 0, kc BK389 1, kc BK389 2, kc BK389 3⟩ (fun hHeld => ?_)
  clear hK K
  refine norm_ (a' := ?_) ?_ ?_; rotate_left; focus (show Act.put _ (some 14) _ = _; simp only [Act.put, s1, s2, s3, i64_w, i32_w]; rfl)
  refine one_ (i := 10) (N := some 15) #[T, T, T, T, T, T, T, T, T, T, T, O] rfl rfl (one_of HT_.out (by kernel_rfl)) (by decide) (fun K hK => ?_)
  refine goes_ Try.func21 (by kernel_rfl) rfl #[.agg #[.bool t390, .slice Ao11 t391.length co11], .agg #[.bool t394, .slice Ao12 t395.length co12]] (by rfl) rfl rfl (by (try simp only [List.map_toArray, List.map_cons, List.map_nil]); first | done | rfl | (simp only [List.length_drop, List.length_take]; rfl)) ?_
  with_reducible refine (cobwebref01_Cmp.calls k t390 _ _ t391 t394 _ _ t395 t398 _ ?side1 ?side2 ?side3 ?side4 A5.out).mono ?_
  (case side1 => repeat (first | exact (Kd.V_reads' HO393.out).2.2 | (with_reducible refine Kd.C_alloc ?_ _) | (with_reducible refine Kd.C_drewN ?_ _) | (with_reducible refine Kd.C_drew ?_)))
  (case side2 => exact (Kd.V_reads' HO393.out).2.1)
  (case side3 => repeat (first | exact (Kd.V_reads' HO397.out).2.2 | (with_reducible refine Kd.C_alloc ?_ _) | (with_reducible refine Kd.C_drewN ?_ _) | (with_reducible refine Kd.C_drew ?_)))
  (case side4 => exact (Kd.V_reads' HO397.out).2.1)
  rintro e w13 ⟨rfl, hb⟩
  refine ⟨_, rfl, ?_⟩
  replace HO393 := kV HO393 hb
  replace HO397 := kV HO397 hb
  replace BK388 := kb BK388 hb
  replace BK389 := kb BK389 hb
  replace HB := kB HB hb
  (try clear hb); (try clear hb2); (try clear hk); (try clear hi)
  refine hK.out _ _ ⟨kc BK388 0, kc BK388 1, kc BK388 2, kc BK388 3, kc BK389 0, kc BK389 1, kc BK389 2, kc BK389 3⟩ (fun hHeld => ?_)
  clear hK K
  refine norm_ (a' := ?_) ?_ ?_; rotate_left; focus (show Act.put _ (some 15) _ = _; simp only [Act.put, s1, s2, s3, i64_w, i32_w]; rfl)
  refine pure_ (i := 11) (N := some 4) (v := ?_) (a' := ?_) #[T, T, T, T, T, T, T, T, T, T, T, T] rfl rfl (any_of HT_.out (by kernel_rfl)) (fun _ _ _ h => h) (Or.inl ⟨by rfl, ?_⟩) ?_ ?_; rotate_left; focus (intro w'; go_simp; with_reducible rfl)
  rotate_left; focus (simp only [Act.put, s1, s2, s3, i64_w, i32_w]; rfl)
  refine done_ (done_of HT_.out (by kernel_rfl)) ?_
  try go_wp2
  go_ret
  exact ⟨by first | rfl | (simp [errW_none, errW_some] <;> rfl) | (simp [*, errW_none, errW_some] <;> rfl), ky HB⟩

/-! ### cobweblaw02_FracOrders: function 3 -/
def cobweblaw02_FracOrders.j0 : Nat → Int → Bool → Int → Int → Int → Int → Int → Int → Int → Int → Option (Bool)
  | 0, _, _, _, _, _, _, _, _, _, _ => none
  | k + 1, x5, x18, x501000, x501001, x501002, x501003, x502000, x502001, x502002, x502003 => if x18 = true then ((cobweblaw02_alive.f k).bind fun t505 => (if t505 = true then (some (x5 == 0)) else (none))) else ((cobweblaw02_alive.f k).bind fun t506 => (if t506 = true then ((cobweblaw02_Old.f k x501000 x501001 x501002 x501003).bind fun bt507 => ((cobweblaw02_Old.f k x502000 x502001 x502002 x502003).bind fun bt515 => ((cobwebref02_Cmp.f k bt507.1 bt507.2.1 bt507.2.2.1 bt507.2.2.2 bt515.1 bt515.2.1 bt515.2.2.1 bt515.2.2.2).bind fun t523 => (if x5 = t523 then ((frac_Cmp.f k x502000 x502001 x502002 x502003 x501000 x501001 x501002 x501003).bind fun t524 => (if t524 = (wrap64 (-x5)) then ((frac_Cmp.f k x501000 x501001 x501002 x501003 x501000 x501001 x501002 x501003).bind fun t525 => (some (t525 == 0))) else (none))) else (none))))) else (none)))
def cobweblaw02_FracOrders.f (k : Nat) (a0_0 : Int) (a0_1 : Int) (a0_2 : Int) (a0_3 : Int) (a1_0 : Int) (a1_1 : Int) (a1_2 : Int) (a1_3 : Int) : Option (Bool) := (frac_Cmp.f k a0_0 a0_1 a0_2 a0_3 a1_0 a1_1 a1_2 a1_3).bind fun t502 => ((wide_Sign.f a0_2 a0_3).bind fun t503 => (if t503 ≤ 0 then (cobweblaw02_FracOrders.j0 k t502 true a0_0 a0_1 a0_2 a0_3 a1_0 a1_1 a1_2 a1_3) else ((wide_Sign.f a1_2 a1_3).bind fun t504 => (cobweblaw02_FracOrders.j0 k t502 (decide (t504 ≤ 0)) a0_0 a0_1 a0_2 a0_3 a1_0 a1_1 a1_2 a1_3))))
theorem cobweblaw02_FracOrders.mono_l : ∀ k, (∀ y0 y1 y2 y3 y4 y5 y6 y7 y8 y9, LeO (cobweblaw02_FracOrders.j0 k y0 y1 y2 y3 y4 y5 y6 y7 y8 y9) (cobweblaw02_FracOrders.j0 (k + 1) y0 y1 y2 y3 y4 y5 y6 y7 y8 y9))
  | 0 => fun _ _ _ _ _ _ _ _ _ _ r h => by simp [cobweblaw02_FracOrders.j0] at h
  | k + 1 => by
    have ih0 := cobweblaw02_FracOrders.mono_l k
    · intro y0 y1 y2 y3 y4 y5 y6 y7 y8 y9
      unfold cobweblaw02_FracOrders.j0
      repeat' first
      | (with_reducible exact ih0 _ _ _ _ _ _ _ _ _ _)
      | (with_reducible exact cobweblaw02_Old.mono _ _ _ _ _)
      | (with_reducible exact cobweblaw02_alive.mono _)
      | (with_reducible exact cobwebref02_Cmp.mono _ _ _ _ _ _ _ _ _)
      | (with_reducible exact frac_Cmp.mono _ _ _ _ _ _ _ _ _)
      | (with_reducible exact LeO.refl _)
      | (with_reducible exact LeO.none _)
      | (with_reducible refine LeO.ite ?_ ?_)
      | (with_reducible refine LeO.bind ?_ (fun _ => ?_))
      | exact ih0 _ _ _ _ _ _ _ _ _ _
      | exact cobweblaw02_Old.mono _ _ _ _ _
      | exact cobweblaw02_alive.mono _
      | exact cobwebref02_Cmp.mono _ _ _ _ _ _ _ _ _
      | exact frac_Cmp.mono _ _ _ _ _ _ _ _ _
      | exact LeO.none _
      | refine LeO.ite ?_ ?_
      | refine LeO.bind ?_ (fun _ => ?_)
theorem cobweblaw02_FracOrders.mono : ∀ a0 a1 a2 a3 a4 a5 a6 a7 k, LeO (cobweblaw02_FracOrders.f k a0 a1 a2 a3 a4 a5 a6 a7) (cobweblaw02_FracOrders.f (k + 1) a0 a1 a2 a3 a4 a5 a6 a7) := by
  intro a0 a1 a2 a3 a4 a5 a6 a7 k
  have ih0 := cobweblaw02_FracOrders.mono_l k
  unfold cobweblaw02_FracOrders.f
  repeat' first
      | (with_reducible exact ih0 _ _ _ _ _ _ _ _ _ _)
      | (with_reducible exact cobweblaw02_Old.mono _ _ _ _ _)
      | (with_reducible exact cobweblaw02_alive.mono _)
      | (with_reducible exact cobwebref02_Cmp.mono _ _ _ _ _ _ _ _ _)
      | (with_reducible exact frac_Cmp.mono _ _ _ _ _ _ _ _ _)
      | (with_reducible exact LeO.refl _)
      | (with_reducible exact LeO.none _)
      | (with_reducible refine LeO.ite ?_ ?_)
      | (with_reducible refine LeO.bind ?_ (fun _ => ?_))
      | exact ih0 _ _ _ _ _ _ _ _ _ _
      | exact cobweblaw02_Old.mono _ _ _ _ _
      | exact cobweblaw02_alive.mono _
      | exact cobwebref02_Cmp.mono _ _ _ _ _ _ _ _ _
      | exact frac_Cmp.mono _ _ _ _ _ _ _ _ _
      | exact LeO.none _
      | refine LeO.ite ?_ ?_
      | refine LeO.bind ?_ (fun _ => ?_)
def cobweblaw02_FracOrders.T4 : Bool × List (List Nat × List Nat) := (true, [([], []), ([0, 0], [0]), ([1], [1]), ([1], [1]), ([3, 1, 1], [1, 3]), ([1], [1]), ([5, 4, 1], [1, 5]), ([4, 6, 6, 1], [1, 4, 6]), ([2, 7, 1], [1, 2, 7]), ([1, 8], [1, 8]), ([9, 7], [9]), ([10], [10]), ([10], [10]), ([11, 12, 10, 10], [10, 11, 12]), ([10], [10]), ([14, 10], [10, 14]), ([13, 15, 10], [10, 13, 15]), ([10, 16], [10, 16]), ([17, 13], [17]), ([18], [18]), ([18], [18]), ([19, 20, 18, 18], [18, 19, 20]), ([21, 18], [18, 21]), ([18, 22], [18, 22]), ([23, 21, 0, 1, 2, 3, 4, 5, 6, 7, 8, 9, 10, 11, 12, 13, 14, 15, 16, 17, 18, 19, 20, 21, 22, 23], [23])])
def cobweblaw02_FracOrders.B4 : List Nat := [0, 1, 3, 3, 11, 3, 59, 123, 255, 511, 1023, 2047, 2047, 8191, 2047, 18431, 65535, 131071, 262143, 524287, 524287, 2097151, 4194303, 8388607, 16777215]
theorem cobweblaw02_FracOrders.tab4 : rtab .any (opsOf Try.f3 4) = cobweblaw02_FracOrders.T4 := by kernel_rfl
theorem cobweblaw02_FracOrders.bits4 : waitsOk cobweblaw02_FracOrders.T4.2 cobweblaw02_FracOrders.B4 = true := by kernel_rfl
set_option maxHeartbeats 8000000 in
set_option maxRecDepth 100000 in
theorem cobweblaw02_FracOrders.calls (k : Nat) (a0_0 : Int) (a0_1 : Int) (a0_2 : Int) (a0_3 : Int) (a1_0 : Int) (a1_1 : Int) (a1_2 : Int) (a1_3 : Int) (r : Bool) (w : World) (h : cobweblaw02_FracOrders.f k a0_0 a0_1 a0_2 a0_3 a1_0 a1_1 a1_2 a1_3 = some r) :
    Calls Try.prog 3 #[.agg #[.int .i64 a0_0, .int .u64 a0_1, .int .i64 a0_2, .int .u64 a0_3], .agg #[.int .i64 a1_0, .int .u64 a1_1, .int .i64 a1_2, .int .u64 a1_3]] w fun e w' => e = .returned (.bool r) ∧ Below w.heap.size w w' := by
  have hu26 := Try.underlying26
  have hu24 := Try.underlying24
  have HB := Aside0.mk (Below.refl w.heap.size w)
  have H : ((frac_Cmp.f k a0_0 a0_1 a0_2 a0_3 a1_0 a1_1 a1_2 a1_3).bind fun t502 => ((wide_Sign.f a0_2 a0_3).bind fun t503 => (if t503 ≤ 0 then (cobweblaw02_FracOrders.j0 k t502 true a0_0 a0_1 a0_2 a0_3 a1_0 a1_1 a1_2 a1_3) else ((wide_Sign.f a1_2 a1_3).bind fun t504 => (cobweblaw02_FracOrders.j0 k t502 (decide (t504 ≤ 0)) a0_0 a0_1 a0_2 a0_3 a1_0 a1_1 a1_2 a1_3))))) = some r := h
  clear h
  replace H := Option.bind_eq_some_iff.mp H
  obtain ⟨t502, A30, H⟩ := H
  replace H : ((wide_Sign.f a0_2 a0_3).bind fun t503 => (if t503 ≤ 0 then (cobweblaw02_FracOrders.j0 k t502 true a0_0 a0_1 a0_2 a0_3 a1_0 a1_1 a1_2 a1_3) else ((wide_Sign.f a1_2 a1_3).bind fun t504 => (cobweblaw02_FracOrders.j0 k t502 (decide (t504 ≤ 0)) a0_0 a0_1 a0_2 a0_3 a1_0 a1_1 a1_2 a1_3)))) = some r := H
  have A3 := Aside0.mk A30
  clear A30
  have HC4 := Aside0.mk H
  clear H
  go_enter Try.func3, Try.ntmps3
  go_upto_region 2 with (first | ((with_reducible refine gate_dst (N := 2) rfl ?_); refine box_event ?hg (N := 2) ?hd (cs := #[.int .i64 a0_0, .int .u64 a0_1, .int .i64 a0_2, .int .u64 a0_3]) (t := 26) ?hr ?_; (case hd => rfl); (case hg => rfl); (case hr => first | (go_simp; done) | (go_simp; rfl)); intro gb500 hg w5 hbox hb; have BK500 := Aside0.mk (hbox); have GW500 := kS HB hg; have GE500 := kS HB hg; replace HB := kB HB hb; clear hb hbox hg) | ((with_reducible refine gate_dst (N := 3) rfl ?_); refine box_event ?hg (N := 3) ?hd (cs := #[.int .i64 a1_0, .int .u64 a1_1, .int .i64 a1_2, .int .u64 a1_3]) (t := 26) ?hr ?_; (case hd => rfl); (case hg => rfl); (case hr => first | (go_simp; done) | (go_simp; rfl)); intro gb501 hg w6 hbox hb; have BK501 := Aside0.mk (hbox); have GW501 := kS HB hg; have GE501 := kS HB hg; have NB500_501 := kN BK500 hg; have NB501_500 := kM BK500 hg; replace BK500 := kb BK500 hb; replace HB := kB HB hb; clear hb hbox hg; have hnb7 := NB500_501.out; have hnc7 := NB501_500.out; have hcz8_0 : w6.cell? ⟨gb500, 0, none⟩ = some (.int .i64 a0_0) := kc BK500 0; have hcz8_1 : w6.cell? ⟨gb500, 1, none⟩ = some (.int .u64 a0_1) := kc BK500 1; have hcz8_2 : w6.cell? ⟨gb500, 2, none⟩ = some (.int .i64 a0_2) := kc BK500 2; have hcz8_3 : w6.cell? ⟨gb500, 3, none⟩ = some (.int .u64 a0_3) := kc BK500 3; have hfz8_0 := blk_frozen BK500.out 0; have hfz8_1 := blk_frozen BK500.out 1; have hfz8_2 := blk_frozen BK500.out 2; have hfz8_3 := blk_frozen BK500.out 3; have hcz9_0 : w6.cell? ⟨gb501, 0, none⟩ = some (.int .i64 a1_0) := kc BK501 0; have hcz9_1 : w6.cell? ⟨gb501, 1, none⟩ = some (.int .u64 a1_1) := kc BK501 1; have hcz9_2 : w6.cell? ⟨gb501, 2, none⟩ = some (.int .i64 a1_2) := kc BK501 2; have hcz9_3 : w6.cell? ⟨gb501, 3, none⟩ = some (.int .u64 a1_3) := kc BK501 3; have hfz9_0 := blk_frozen BK501.out 0; have hfz9_1 := blk_frozen BK501.out 1; have hfz9_2 := blk_frozen BK501.out 2; have hfz9_3 := blk_frozen BK501.out 3) | ((with_reducible refine gate_callee (f := 14) rfl ?_); refine goesL_ (some 8) rfl rfl Try.func14 (by kernel_rfl) rfl #[.agg #[.int .i64 a0_0, .int .u64 a0_1, .int .i64 a0_2, .int .u64 a0_3], .agg #[.int .i64 a1_0, .int .u64 a1_1, .int .i64 a1_2, .int .u64 a1_3]] rfl (by (try simp only [List.map_toArray, List.map_cons, List.map_nil]); first | done | rfl | (simp only [List.length_drop, List.length_take]; rfl)) ?_; (with_reducible refine (frac_Cmp.calls k a0_0 a0_1 a0_2 a0_3 a1_0 a1_1 a1_2 a1_3 t502 _ A3.out).mono ?_); rintro e w10 ⟨rfl, hb⟩; refine ⟨_, rfl, ?_⟩; replace BK500 := kb BK500 hb; replace BK501 := kb BK501 hb; replace HB := kB HB hb; (try clear hb); (try clear hb2); (try clear hk); (try clear hi)))
  (try simp only [Act.put, s1, s2, s3])
  go_cut [18] (fun v18 wc => ∃ (kq : Nat) (x18_3 : Bool), v18 = .bool x18_3 ∧ Aside0 (cobweblaw02_FracOrders.j0 kq t502 x18_3 a0_0 a0_1 a0_2 a0_3 a1_0 a1_1 a1_2 a1_3 = some r) ∧ Aside0 (kq ≤ k) ∧ Aside0 (wc.heap[gb500]? = some (.cells #[.int .i64 a0_0, .int .u64 a0_1, .int .i64 a0_2, .int .u64 a0_3] 26 (0, 0))) ∧ Aside0 (wc.heap[gb501]? = some (.cells #[.int .i64 a1_0, .int .u64 a1_1, .int .i64 a1_2, .int .u64 a1_3] 26 (0, 0))) ∧ Aside0 (Below w.heap.size w wc))
  case first =>
    have H := HC4.out; clear HC4
    replace H := Option.bind_eq_some_iff.mp H
    obtain ⟨t503, A110, H⟩ := H
    replace H : (if t503 ≤ 0 then (cobweblaw02_FracOrders.j0 k t502 true a0_0 a0_1 a0_2 a0_3 a1_0 a1_1 a1_2 a1_3) else ((wide_Sign.f a1_2 a1_3).bind fun t504 => (cobweblaw02_FracOrders.j0 k t502 (decide (t504 ≤ 0)) a0_0 a0_1 a0_2 a0_3 a1_0 a1_1 a1_2 a1_3))) = some r := H
    have A11 := Aside0.mk A110
    clear A110
    by_cases c12 : t503 ≤ 0
    · rw [if_pos c12] at H
      have c12b0 : decide (t503 ≤ 0) = true := decide_eq_true c12
      clear c12
      (first | rw [c12b0] | (simp only [i64_w, i32_w]; rw [c12b0]) | skip)
      have H' := Aside0.mk H
      clear H; have hnb13 := NB500_501.out; have hnc13 := NB501_500.out
      have hcz14_0 : w10.cell? ⟨gb500, 0, none⟩ = some (.int .i64 a0_0) := kc BK500 0
      have hcz14_1 : w10.cell? ⟨gb500, 1, none⟩ = some (.int .u64 a0_1) := kc BK500 1
      have hcz14_2 : w10.cell? ⟨gb500, 2, none⟩ = some (.int .i64 a0_2) := kc BK500 2
      have hcz14_3 : w10.cell? ⟨gb500, 3, none⟩ = some (.int .u64 a0_3) := kc BK500 3
      have hfz14_0 := blk_frozen BK500.out 0
      have hfz14_1 := blk_frozen BK500.out 1
      have hfz14_2 := blk_frozen BK500.out 2
      have hfz14_3 := blk_frozen BK500.out 3
      go_wp2_with (first | ((with_reducible refine gate_callee (f := 15) rfl ?_); refine goesL_ (some 11) rfl rfl Try.func15 (by kernel_rfl) rfl #[.agg #[.int .i64 a0_2, .int .u64 a0_3]] rfl (by (try simp only [List.map_toArray, List.map_cons, List.map_nil]); first | done | rfl | (simp only [List.length_drop, List.length_take]; rfl)) ?_; (with_reducible refine (wide_Sign.calls a0_2 a0_3 t503 _ A11.out).mono ?_); rintro e w15 ⟨rfl, hb⟩; refine ⟨_, rfl, ?_⟩; replace BK500 := kb BK500 hb; replace BK501 := kb BK501 hb; replace HB := kB HB hb; (try clear hb); (try clear hb2); (try clear hk); (try clear hi)))
      go_meet
      case rel => exact ⟨_, (true), (by first | rfl | (simp; done) | (simp [*]; done)), H', ⟨by first | omega | exact Nat.le_refl _⟩, ⟨kx BK500⟩, ⟨kx BK501⟩, ⟨ky HB⟩⟩
    rw [if_neg c12] at H
    have c12b0 : decide (t503 ≤ 0) = false := decide_eq_false c12
    clear c12
    (first | rw [c12b0] | (simp only [i64_w, i32_w]; rw [c12b0]) | skip)
    replace H := Option.bind_eq_some_iff.mp H
    obtain ⟨t504, A160, H⟩ := H
    replace H : (cobweblaw02_FracOrders.j0 k t502 (decide (t504 ≤ 0)) a0_0 a0_1 a0_2 a0_3 a1_0 a1_1 a1_2 a1_3) = some r := H
    have A16 := Aside0.mk A160
    clear A160
    have H' := Aside0.mk H
    clear H; have hnb17 := NB500_501.out; have hnc17 := NB501_500.out
    have hcz18_0 : w10.cell? ⟨gb500, 0, none⟩ = some (.int .i64 a0_0) := kc BK500 0
    have hcz18_1 : w10.cell? ⟨gb500, 1, none⟩ = some (.int .u64 a0_1) := kc BK500 1
    have hcz18_2 : w10.cell? ⟨gb500, 2, none⟩ = some (.int .i64 a0_2) := kc BK500 2
    have hcz18_3 : w10.cell? ⟨gb500, 3, none⟩ = some (.int .u64 a0_3) := kc BK500 3
    have hfz18_0 := blk_frozen BK500.out 0
    have hfz18_1 := blk_frozen BK500.out 1
    have hfz18_2 := blk_frozen BK500.out 2
    have hfz18_3 := blk_frozen BK500.out 3
    go_wp2_with (first | ((with_reducible refine gate_callee (f := 15) rfl ?_); refine goesL_ (some 11) rfl rfl Try.func15 (by kernel_rfl) rfl #[.agg #[.int .i64 a0_2, .int .u64 a0_3]] rfl (by (try simp only [List.map_toArray, List.map_cons, List.map_nil]); first | done | rfl | (simp only [List.length_drop, List.length_take]; rfl)) ?_; (with_reducible refine (wide_Sign.calls a0_2 a0_3 t503 _ A11.out).mono ?_); rintro e w19 ⟨rfl, hb⟩; refine ⟨_, rfl, ?_⟩; replace BK500 := kb BK500 hb; replace BK501 := kb BK501 hb; replace HB := kB HB hb; (try clear hb); (try clear hb2); (try clear hk); (try clear hi); have hcz20_0 : w19.cell? ⟨gb501, 0, none⟩ = some (.int .i64 a1_0) := kc BK501 0; have hcz20_1 : w19.cell? ⟨gb501, 1, none⟩ = some (.int .u64 a1_1) := kc BK501 1; have hcz20_2 : w19.cell? ⟨gb501, 2, none⟩ = some (.int .i64 a1_2) := kc BK501 2; have hcz20_3 : w19.cell? ⟨gb501, 3, none⟩ = some (.int .u64 a1_3) := kc BK501 3; have hfz20_0 := blk_frozen BK501.out 0; have hfz20_1 := blk_frozen BK501.out 1; have hfz20_2 := blk_frozen BK501.out 2; have hfz20_3 := blk_frozen BK501.out 3) | (go_at_call 15; (with_reducible refine (wide_Sign.calls a1_2 a1_3 t504 _ A16.out).mono ?_); rintro e w21 ⟨rfl, hb⟩; replace BK500 := kb BK500 hb; replace BK501 := kb BK501 hb; replace HB := kB HB hb; (try clear hb); (try clear hb2); (try clear hk); (try clear hi)))
    go_meet
    case rel => exact ⟨_, (decide (t504 ≤ 0)), (by first | rfl | (simp; done) | (simp [*]; done)), H', ⟨by first | omega | exact Nat.le_refl _⟩, ⟨kx BK500⟩, ⟨kx BK501⟩, ⟨ky HB⟩⟩
  case rest =>
    clear HC4; try clear c1; try clear p2; try clear c3; try clear c7; try clear c12; try clear c12b0; try clear c13; try clear c14; try clear c15; try clear c17; try clear hcz14_0; try clear hcz14_1; try clear hcz14_2; try clear hcz14_3; try clear hcz18_0; try clear hcz18_1; try clear hcz18_2; try clear hcz18_3; try clear hcz20_0; try clear hcz20_1; try clear hcz20_2; try clear hcz20_3; try clear hcz8_0; try clear hcz8_1; try clear hcz8_2; try clear hcz8_3; try clear hcz9_0; try clear hcz9_1; try clear hcz9_2; try clear hcz9_3; try clear hfz14_0; try clear hfz14_1; try clear hfz14_2; try clear hfz14_3; try clear hfz18_0; try clear hfz18_1; try clear hfz18_2; try clear hfz18_3; try clear hfz20_0; try clear hfz20_1; try clear hfz20_2; try clear hfz20_3; try clear hfz8_0; try clear hfz8_1; try clear hfz8_2; try clear hfz8_3; try clear hfz9_0; try clear hfz9_1; try clear hfz9_2; try clear hfz9_3
    obtain ⟨kq, x18_3, rfl, HA, HJ3, BK500, BK501, HB⟩ := hcut
    cases kq with
    | zero => exact absurd HA.out (by simp [cobweblaw02_FracOrders.j0])
    | succ kj3 =>
      have H := HA.out; clear HA
      simp only [cobweblaw02_FracOrders.j0] at H
      by_cases c22 : x18_3 = true
      · subst c22
        have H1 : ((cobweblaw02_alive.f kj3).bind fun t505 => (if t505 = true then (some (t502 == 0)) else (none))) = some r := by rw [if_pos rfl] at H; exact H
        clear H; have H := H1; clear H1
        replace H := Option.bind_eq_some_iff.mp H
        obtain ⟨t505, A230, H⟩ := H
        replace H : (if t505 = true then (some (t502 == 0)) else (none)) = some r := H
        have A23 := Aside0.mk A230
        clear A230
        by_cases c24 : t505 = true
        rotate_left
        · replace c24 := Bool.eq_false_iff.mpr c24
          subst c24
          have H1 : (none) = some r := by rw [if_neg (show ¬ (false = true) by decide)] at H; exact H
          clear H; have H := H1; clear H1
          exact absurd H (by simp)
        subst c24
        have H1 : (some (t502 == 0)) = some r := by rw [if_pos rfl] at H; exact H
        clear H; have H := H1; clear H1
        obtain rfl := Option.some.inj H
        go_wp2_with (first | ((with_reducible refine gate_callee (f := 16) rfl ?_); refine goesL_ (some 19) rfl rfl Try.func16 (by kernel_rfl) rfl #[] rfl (by (try simp only [List.map_toArray, List.map_cons, List.map_nil]); first | done | rfl | (simp only [List.length_drop, List.length_take]; rfl)) ?_; (with_reducible refine (cobweblaw02_alive.calls kj3  true _ A23.out).mono ?_); rintro e w25 ⟨rfl, hb⟩; refine ⟨_, rfl, ?_⟩; replace BK500 := kb BK500 hb; replace BK501 := kb BK501 hb; replace HB := kB HB hb; (try clear hb); (try clear hb2); (try clear hk); (try clear hi)))
        go_ret
        exact ⟨by first | rfl | (simp [errW_none, errW_some] <;> rfl) | (simp [*, errW_none, errW_some] <;> rfl), ky HB⟩
      replace c22 := Bool.eq_false_iff.mpr c22
      subst c22
      have H1 : ((cobweblaw02_alive.f kj3).bind fun t506 => (if t506 = true then ((cobweblaw02_Old.f kj3 a0_0 a0_1 a0_2 a0_3).bind fun bt507 => ((cobweblaw02_Old.f kj3 a1_0 a1_1 a1_2 a1_3).bind fun bt515 => ((cobwebref02_Cmp.f kj3 bt507.1 bt507.2.1 bt507.2.2.1 bt507.2.2.2 bt515.1 bt515.2.1 bt515.2.2.1 bt515.2.2.2).bind fun t523 => (if t502 = t523 then ((frac_Cmp.f kj3 a1_0 a1_1 a1_2 a1_3 a0_0 a0_1 a0_2 a0_3).bind fun t524 => (if t524 = (wrap64 (-t502)) then ((frac_Cmp.f kj3 a0_0 a0_1 a0_2 a0_3 a0_0 a0_1 a0_2 a0_3).bind fun t525 => (some (t525 == 0))) else (none))) else (none))))) else (none))) = some r := by rw [if_neg (show ¬ (false = true) by decide)] at H; exact H
      clear H; have H := H1; clear H1
      replace H := Option.bind_eq_some_iff.mp H
      obtain ⟨t506, A260, H⟩ := H
      replace H : (if t506 = true then ((cobweblaw02_Old.f kj3 a0_0 a0_1 a0_2 a0_3).bind fun bt507 => ((cobweblaw02_Old.f kj3 a1_0 a1_1 a1_2 a1_3).bind fun bt515 => ((cobwebref02_Cmp.f kj3 bt507.1 bt507.2.1 bt507.2.2.1 bt507.2.2.2 bt515.1 bt515.2.1 bt515.2.2.1 bt515.2.2.2).bind fun t523 => (if t502 = t523 then ((frac_Cmp.f kj3 a1_0 a1_1 a1_2 a1_3 a0_0 a0_1 a0_2 a0_3).bind fun t524 => (if t524 = (wrap64 (-t502)) then ((frac_Cmp.f kj3 a0_0 a0_1 a0_2 a0_3 a0_0 a0_1 a0_2 a0_3).bind fun t525 => (some (t525 == 0))) else (none))) else (none))))) else (none)) = some r := H
      have A26 := Aside0.mk A260
      clear A260
      by_cases c27 : t506 = true
      rotate_left
      · replace c27 := Bool.eq_false_iff.mpr c27
        subst c27
        have H1 : (none) = some r := by rw [if_neg (show ¬ (false = true) by decide)] at H; exact H
        clear H; have H := H1; clear H1
        exact absurd H (by simp)

      subst c27
      have H1 : ((cobweblaw02_Old.f kj3 a0_0 a0_1 a0_2 a0_3).bind fun bt507 => ((cobweblaw02_Old.f kj3 a1_0 a1_1 a1_2 a1_3).bind fun bt515 => ((cobwebref02_Cmp.f kj3 bt507.1 bt507.2.1 bt507.2.2.1 bt507.2.2.2 bt515.1 bt515.2.1 bt515.2.2.1 bt515.2.2.2).bind fun t523 => (if t502 = t523 then ((frac_Cmp.f kj3 a1_0 a1_1 a1_2 a1_3 a0_0 a0_1 a0_2 a0_3).bind fun t524 => (if t524 = (wrap64 (-t502)) then ((frac_Cmp.f kj3 a0_0 a0_1 a0_2 a0_3 a0_0 a0_1 a0_2 a0_3).bind fun t525 => (some (t525 == 0))) else (none))) else (none))))) = some r := by rw [if_pos rfl] at H; exact H
      clear H; have H := H1; clear H1
      replace H := Option.bind_eq_some_iff.mp H
      obtain ⟨⟨t507, t508, t511, t512⟩, A280, H⟩ := H
      replace H : ((cobweblaw02_Old.f kj3 a1_0 a1_1 a1_2 a1_3).bind fun bt515 => ((cobwebref02_Cmp.f kj3 t507 t508 t511 t512 bt515.1 bt515.2.1 bt515.2.2.1 bt515.2.2.2).bind fun t523 => (if t502 = t523 then ((frac_Cmp.f kj3 a1_0 a1_1 a1_2 a1_3 a0_0 a0_1 a0_2 a0_3).bind fun t524 => (if t524 = (wrap64 (-t502)) then ((frac_Cmp.f kj3 a0_0 a0_1 a0_2 a0_3 a0_0 a0_1 a0_2 a0_3).bind fun t525 => (some (t525 == 0))) else (none))) else (none)))) = some r := H
      have A28 := Aside0.mk A280
      clear A280
      replace H := Option.bind_eq_some_iff.mp H
      obtain ⟨⟨t515, t516, t519, t520⟩, A290, H⟩ := H
      replace H : ((cobwebref02_Cmp.f kj3 t507 t508 t511 t512 t515 t516 t519 t520).bind fun t523 => (if t502 = t523 then ((frac_Cmp.f kj3 a1_0 a1_1 a1_2 a1_3 a0_0 a0_1 a0_2 a0_3).bind fun t524 => (if t524 = (wrap64 (-t502)) then ((frac_Cmp.f kj3 a0_0 a0_1 a0_2 a0_3 a0_0 a0_1 a0_2 a0_3).bind fun t525 => (some (t525 == 0))) else (none))) else (none))) = some r := H
      have A29 := Aside0.mk A290
      clear A290
      replace H := Option.bind_eq_some_iff.mp H
      obtain ⟨t523, A300, H⟩ := H
      replace H : (if t502 = t523 then ((frac_Cmp.f kj3 a1_0 a1_1 a1_2 a1_3 a0_0 a0_1 a0_2 a0_3).bind fun t524 => (if t524 = (wrap64 (-t502)) then ((frac_Cmp.f kj3 a0_0 a0_1 a0_2 a0_3 a0_0 a0_1 a0_2 a0_3).bind fun t525 => (some (t525 == 0))) else (none))) else (none)) = some r := H
      have A30 := Aside0.mk A300
      clear A300
      by_cases c31 : t502 = t523
      rotate_left
      · rw [if_neg c31] at H
        exact absurd H (by simp)
      rw [if_pos c31] at H
      have c31b0 : (t502 == t523) = true := beq_iff_eq.mpr c31
      have c31b1 : (t502 != t523) = false := bne_eq_false_iff_eq.mpr c31
      clear c31
      replace H := Option.bind_eq_some_iff.mp H
      obtain ⟨t524, A320, H⟩ := H
      replace H : (if t524 = (wrap64 (-t502)) then ((frac_Cmp.f kj3 a0_0 a0_1 a0_2 a0_3 a0_0 a0_1 a0_2 a0_3).bind fun t525 => (some (t525 == 0))) else (none)) = some r := H
      have A32 := Aside0.mk A320
      clear A320
      by_cases c33 : t524 = (wrap64 (-t502))
      rotate_left
      · rw [if_neg c33] at H
        exact absurd H (by simp)
      rw [if_pos c33] at H
      have c33b0 : (t524 == (wrap64 (-t502))) = true := beq_iff_eq.mpr c33
      have c33b1 : (t524 != (wrap64 (-t502))) = false := bne_eq_false_iff_eq.mpr c33
      clear c33
      replace H := Option.bind_eq_some_iff.mp H
      obtain ⟨t525, A340, H⟩ := H
      replace H : (some (t525 == 0)) = some r := H
      have A34 := Aside0.mk A340
      clear A340
      obtain rfl := Option.some.inj H
      try go_wp2
      replace BK500 := Aside0.mk (blk_drew BK500.out)
      replace BK501 := Aside0.mk (blk_drew BK501.out)
      replace HB := Aside0.mk (below_drew1 HB.out)
      refine start_ (n := 25) (S := fun w' => w'.cell? ⟨gb500, 0, none⟩ = some (.int .i64 a0_0) ∧ w'.cell? ⟨gb500, 1, none⟩ = some (.int .u64 a0_1) ∧ w'.cell? ⟨gb500, 2, none⟩ = some (.int .i64 a0_2) ∧ w'.cell? ⟨gb500, 3, none⟩ = some (.int .u64 a0_3) ∧ w'.cell? ⟨gb501, 0, none⟩ = some (.int .i64 a1_0) ∧ w'.cell? ⟨gb501, 1, none⟩ = some (.int .u64 a1_1) ∧ w'.cell? ⟨gb501, 2, none⟩ = some (.int .i64 a1_2) ∧ w'.cell? ⟨gb501, 3, none⟩ = some (.int .u64 a1_3)) (ds := []) #[O, O, O, O, O, O, O, O, O, O, O, O, O, O, O, O, O, O, O, O, O, O, O, O, O] (by kernel_rfl) rfl rfl ⟨kc BK500 0, kc BK500 1, kc BK500 2, kc BK500 3, kc BK501 0, kc BK501 1, kc BK501 2, kc BK501 3⟩ (fun hHeld => ?_); refine with_tabW cobweblaw02_FracOrders.tab4 cobweblaw02_FracOrders.bits4 (fun HT_ HW_ => ?_)
      generalize wc.drew = w35 at BK500 BK501 HB hHeld ⊢
      refine one_ (i := 0) (N := some 24) #[T, O, O, O, O, O, O, O, O, O, O, O, O, O, O, O, O, O, O, O, O, O, O, O, O] rfl rfl (one_of HT_.out (by kernel_rfl)) (by decide) (fun K hK => ?_)
      refine goes_ Try.func16 (by kernel_rfl) rfl #[] (by rfl) rfl rfl (by (try simp only [List.map_toArray, List.map_cons, List.map_nil]); first | done | rfl | (simp only [List.length_drop, List.length_take]; rfl)) ?_
      with_reducible refine (cobweblaw02_alive.calls kj3  true _ A26.out).mono ?_
      rintro e w36 ⟨rfl, hb⟩
      refine ⟨_, rfl, ?_⟩
      replace BK500 := kb BK500 hb
      replace BK501 := kb BK501 hb
      replace HB := kB HB hb
      (try clear hb); (try clear hb2); (try clear hk); (try clear hi)
      refine hK.out _ _ ⟨kc BK500 0, kc BK500 1, kc BK500 2, kc BK500 3, kc BK501 0, kc BK501 1, kc BK501 2, kc BK501 3⟩ (fun hHeld => ?_)
      clear hK K
      refine norm_ (a' := ?_) ?_ ?_; rotate_left; focus (show Act.put _ (some 24) _ = _; simp only [Act.put, s1, s2, s3, i64_w, i32_w]; rfl)
      refine pure_ (i := 1) (N := some 25) (v := ?_) (a' := ?_) #[T, T, O, O, O, O, O, O, O, O, O, O, O, O, O, O, O, O, O, O, O, O, O, O, O] rfl rfl (any_of HT_.out (by kernel_rfl)) (fun _ _ _ h => h) (Or.inl ⟨by rfl, ?_⟩) ?_ ?_; rotate_left; focus (intro w'; go_simp; with_reducible rfl)
      rotate_left; focus (simp only [Act.put, s1, s2, s3, i64_w, i32_w]; rfl)
      refine pure_ (i := 2) (N := some 26) (v := ?_) (a' := ?_) #[T, T, T, O, O, O, O, O, O, O, O, O, O, O, O, O, O, O, O, O, O, O, O, O, O] rfl rfl (any_of HT_.out (by kernel_rfl)) (fun _ _ _ h => h) (Or.inl ⟨by rfl, ?_⟩) ?_ ?_; rotate_left; focus (intro w'; go_simp; with_reducible rfl)
      rotate_left; focus (simp only [Act.put, s1, s2, s3, i64_w, i32_w]; rfl)
      refine take_ (i := 3) (N := some 27) (v := ?_) (a' := ?_) #[T, T, T, T, O, O, O, O, O, O, O, O, O, O, O, O, O, O, O, O, O, O, O, O, O] rfl rfl (take_ofW HT_.out HW_.out (by kernel_rfl)) (fun _ _ _ h => h) (Or.inl ⟨by rfl, ?_⟩) hHeld ?_ ?_; rotate_left; focus (rintro w' ⟨s0, s1, s2, s3, s4, s5, s6, s7⟩; go_simp; with_reducible rfl)
      rotate_left; focus (simp only [Act.put, s1, s2, s3, i64_w, i32_w]; rfl)
      refine take_ (i := 5) (N := some 29) (v := ?_) (a' := ?_) #[T, T, T, T, O, T, O, O, O, O, O, O, O, O, O, O, O, O, O, O, O, O, O, O, O] rfl rfl (take_ofW HT_.out HW_.out (by kernel_rfl)) (fun _ _ _ h => h) (Or.inl ⟨by rfl, ?_⟩) hHeld ?_ ?_; rotate_left; focus (rintro w' ⟨s0, s1, s2, s3, s4, s5, s6, s7⟩; go_simp; with_reducible rfl)
      rotate_left; focus (simp only [Act.put, s1, s2, s3, i64_w, i32_w]; rfl)
      refine one_ (i := 4) (N := some 28) #[T, T, T, T, T, T, O, O, O, O, O, O, O, O, O, O, O, O, O, O, O, O, O, O, O] rfl rfl (one_of HT_.out (by kernel_rfl)) (by decide) (fun K hK => ?_)
      refine goes_ Try.func18 (by kernel_rfl) rfl #[.agg #[.int .i64 a0_0, .int .u64 a0_1, .int .i64 a0_2, .int .u64 a0_3]] (by rfl) rfl rfl (by (try simp only [List.map_toArray, List.map_cons, List.map_nil]); first | done | rfl | (simp only [List.length_drop, List.length_take]; rfl)) ?_
      with_reducible refine (cobweblaw02_Old.calls kj3 a0_0 a0_1 a0_2 a0_3 t507 t508 t511 t512 _ A28.out).mono ?_
      rintro e w37 ⟨v509, v513, rfl, ho0, ho1, hb⟩
      refine ⟨_, rfl, ?_⟩
      have HO510 := Aside0.mk (Kd.V_lower (Kd.V_mono (ok' := fun k_ => k_ ≠ gb500 ∧ k_ ≠ gb501) ho0 (fun k_ hk_ => ⟨(Kd.freshB (g := gb500) (o := .cells #[.int .i64 a0_0, .int .u64 a0_1, .int .i64 a0_2, .int .u64 a0_3] 26 (0, 0)) (kx BK500) k_ hk_), (Kd.freshB (g := gb501) (o := .cells #[.int .i64 a1_0, .int .u64 a1_1, .int .i64 a1_2, .int .u64 a1_3] 26 (0, 0)) (kx BK501) k_ hk_)⟩)) (below_size (ky HB)))
      have HO514 := Aside0.mk (Kd.V_lower (Kd.V_mono (ok' := fun k_ => k_ ≠ gb500 ∧ k_ ≠ gb501) ho1 (fun k_ hk_ => ⟨(Kd.freshB (g := gb500) (o := .cells #[.int .i64 a0_0, .int .u64 a0_1, .int .i64 a0_2, .int .u64 a0_3] 26 (0, 0)) (kx BK500) k_ hk_), (Kd.freshB (g := gb501) (o := .cells #[.int .i64 a1_0, .int .u64 a1_1, .int .i64 a1_2, .int .u64 a1_3] 26 (0, 0)) (kx BK501) k_ hk_)⟩)) (below_size (ky HB)))
      replace BK500 := kb BK500 hb
      replace BK501 := kb BK501 hb
      replace HB := kB HB hb
      (try clear hb); (try clear hb2); (try clear hk); (try clear hi); (try clear ho0); (try clear ho1)
      refine hK.out _ _ ⟨kc BK500 0, kc BK500 1, kc BK500 2, kc BK500 3, kc BK501 0, kc BK501 1, kc BK501 2, kc BK501 3⟩ (fun hHeld => ?_)
      clear hK K
      refine norm_ (a' := ?_) ?_ ?_; rotate_left; focus (show Act.put _ (some 28) _ = _; simp only [Act.put, s1, s2, s3, i64_w, i32_w]; rfl)
      refine one_ (i := 6) (N := some 30) #[T, T, T, T, T, T, T, O, O, O, O, O, O, O, O, O, O, O, O, O, O, O, O, O, O] rfl rfl (one_of HT_.out (by kernel_rfl)) (by decide) (fun K hK => ?_)
      refine goes_ Try.func18 (by kernel_rfl) rfl #[.agg #[.int .i64 a1_0, .int .u64 a1_1, .int .i64 a1_2, .int .u64 a1_3]] (by rfl) rfl rfl (by (try simp only [List.map_toArray, List.map_cons, List.map_nil]); first | done | rfl | (simp only [List.length_drop, List.length_take]; rfl)) ?_
      with_reducible refine (cobweblaw02_Old.calls kj3 a1_0 a1_1 a1_2 a1_3 t515 t516 t519 t520 _ A29.out).mono ?_
      rintro e w38 ⟨v517, v521, rfl, ho0, ho1, hb⟩
      refine ⟨_, rfl, ?_⟩
      have HO518 := Aside0.mk (Kd.V_lower (Kd.V_mono (ok' := fun k_ => k_ ≠ gb500 ∧ k_ ≠ gb501) ho0 (fun k_ hk_ => ⟨(Kd.freshB (g := gb500) (o := .cells #[.int .i64 a0_0, .int .u64 a0_1, .int .i64 a0_2, .int .u64 a0_3] 26 (0, 0)) (kx BK500) k_ hk_), (Kd.freshB (g := gb501) (o := .cells #[.int .i64 a1_0, .int .u64 a1_1, .int .i64 a1_2, .int .u64 a1_3] 26 (0, 0)) (kx BK501) k_ hk_)⟩)) (below_size (ky HB)))
      have HO522 := Aside0.mk (Kd.V_lower (Kd.V_mono (ok' := fun k_ => k_ ≠ gb500 ∧ k_ ≠ gb501) ho1 (fun k_ hk_ => ⟨(Kd.freshB (g := gb500) (o := .cells #[.int .i64 a0_0, .int .u64 a0_1, .int .i64 a0_2, .int .u64 a0_3] 26 (0, 0)) (kx BK500) k_ hk_), (Kd.freshB (g := gb501) (o := .cells #[.int .i64 a1_0, .int .u64 a1_1, .int .i64 a1_2, .int .u64 a1_3] 26 (0, 0)) (kx BK501) k_ hk_)⟩)) (below_size (ky HB)))
      replace HO510 := kV HO510 hb
      replace HO514 := kV HO514 hb
      replace BK500 := kb BK500 hb
      replace BK501 := kb BK501 hb
      replace HB := kB HB hb
      (try clear hb); (try clear hb2); (try clear hk); (try clear hi); (try clear ho0); (try clear ho1)
      obtain ⟨Ao39, co39, eo39⟩ := Kd.V_slice HO510.out
      (first | subst eo39 | (injection eo39 with f1_ f2_ f3_; have f4_ := f1_.symm; have f5_ := f3_.symm; clear f1_ f2_ f3_; subst f4_; subst f5_))
      obtain ⟨Ao40, co40, eo40⟩ := Kd.V_slice HO514.out
      (first | subst eo40 | (injection eo40 with f1_ f2_ f3_; have f4_ := f1_.symm; have f5_ := f3_.symm; clear f1_ f2_ f3_; subst f4_; subst f5_))
      obtain ⟨Ao41, co41, eo41⟩ := Kd.V_slice HO518.out
      (first | subst eo41 | (injection eo41 with f1_ f2_ f3_; have f4_ := f1_.symm; have f5_ := f3_.symm; clear f1_ f2_ f3_; subst f4_; subst f5_))
      obtain ⟨Ao42, co42, eo42⟩ := Kd.V_slice HO522.out
      (first | subst eo42 | (injection eo42 with f1_ f2_ f3_; have f4_ := f1_.symm; have f5_ := f3_.symm; clear f1_ f2_ f3_; subst f4_; subst f5_))
      refine hK.out _ _ ⟨kc BK500 0, kc BK500 1, kc BK500 2, kc BK500 3, kc BK501 0, kc BK501 1, kc BK501 2, kc BK501 3⟩ (fun hHeld => ?_)
      clear hK K
      refine norm_ (a' := ?_) ?_ ?_; rotate_left; focus (show Act.put _ (some 30) _ = _; simp only [Act.put, s1, s2, s3, i64_w, i32_w]; rfl)
      refine one_ (i := 7) (N := some 31) #[T, T, T, T, T, T, T, T, O, O, O, O, O, O, O, O, O, O, O, O, O, O, O, O, O] rfl rfl (one_of HT_.out (by kernel_rfl)) (by decide) (fun K hK => ?_)
      refine goes_ Try.func17 (by kernel_rfl) rfl #[.agg #[.bool t507, .slice Ao39 t508.length co39, .bool t511, .slice Ao40 t512.length co40], .agg #[.bool t515, .slice Ao41 t516.length co41, .bool t519, .slice Ao42 t520.length co42]] (by rfl) rfl rfl (by (try simp only [List.map_toArray, List.map_cons, List.map_nil]); first | done | rfl | (simp only [List.length_drop, List.length_take]; rfl)) ?_
      with_reducible refine (cobwebref02_Cmp.calls kj3 t507 _ _ t508 t511 _ _ t512 t515 _ _ t516 t519 _ _ t520 t523 _ ?side1 ?side2 ?side3 ?side4 ?side5 ?side6 ?side7 ?side8 A30.out).mono ?_
      (case side1 => repeat (first | exact (Kd.V_reads' HO510.out).2.2 | (with_reducible refine Kd.C_alloc ?_ _) | (with_reducible refine Kd.C_drewN ?_ _) | (with_reducible refine Kd.C_drew ?_)))
      (case side2 => exact (Kd.V_reads' HO510.out).2.1)
      (case side3 => repeat (first | exact (Kd.V_reads' HO514.out).2.2 | (with_reducible refine Kd.C_alloc ?_ _) | (with_reducible refine Kd.C_drewN ?_ _) | (with_reducible refine Kd.C_drew ?_)))
      (case side4 => exact (Kd.V_reads' HO514.out).2.1)
      (case side5 => repeat (first | exact (Kd.V_reads' HO518.out).2.2 | (with_reducible refine Kd.C_alloc ?_ _) | (with_reducible refine Kd.C_drewN ?_ _) | (with_reducible refine Kd.C_drew ?_)))
      (case side6 => exact (Kd.V_reads' HO518.out).2.1)
      (case side7 => repeat (first | exact (Kd.V_reads' HO522.out).2.2 | (with_reducible refine Kd.C_alloc ?_ _) | (with_reducible refine Kd.C_drewN ?_ _) | (with_reducible refine Kd.C_drew ?_)))
      (case side8 => exact (Kd.V_reads' HO522.out).2.1)
      rintro e w43 ⟨rfl, hb⟩
      refine ⟨_, rfl, ?_⟩
      replace HO510 := kV HO510 hb
      replace HO514 := kV HO514 hb
      replace HO518 := kV HO518 hb
      replace HO522 := kV HO522 hb
      replace BK500 := kb BK500 hb
      replace BK501 := kb BK501 hb
      replace HB := kB HB hb
      (try clear hb); (try clear hb2); (try clear hk); (try clear hi)
      refine hK.out _ _ ⟨kc BK500 0, kc BK500 1, kc BK500 2, kc BK500 3, kc BK501 0, kc BK501 1, kc BK501 2, kc BK501 3⟩ (fun hHeld => ?_)
      clear hK K
      refine norm_ (a' := ?_) ?_ ?_; rotate_left; focus (show Act.put _ (some 31) _ = _; simp only [Act.put, s1, s2, s3, i64_w, i32_w]; rfl)
      refine pure_ (i := 8) (N := some 32) (v := ?_) (a' := ?_) #[T, T, T, T, T, T, T, T, T, O, O, O, O, O, O, O, O, O, O, O, O, O, O, O, O] rfl rfl (any_of HT_.out (by kernel_rfl)) (fun _ _ _ h => h) (Or.inl ⟨by rfl, ?_⟩) ?_ ?_; rotate_left; focus (intro w'; go_simp; with_reducible rfl)
      rotate_left; focus (simp only [Act.put, s1, s2, s3, i64_w, i32_w]; rfl)
      refine pure_ (i := 9) (N := some 33) (v := ?_) (a' := ?_) #[T, T, T, T, T, T, T, T, T, T, O, O, O, O, O, O, O, O, O, O, O, O, O, O, O] rfl rfl (any_of HT_.out (by kernel_rfl)) (fun _ _ _ h => h) (Or.inl ⟨by rfl, ?_⟩) ?_ ?_; rotate_left; focus (intro w'; go_simp; with_reducible rfl)
      rotate_left; focus (simp only [Act.put, s1, s2, s3, i64_w, i32_w]; rfl)
      refine pure_ (i := 10) (N := some 34) (v := ?_) (a' := ?_) #[T, T, T, T, T, T, T, T, T, T, T, O, O, O, O, O, O, O, O, O, O, O, O, O, O] rfl rfl (any_of HT_.out (by kernel_rfl)) (fun _ _ _ h => h) (Or.inl ⟨by rfl, ?_⟩) ?_ ?_; rotate_left; focus (intro w'; go_simp; with_reducible rfl)
      rotate_left; focus (simp only [Act.put, s1, s2, s3, i64_w, i32_w]; rfl)
      refine pure_ (i := 14) (N := some 38) (v := ?_) (a' := ?_) #[T, T, T, T, T, T, T, T, T, T, T, O, O, O, T, O, O, O, O, O, O, O, O, O, O] rfl rfl (any_of HT_.out (by kernel_rfl)) (fun _ _ _ h => h) (Or.inl ⟨by rfl, ?_⟩) ?_ ?_; rotate_left; focus (intro w'; go_simp; with_reducible rfl)
      rotate_left; focus (simp only [Act.put, s1, s2, s3, i64_w, i32_w]; rfl)
      refine pure_ (i := 15) (N := some 39) (v := ?_) (a' := ?_) #[T, T, T, T, T, T, T, T, T, T, T, O, O, O, T, T, O, O, O, O, O, O, O, O, O] rfl rfl (any_of HT_.out (by kernel_rfl)) (fun _ _ _ h => h) (Or.inl ⟨by rfl, ?_⟩) ?_ ?_; rotate_left; focus (intro w'; go_simp; with_reducible rfl)
      rotate_left; focus (simp only [Act.put, s1, s2, s3, i64_w, i32_w]; rfl)
      refine take_ (i := 11) (N := some 35) (v := ?_) (a' := ?_) #[T, T, T, T, T, T, T, T, T, T, T, T, O, O, T, T, O, O, O, O, O, O, O, O, O] rfl rfl (take_ofW HT_.out HW_.out (by kernel_rfl)) (fun _ _ _ h => h) (Or.inl ⟨by rfl, ?_⟩) hHeld ?_ ?_; rotate_left; focus (rintro w' ⟨s0, s1, s2, s3, s4, s5, s6, s7⟩; go_simp; with_reducible rfl)
      rotate_left; focus (simp only [Act.put, s1, s2, s3, i64_w, i32_w]; rfl)
      refine take_ (i := 12) (N := some 36) (v := ?_) (a' := ?_) #[T, T, T, T, T, T, T, T, T, T, T, T, T, O, T, T, O, O, O, O, O, O, O, O, O] rfl rfl (take_ofW HT_.out HW_.out (by kernel_rfl)) (fun _ _ _ h => h) (Or.inl ⟨by rfl, ?_⟩) hHeld ?_ ?_; rotate_left; focus (rintro w' ⟨s0, s1, s2, s3, s4, s5, s6, s7⟩; go_simp; with_reducible rfl)
      rotate_left; focus (simp only [Act.put, s1, s2, s3, i64_w, i32_w]; rfl)
      refine one_ (i := 13) (N := some 37) #[T, T, T, T, T, T, T, T, T, T, T, T, T, T, T, T, O, O, O, O, O, O, O, O, O] rfl rfl (one_of HT_.out (by kernel_rfl)) (by decide) (fun K hK => ?_)
      refine goes_ Try.func14 (by kernel_rfl) rfl #[.agg #[.int .i64 a1_0, .int .u64 a1_1, .int .i64 a1_2, .int .u64 a1_3], .agg #[.int .i64 a0_0, .int .u64 a0_1, .int .i64 a0_2, .int .u64 a0_3]] (by rfl) rfl rfl (by (try simp only [List.map_toArray, List.map_cons, List.map_nil]); first | done | rfl | (simp only [List.length_drop, List.length_take]; rfl)) ?_
      with_reducible refine (frac_Cmp.calls kj3 a1_0 a1_1 a1_2 a1_3 a0_0 a0_1 a0_2 a0_3 t524 _ A32.out).mono ?_
      rintro e w44 ⟨rfl, hb⟩
      refine ⟨_, rfl, ?_⟩
      replace HO510 := kV HO510 hb
      replace HO514 := kV HO514 hb
      replace HO518 := kV HO518 hb
      replace HO522 := kV HO522 hb
      replace BK500 := kb BK500 hb
      replace BK501 := kb BK501 hb
      replace HB := kB HB hb
      (try clear hb); (try clear hb2); (try clear hk); (try clear hi)
      refine hK.out _ _ ⟨kc BK500 0, kc BK500 1, kc BK500 2, kc BK500 3, kc BK501 0, kc BK501 1, kc BK501 2, kc BK501 3⟩ (fun hHeld => ?_)
      clear hK K
      refine norm_ (a' := ?_) ?_ ?_; rotate_left; focus (show Act.put _ (some 37) _ = _; simp only [Act.put, s1, s2, s3, i64_w, i32_w]; rfl)
      refine pure_ (i := 16) (N := some 40) (v := ?_) (a' := ?_) #[T, T, T, T, T, T, T, T, T, T, T, T, T, T, T, T, T, O, O, O, O, O, O, O, O] rfl rfl (any_of HT_.out (by kernel_rfl)) (fun _ _ _ h => h) (Or.inl ⟨by rfl, ?_⟩) ?_ ?_; rotate_left; focus (intro w'; go_simp; with_reducible rfl)
      rotate_left; focus (simp only [Act.put, s1, s2, s3, i64_w, i32_w]; rfl)
      refine pure_ (i := 17) (N := some 41) (v := ?_) (a' := ?_) #[T, T, T, T, T, T, T, T, T, T, T, T, T, T, T, T, T, T, O, O, O, O, O, O, O] rfl rfl (any_of HT_.out (by kernel_rfl)) (fun _ _ _ h => h) (Or.inl ⟨by rfl, ?_⟩) ?_ ?_; rotate_left; focus (intro w'; go_simp; with_reducible rfl)
      rotate_left; focus (simp only [Act.put, s1, s2, s3, i64_w, i32_w]; rfl)
      refine pure_ (i := 18) (N := some 42) (v := ?_) (a' := ?_) #[T, T, T, T, T, T, T, T, T, T, T, T, T, T, T, T, T, T, T, O, O, O, O, O, O] rfl rfl (any_of HT_.out (by kernel_rfl)) (fun _ _ _ h => h) (Or.inl ⟨by rfl, ?_⟩) ?_ ?_; rotate_left; focus (intro w'; go_simp; with_reducible rfl)
      rotate_left; focus (simp only [Act.put, s1, s2, s3, i64_w, i32_w]; rfl)
      refine take_ (i := 19) (N := some 43) (v := ?_) (a' := ?_) #[T, T, T, T, T, T, T, T, T, T, T, T, T, T, T, T, T, T, T, T, O, O, O, O, O] rfl rfl (take_ofW HT_.out HW_.out (by kernel_rfl)) (fun _ _ _ h => h) (Or.inl ⟨by rfl, ?_⟩) hHeld ?_ ?_; rotate_left; focus (rintro w' ⟨s0, s1, s2, s3, s4, s5, s6, s7⟩; go_simp; with_reducible rfl)
      rotate_left; focus (simp only [Act.put, s1, s2, s3, i64_w, i32_w]; rfl)
      refine take_ (i := 20) (N := some 44) (v := ?_) (a' := ?_) #[T, T, T, T, T, T, T, T, T, T, T, T, T, T, T, T, T, T, T, T, T, O, O, O, O] rfl rfl (take_ofW HT_.out HW_.out (by kernel_rfl)) (fun _ _ _ h => h) (Or.inl ⟨by rfl, ?_⟩) hHeld ?_ ?_; rotate_left; focus (rintro w' ⟨s0, s1, s2, s3, s4, s5, s6, s7⟩; go_simp; with_reducible rfl)
      rotate_left; focus (simp only [Act.put, s1, s2, s3, i64_w, i32_w]; rfl)
      refine one_ (i := 21) (N := some 45) #[T, T, T, T, T, T, T, T, T, T, T, T, T, T, T, T, T, T, T, T, T, T, O, O, O] rfl rfl (one_of HT_.out (by kernel_rfl)) (by decide) (fun K hK => ?_)
      refine goes_ Try.func14 (by kernel_rfl) rfl #[.agg #[.int .i64 a0_0, .int .u64 a0_1, .int .i64 a0_2, .int .u64 a0_3], .agg #[.int .i64 a0_0, .int .u64 a0_1, .int .i64 a0_2, .int .u64 a0_3]] (by rfl) rfl rfl (by (try simp only [List.map_toArray, List.map_cons, List.map_nil]); first | done | rfl | (simp only [List.length_drop, List.length_take]; rfl)) ?_
      with_reducible refine (frac_Cmp.calls kj3 a0_0 a0_1 a0_2 a0_3 a0_0 a0_1 a0_2 a0_3 t525 _ A34.out).mono ?_
      rintro e w45 ⟨rfl, hb⟩
      refine ⟨_, rfl, ?_⟩
      replace HO510 := kV HO510 hb
      replace HO514 := kV HO514 hb
      replace HO518 := kV HO518 hb
      replace HO522 := kV HO522 hb
      replace BK500 := kb BK500 hb
      replace BK501 := kb BK501 hb
      replace HB := kB HB hb
      (try clear hb); (try clear hb2); (try clear hk); (try clear hi)
      refine hK.out _ _ ⟨kc BK500 0, kc BK500 1, kc BK500 2, kc BK500 3, kc BK501 0, kc BK501 1, kc BK501 2, kc BK501 3⟩ (fun hHeld => ?_)
      clear hK K
      refine norm_ (a' := ?_) ?_ ?_; rotate_left; focus (show Act.put _ (some 45) _ = _; simp only [Act.put, s1, s2, s3, i64_w, i32_w]; rfl)
      refine pure_ (i := 22) (N := some 46) (v := ?_) (a' := ?_) #[T, T, T, T, T, T, T, T, T, T, T, T, T, T, T, T, T, T, T, T, T, T, T, O, O] rfl rfl (any_of HT_.out (by kernel_rfl)) (fun _ _ _ h => h) (Or.inl ⟨by rfl, ?_⟩) ?_ ?_; rotate_left; focus (intro w'; go_simp; with_reducible rfl)
      rotate_left; focus (simp only [Act.put, s1, s2, s3, i64_w, i32_w]; rfl)
      refine pure_ (i := 23) (N := some 47) (v := ?_) (a' := ?_) #[T, T, T, T, T, T, T, T, T, T, T, T, T, T, T, T, T, T, T, T, T, T, T, T, O] rfl rfl (any_of HT_.out (by kernel_rfl)) (fun _ _ _ h => h) (Or.inl ⟨by rfl, ?_⟩) ?_ ?_; rotate_left; focus (intro w'; go_simp; with_reducible rfl)
      rotate_left; focus (simp only [Act.put, s1, s2, s3, i64_w, i32_w]; rfl)
      refine pure_ (i := 24) (N := some 4) (v := ?_) (a' := ?_) #[T, T, T, T, T, T, T, T, T, T, T, T, T, T, T, T, T, T, T, T, T, T, T, T, T] rfl rfl (any_of HT_.out (by kernel_rfl)) (fun _ _ _ h => h) (Or.inl ⟨by rfl, ?_⟩) ?_ ?_; rotate_left; focus (intro w'; go_simp; with_reducible rfl)
      rotate_left; focus (simp only [Act.put, s1, s2, s3, i64_w, i32_w]; rfl)
      refine done_ (done_of HT_.out (by kernel_rfl)) ?_
      try go_wp2
      go_ret
      exact ⟨by first | rfl | (simp [errW_none, errW_some] <;> rfl) | (simp [*, errW_none, errW_some] <;> rfl), ky HB⟩
end Go.Proofs.Ytpjbniihdndlmab.Q
