-- Printed by wip/pp.sh (a session's own turning of the kit's print) for this seat.
import Derived.Test.YtpjbniihdndlmaaQx0
import Derived.Test.YtpjbniihdndlmaaQx12
import Derived.Test.YtpjbniihdndlmaaQx14
import Derived.Test.YtpjbniihdndlmaaQx15
namespace Go.Proofs.Ytpjbniihdndlmaa.Q
open Go.RowKit Go.Proofs.YtpjbniihdndlmaaW.PrintWords Go.Proofs.YtpjbniihdndlmaaW.PrintLast Go.Proofs.YtpjbniihdndlmaaW.PrintMore
open Go.Proofs.Ytpjbniihdndlmaa.H
attribute [local go_sem] hq_add64 hq_sub64 hq_not64 add64c_nn sub64c_nn sub64c_le
attribute [local go_sem] max2_int min2_int max_two min_two max_three min_three max_four min_four   -- for this text's walks alone
set_option linter.unusedVariables false
set_option linter.unusedSimpArgs false

/-! ### cobwebref01_Fits: function 48 -/
def cobwebref01_Fits.f (k : Nat) (a0_0 : Bool) (l0_1 : List Int) : Option (Bool) := (cobwebref01_Power.f k 127).bind fun bt428 => ((cobwebref01_Neg.f k bt428.1 bt428.2).bind fun bt432 => ((cobwebref01_Cmp.f k a0_0 l0_1 bt432.1 bt432.2).bind fun t436 => (if t436 ≥ 0 then ((cobwebref01_Power.f k 127).bind fun bt437 => ((cobwebref01_Cmp.f k a0_0 l0_1 bt437.1 bt437.2).bind fun t441 => (some (decide (t441 < 0))))) else (some false))))
theorem cobwebref01_Fits.mono : ∀ a0 a1 k, LeO (cobwebref01_Fits.f k a0 a1) (cobwebref01_Fits.f (k + 1) a0 a1) := by
 intro a0 a1 k
 unfold cobwebref01_Fits.f
 repeat' first
   | (with_reducible exact cobwebref01_Cmp.mono _ _ _ _ _)
   | (with_reducible exact cobwebref01_Neg.mono _ _ _)
   | (with_reducible exact cobwebref01_Power.mono _ _)
   | (with_reducible exact LeO.refl _)
   | (with_reducible exact LeO.none _)
   | (with_reducible refine LeO.ite ?_ ?_)
   | (with_reducible refine LeO.bind ?_ (fun _ => ?_))
   | exact cobwebref01_Cmp.mono _ _ _ _ _
   | exact cobwebref01_Neg.mono _ _ _
   | exact cobwebref01_Power.mono _ _
   | exact LeO.none _
   | refine LeO.ite ?_ ?_
   | refine LeO.bind ?_ (fun _ => ?_)
def cobwebref01_Fits.T1 : Bool × List (List Nat × List Nat) := (true, [([], []), ([], []), ([1, 1], [1]), ([0, 2, 2], [0, 2]), ([3], [3]), ([4, 3], [4]), ([5], [5]), ([5, 5], [5]), ([6, 7, 7, 5], [5, 6, 7]), ([8, 5], [5, 8]), ([5, 9], [5, 9]), ([10, 8, 0, 1, 2, 3, 4, 5, 6, 7, 8, 9, 10], [10])])
def cobwebref01_Fits.B1 : List Nat := [0, 0, 2, 7, 15, 31, 63, 63, 255, 511, 1023, 2047]
theorem cobwebref01_Fits.tab1 : rtab .any (opsOf Try.f48 1) = cobwebref01_Fits.T1 := by kernel_rfl
theorem cobwebref01_Fits.bits1 : waitsOk cobwebref01_Fits.T1.2 cobwebref01_Fits.B1 = true := by kernel_rfl
set_option maxHeartbeats 8000000 in
set_option maxRecDepth 100000 in
theorem cobwebref01_Fits.calls (k : Nat) (a0_0 : Bool) (A0_1 : Option Addr) (c0_1 : Nat) (l0_1 : List Int) (r : Bool) (w : World) (hr0_1 : Kd.C (Kd.int .i64) w A0_1 l0_1.length l0_1) (hc0_1 : l0_1.length ≤ c0_1) (h : cobwebref01_Fits.f k a0_0 l0_1 = some r) :
  Calls Try.prog 48 #[.agg #[.bool a0_0, .slice A0_1 l0_1.length c0_1]] w fun e w' => e = .returned (.bool r) ∧ Below w.heap.size w w' := by
 have hu32 := Try.underlying32; have HR0_1 := Aside0.mk hr0_1; have HC0_1 := Aside0.mk hc0_1; clear hr0_1 hc0_1; have HB := Aside0.mk (Below.refl w.heap.size w); have H : ((cobwebref01_Power.f k 127).bind fun bt428 => ((cobwebref01_Neg.f k bt428.1 bt428.2).bind fun bt432 => ((cobwebref01_Cmp.f k a0_0 l0_1 bt432.1 bt432.2).bind fun t436 => (if t436 ≥ 0 then ((cobwebref01_Power.f k 127).bind fun bt437 => ((cobwebref01_Cmp.f k a0_0 l0_1 bt437.1 bt437.2).bind fun t441 => (some (decide (t441 < 0))))) else (some false))))) = some r := h; clear h; replace H := Option.bind_eq_some_iff.mp H; obtain ⟨⟨t428, t429⟩, A20, H⟩ := H; replace H : ((cobwebref01_Neg.f k t428 t429).bind fun bt432 => ((cobwebref01_Cmp.f k a0_0 l0_1 bt432.1 bt432.2).bind fun t436 => (if t436 ≥ 0 then ((cobwebref01_Power.f k 127).bind fun bt437 => ((cobwebref01_Cmp.f k a0_0 l0_1 bt437.1 bt437.2).bind fun t441 => (some (decide (t441 < 0))))) else (some false)))) = some r := H; have A2 := Aside0.mk A20; clear A20; replace H := Option.bind_eq_some_iff.mp H; obtain ⟨⟨t432, t433⟩, A30, H⟩ := H; replace H : ((cobwebref01_Cmp.f k a0_0 l0_1 t432 t433).bind fun t436 => (if t436 ≥ 0 then ((cobwebref01_Power.f k 127).bind fun bt437 => ((cobwebref01_Cmp.f k a0_0 l0_1 bt437.1 bt437.2).bind fun t441 => (some (decide (t441 < 0))))) else (some false))) = some r := H; have A3 := Aside0.mk A30; clear A30; replace H := Option.bind_eq_some_iff.mp H; obtain ⟨t436, A40, H⟩ := H; replace H : (if t436 ≥ 0 then ((cobwebref01_Power.f k 127).bind fun bt437 => ((cobwebref01_Cmp.f k a0_0 l0_1 bt437.1 bt437.2).bind fun t441 => (some (decide (t441 < 0))))) else (some false)) = some r := H; have A4 := Aside0.mk A40; clear A40
 by_cases c5 : t436 ≥ 0
 rotate_left
 ·rw [if_neg c5] at H
  have c5b0 : decide (0 ≤ t436) = false := decide_eq_false c5; clear c5; obtain rfl := Option.some.inj H
  go_enter Try.func48, Try.ntmps48
  try go_wp2_with (first | ((with_reducible refine gate_dst (N := 1) rfl ?_); refine box_event ?hg (N := 1) ?hd (cs := #[.bool a0_0, .slice A0_1 l0_1.length c0_1]) (t := 32) ?hr ?_; (case hd => rfl); (case hg => rfl); (case hr => first | (go_simp; done) | (go_simp; rfl)); intro gb427 hg w18 hbox hb; have BK427 := Aside0.mk (hbox); have GW427 := kS HB hg; have GE427 := kS HB hg; replace HB := kB HB hb; clear hb hbox hg))
  replace BK427 := Aside0.mk (blk_drew BK427.out); replace HB := Aside0.mk (below_drew1 HB.out); refine start_ (n := 12) (S := fun w' => w'.cell? ⟨gb427, 0, none⟩ = some (.bool a0_0) ∧ w'.cell? ⟨gb427, 1, none⟩ = some (.slice A0_1 l0_1.length c0_1)) (ds := []) #[O, O, O, O, O, O, O, O, O, O, O, O] (by kernel_rfl) rfl rfl ⟨kc BK427 0, kc BK427 1⟩ (fun hHeld => ?_); refine with_tabW cobwebref01_Fits.tab1 cobwebref01_Fits.bits1 (fun HT_ HW_ => ?_)
  generalize w18.drew = w19 at BK427 HB hHeld ⊢
  refine take_ (i := 0) (N := some 3) (v := ?_) (a' := ?_) #[T, O, O, O, O, O, O, O, O, O, O, O] rfl rfl (take_ofW HT_.out HW_.out (by kernel_rfl)) (fun _ _ _ h => h) (Or.inl ⟨by rfl, ?_⟩) hHeld ?_ ?_; rotate_left; focus (rintro w' ⟨s0, s1⟩; go_simp; with_reducible rfl)
  rotate_left; focus (simp only [Act.put, s1, s2, s3, i64_w, i32_w]; rfl)
  refine one_ (i := 1) (N := some 4) #[T, T, O, O, O, O, O, O, O, O, O, O] rfl rfl (one_of HT_.out (by kernel_rfl)) (by decide) (fun K hK => ?_); refine goes_ Try.func23 (by kernel_rfl) rfl #[.int .i64 127] (by rfl) rfl rfl (by (try simp only [zm, zc, zn]); first | done | rfl | (simp only [zd, zt]; rfl)) ?_
  with_reducible refine (cobwebref01_Power.calls k 127 t428 t429 _ A2.out).mono ?_
  rintro e w20 ⟨v430, rfl, ho0, hb⟩; refine ⟨_, rfl, ?_⟩; have HO431 := Aside0.mk (Kd.V_lower (Kd.V_mono (ok' := fun k_ => k_ ≠ gb427) ho0 (fun k_ hk_ => (kF BK427 k_ hk_))) (ko HB)); replace BK427 := kb BK427 hb; replace HB := kB HB hb
  (try clear hb); (try clear hb2); (try clear hk); (try clear hi); (try clear ho0)
  obtain ⟨Ao21, co21, eo21⟩ := Kd.V_slice HO431.out
  (first | subst eo21 | (injection eo21 with f1_ f2_ f3_; have f4_ := f1_.symm; have f5_ := f3_.symm; clear f1_ f2_ f3_; subst f4_; subst f5_))
  refine hK.out _ _ ⟨kc BK427 0, kc BK427 1⟩ (fun hHeld => ?_); clear hK K
  refine norm_ (a' := ?_) ?_ ?_; rotate_left; focus (show Act.put _ (some 4) _ = _; simp only [Act.put, s1, s2, s3, i64_w, i32_w]; rfl)
  refine one_ (i := 2) (N := some 5) #[T, T, T, O, O, O, O, O, O, O, O, O] rfl rfl (one_of HT_.out (by kernel_rfl)) (by decide) (fun K hK => ?_); refine goes_ Try.func31 (by kernel_rfl) rfl #[.agg #[.bool t428, .slice Ao21 t429.length co21]] (by rfl) rfl rfl (by (try simp only [zm, zc, zn]); first | done | rfl | (simp only [zd, zt]; rfl)) ?_
  with_reducible refine (cobwebref01_Neg.calls k t428 (fun k_ => k_ ≠ gb427) _ _ t429 t432 t433 _ ?side1 A3.out).mono ?_
  (case side1 => exact HO431.out)
  rintro e w22 ⟨v434, rfl, ho0, hb⟩; refine ⟨_, rfl, ?_⟩; have HO435 := Aside0.mk (Kd.V_lower (Kd.V_mono (ok' := fun k_ => k_ ≠ gb427) ho0 (fun k_ hk_ => Or.elim hk_ (fun hs_ => hs_) (fun hn_ => (Kd.freshB (g := gb427) (o := .cells #[.bool a0_0, .slice A0_1 l0_1.length c0_1] 32 (0, 0)) (kx BK427) k_ hn_)))) (ko HB)); replace HO431 := kV HO431 hb; replace BK427 := kb BK427 hb; replace HB := kB HB hb
  (try clear hb); (try clear hb2); (try clear hk); (try clear hi); (try clear ho0)
  obtain ⟨Ao23, co23, eo23⟩ := Kd.V_slice HO435.out
  (first | subst eo23 | (injection eo23 with f1_ f2_ f3_; have f4_ := f1_.symm; have f5_ := f3_.symm; clear f1_ f2_ f3_; subst f4_; subst f5_))
  refine hK.out _ _ ⟨kc BK427 0, kc BK427 1⟩ (fun hHeld => ?_); clear hK K
  refine norm_ (a' := ?_) ?_ ?_; rotate_left; focus (show Act.put _ (some 5) _ = _; simp only [Act.put, s1, s2, s3, i64_w, i32_w]; rfl)
  refine one_ (i := 3) (N := some 6) #[T, T, T, T, O, O, O, O, O, O, O, O] rfl rfl (one_of HT_.out (by kernel_rfl)) (by decide) (fun K hK => ?_); refine goes_ Try.func25 (by kernel_rfl) rfl #[.agg #[.bool a0_0, .slice A0_1 l0_1.length c0_1], .agg #[.bool t432, .slice Ao23 t433.length co23]] (by rfl) rfl rfl (by (try simp only [zm, zc, zn]); first | done | rfl | (simp only [zd, zt]; rfl)) ?_
  with_reducible refine (cobwebref01_Cmp.calls k a0_0 _ _ l0_1 t432 _ _ t433 t436 _ ?side1 ?side2 ?side3 ?side4 A4.out).mono ?_
  (case side1 => repeat (first | exact (Kd.C_below HR0_1.out HB.out) | (with_reducible refine Kd.C_alloc ?_ _) | (with_reducible refine Kd.C_drewN ?_ _) | (with_reducible refine Kd.C_drew ?_)))
  (case side2 => exact HC0_1.out)
  (case side3 => repeat (first | exact (Kd.V_reads' HO435.out).2.2 | (with_reducible refine Kd.C_alloc ?_ _) | (with_reducible refine Kd.C_drewN ?_ _) | (with_reducible refine Kd.C_drew ?_)))
  (case side4 => exact (Kd.V_reads' HO435.out).2.1)
  rintro e w24 ⟨rfl, hb⟩; refine ⟨_, rfl, ?_⟩; replace HO431 := kV HO431 hb; replace HO435 := kV HO435 hb; replace BK427 := kb BK427 hb; replace HB := kB HB hb
  (try clear hb); (try clear hb2); (try clear hk); (try clear hi)
  refine hK.out _ _ ⟨kc BK427 0, kc BK427 1⟩ (fun hHeld => ?_); clear hK K
  refine norm_ (a' := ?_) ?_ ?_; rotate_left; focus (show Act.put _ (some 6) _ = _; simp only [Act.put, s1, s2, s3, i64_w, i32_w]; rfl)
  refine pure_ (i := 4) (N := some 7) (v := ?_) (a' := ?_) #[T, T, T, T, T, O, O, O, O, O, O, O] rfl rfl (any_of HT_.out (by kernel_rfl)) (fun _ _ _ h => h) (Or.inl ⟨by rfl, ?_⟩) ?_ ?_; rotate_left; focus (intro w'; go_simp; with_reducible rfl)
  rotate_left; focus (simp only [Act.put, s1, s2, s3, i64_w, i32_w]; rfl)
  refine pure_ (i := 5) (N := some 8) (v := ?_) (a' := ?_) #[T, T, T, T, T, T, O, O, O, O, O, O] rfl rfl (any_of HT_.out (by kernel_rfl)) (fun _ _ _ h => h) (Or.inl ⟨by rfl, ?_⟩) ?_ ?_; rotate_left; focus (intro w'; go_simp; with_reducible rfl)
  rotate_left; focus (simp only [Act.put, s1, s2, s3, i64_w, i32_w]; rfl)
  refine pure_ (i := 6) (N := some 9) (v := undef) (a' := ?_) #[T, T, T, T, T, T, T, O, O, O, O, O] rfl rfl (any_of HT_.out (by kernel_rfl)) (fun _ _ _ h => h) (Or.inr ⟨by rfl, rfl⟩) ?_ ?_; rotate_left; focus (simp only [Act.put, s1, s2, s3, i64_w, i32_w]; rfl)
  refine pure_ (i := 7) (N := some 10) (v := undef) (a' := ?_) #[T, T, T, T, T, T, T, T, O, O, O, O] rfl rfl (any_of HT_.out (by kernel_rfl)) (fun _ _ _ h => h) (Or.inr ⟨by rfl, rfl⟩) ?_ ?_; rotate_left; focus (simp only [Act.put, s1, s2, s3, i64_w, i32_w]; rfl)
  refine pure_ (i := 8) (N := some 11) (v := undef) (a' := ?_) #[T, T, T, T, T, T, T, T, T, O, O, O] rfl rfl (any_of HT_.out (by kernel_rfl)) (fun _ _ _ h => h) (Or.inr ⟨by rfl, rfl⟩) ?_ ?_; rotate_left; focus (simp only [Act.put, s1, s2, s3, i64_w, i32_w]; rfl)
  refine pure_ (i := 9) (N := some 12) (v := undef) (a' := ?_) #[T, T, T, T, T, T, T, T, T, T, O, O] rfl rfl (any_of HT_.out (by kernel_rfl)) (fun _ _ _ h => h) (Or.inr ⟨by rfl, rfl⟩) ?_ ?_; rotate_left; focus (simp only [Act.put, s1, s2, s3, i64_w, i32_w]; rfl)
  refine pure_ (i := 10) (N := some 13) (v := ?_) (a' := ?_) #[T, T, T, T, T, T, T, T, T, T, T, O] rfl rfl (any_of HT_.out (by kernel_rfl)) (fun _ _ _ h => h) (Or.inl ⟨by rfl, ?_⟩) ?_ ?_; rotate_left; focus (intro w'; go_simp; with_reducible rfl)
  rotate_left; focus (simp only [Act.put, s1, s2, s3, i64_w, i32_w]; rfl)
  refine pure_ (i := 11) (N := some 2) (v := ?_) (a' := ?_) #[T, T, T, T, T, T, T, T, T, T, T, T] rfl rfl (any_of HT_.out (by kernel_rfl)) (fun _ _ _ h => h) (Or.inl ⟨by rfl, ?_⟩) ?_ ?_; rotate_left; focus (intro w'; go_simp; with_reducible rfl)
  rotate_left; focus (simp only [Act.put, s1, s2, s3, i64_w, i32_w]; rfl)
  refine done_ (done_of HT_.out (by kernel_rfl)) ?_
  try go_wp2
  go_ret
  exact ⟨by first | rfl | (simp [errW_none, errW_some] <;> rfl) | (simp [*, errW_none, errW_some] <;> rfl), ky HB⟩

 rw [if_pos c5] at H
 have c5b0 : decide (0 ≤ t436) = true := decide_eq_true c5; clear c5; replace H := Option.bind_eq_some_iff.mp H; obtain ⟨⟨t437, t438⟩, A60, H⟩ := H; replace H : ((cobwebref01_Cmp.f k a0_0 l0_1 t437 t438).bind fun t441 => (some (decide (t441 < 0)))) = some r := H; have A6 := Aside0.mk A60; clear A60; replace H := Option.bind_eq_some_iff.mp H; obtain ⟨t441, A70, H⟩ := H; replace H : (some (decide (t441 < 0))) = some r := H; have A7 := Aside0.mk A70; clear A70; obtain rfl := Option.some.inj H
 go_enter Try.func48, Try.ntmps48
 try go_wp2_with (first | ((with_reducible refine gate_dst (N := 1) rfl ?_); refine box_event ?hg (N := 1) ?hd (cs := #[.bool a0_0, .slice A0_1 l0_1.length c0_1]) (t := 32) ?hr ?_; (case hd => rfl); (case hg => rfl); (case hr => first | (go_simp; done) | (go_simp; rfl)); intro gb427 hg w8 hbox hb; have BK427 := Aside0.mk (hbox); have GW427 := kS HB hg; have GE427 := kS HB hg; replace HB := kB HB hb; clear hb hbox hg))
 replace BK427 := Aside0.mk (blk_drew BK427.out); replace HB := Aside0.mk (below_drew1 HB.out); refine start_ (n := 12) (S := fun w' => w'.cell? ⟨gb427, 0, none⟩ = some (.bool a0_0) ∧ w'.cell? ⟨gb427, 1, none⟩ = some (.slice A0_1 l0_1.length c0_1)) (ds := []) #[O, O, O, O, O, O, O, O, O, O, O, O] (by kernel_rfl) rfl rfl ⟨kc BK427 0, kc BK427 1⟩ (fun hHeld => ?_); refine with_tabW cobwebref01_Fits.tab1 cobwebref01_Fits.bits1 (fun HT_ HW_ => ?_)
 generalize w8.drew = w9 at BK427 HB hHeld ⊢
 refine take_ (i := 0) (N := some 3) (v := ?_) (a' := ?_) #[T, O, O, O, O, O, O, O, O, O, O, O] rfl rfl (take_ofW HT_.out HW_.out (by kernel_rfl)) (fun _ _ _ h => h) (Or.inl ⟨by rfl, ?_⟩) hHeld ?_ ?_; rotate_left; focus (rintro w' ⟨s0, s1⟩; go_simp; with_reducible rfl)
 rotate_left; focus (simp only [Act.put, s1, s2, s3, i64_w, i32_w]; rfl)
 refine one_ (i := 1) (N := some 4) #[T, T, O, O, O, O, O, O, O, O, O, O] rfl rfl (one_of HT_.out (by kernel_rfl)) (by decide) (fun K hK => ?_); refine goes_ Try.func23 (by kernel_rfl) rfl #[.int .i64 127] (by rfl) rfl rfl (by (try simp only [zm, zc, zn]); first | done | rfl | (simp only [zd, zt]; rfl)) ?_
 with_reducible refine (cobwebref01_Power.calls k 127 t428 t429 _ A2.out).mono ?_
 rintro e w10 ⟨v430, rfl, ho0, hb⟩; refine ⟨_, rfl, ?_⟩; have HO431 := Aside0.mk (Kd.V_lower (Kd.V_mono (ok' := fun k_ => k_ ≠ gb427) ho0 (fun k_ hk_ => (kF BK427 k_ hk_))) (ko HB)); replace BK427 := kb BK427 hb; replace HB := kB HB hb
 (try clear hb); (try clear hb2); (try clear hk); (try clear hi); (try clear ho0)
 obtain ⟨Ao11, co11, eo11⟩ := Kd.V_slice HO431.out
 (first | subst eo11 | (injection eo11 with f1_ f2_ f3_; have f4_ := f1_.symm; have f5_ := f3_.symm; clear f1_ f2_ f3_; subst f4_; subst f5_))
 refine hK.out _ _ ⟨kc BK427 0, kc BK427 1⟩ (fun hHeld => ?_); clear hK K
 refine norm_ (a' := ?_) ?_ ?_; rotate_left; focus (show Act.put _ (some 4) _ = _; simp only [Act.put, s1, s2, s3, i64_w, i32_w]; rfl)
 refine one_ (i := 2) (N := some 5) #[T, T, T, O, O, O, O, O, O, O, O, O] rfl rfl (one_of HT_.out (by kernel_rfl)) (by decide) (fun K hK => ?_); refine goes_ Try.func31 (by kernel_rfl) rfl #[.agg #[.bool t428, .slice Ao11 t429.length co11]] (by rfl) rfl rfl (by (try simp only [zm, zc, zn]); first | done | rfl | (simp only [zd, zt]; rfl)) ?_
 with_reducible refine (cobwebref01_Neg.calls k t428 (fun k_ => k_ ≠ gb427) _ _ t429 t432 t433 _ ?side1 A3.out).mono ?_
 (case side1 => exact HO431.out)
 rintro e w12 ⟨v434, rfl, ho0, hb⟩; refine ⟨_, rfl, ?_⟩; have HO435 := Aside0.mk (Kd.V_lower (Kd.V_mono (ok' := fun k_ => k_ ≠ gb427) ho0 (fun k_ hk_ => Or.elim hk_ (fun hs_ => hs_) (fun hn_ => (Kd.freshB (g := gb427) (o := .cells #[.bool a0_0, .slice A0_1 l0_1.length c0_1] 32 (0, 0)) (kx BK427) k_ hn_)))) (ko HB)); replace HO431 := kV HO431 hb; replace BK427 := kb BK427 hb; replace HB := kB HB hb
 (try clear hb); (try clear hb2); (try clear hk); (try clear hi); (try clear ho0)
 obtain ⟨Ao13, co13, eo13⟩ := Kd.V_slice HO435.out
 (first | subst eo13 | (injection eo13 with f1_ f2_ f3_; have f4_ := f1_.symm; have f5_ := f3_.symm; clear f1_ f2_ f3_; subst f4_; subst f5_))
 refine hK.out _ _ ⟨kc BK427 0, kc BK427 1⟩ (fun hHeld => ?_); clear hK K
 refine norm_ (a' := ?_) ?_ ?_; rotate_left; focus (show Act.put _ (some 5) _ = _; simp only [Act.put, s1, s2, s3, i64_w, i32_w]; rfl)
 refine one_ (i := 3) (N := some 6) #[T, T, T, T, O, O, O, O, O, O, O, O] rfl rfl (one_of HT_.out (by kernel_rfl)) (by decide) (fun K hK => ?_); refine goes_ Try.func25 (by kernel_rfl) rfl #[.agg #[.bool a0_0, .slice A0_1 l0_1.length c0_1], .agg #[.bool t432, .slice Ao13 t433.length co13]] (by rfl) rfl rfl (by (try simp only [zm, zc, zn]); first | done | rfl | (simp only [zd, zt]; rfl)) ?_
 with_reducible refine (cobwebref01_Cmp.calls k a0_0 _ _ l0_1 t432 _ _ t433 t436 _ ?side1 ?side2 ?side3 ?side4 A4.out).mono ?_
 (case side1 => repeat (first | exact (Kd.C_below HR0_1.out HB.out) | (with_reducible refine Kd.C_alloc ?_ _) | (with_reducible refine Kd.C_drewN ?_ _) | (with_reducible refine Kd.C_drew ?_)))
 (case side2 => exact HC0_1.out)
 (case side3 => repeat (first | exact (Kd.V_reads' HO435.out).2.2 | (with_reducible refine Kd.C_alloc ?_ _) | (with_reducible refine Kd.C_drewN ?_ _) | (with_reducible refine Kd.C_drew ?_)))
 (case side4 => exact (Kd.V_reads' HO435.out).2.1)
 rintro e w14 ⟨rfl, hb⟩; refine ⟨_, rfl, ?_⟩; replace HO431 := kV HO431 hb; replace HO435 := kV HO435 hb; replace BK427 := kb BK427 hb; replace HB := kB HB hb
 (try clear hb); (try clear hb2); (try clear hk); (try clear hi)
 refine hK.out _ _ ⟨kc BK427 0, kc BK427 1⟩ (fun hHeld => ?_); clear hK K
 refine norm_ (a' := ?_) ?_ ?_; rotate_left; focus (show Act.put _ (some 6) _ = _; simp only [Act.put, s1, s2, s3, i64_w, i32_w]; rfl)
 refine pure_ (i := 4) (N := some 7) (v := ?_) (a' := ?_) #[T, T, T, T, T, O, O, O, O, O, O, O] rfl rfl (any_of HT_.out (by kernel_rfl)) (fun _ _ _ h => h) (Or.inl ⟨by rfl, ?_⟩) ?_ ?_; rotate_left; focus (intro w'; go_simp; with_reducible rfl)
 rotate_left; focus (simp only [Act.put, s1, s2, s3, i64_w, i32_w]; rfl)
 refine pure_ (i := 5) (N := some 8) (v := ?_) (a' := ?_) #[T, T, T, T, T, T, O, O, O, O, O, O] rfl rfl (any_of HT_.out (by kernel_rfl)) (fun _ _ _ h => h) (Or.inl ⟨by rfl, ?_⟩) ?_ ?_; rotate_left; focus (intro w'; go_simp; with_reducible rfl)
 rotate_left; focus (simp only [Act.put, s1, s2, s3, i64_w, i32_w]; rfl)
 refine take_ (i := 6) (N := some 9) (v := ?_) (a' := ?_) #[T, T, T, T, T, T, T, O, O, O, O, O] rfl rfl (take_ofW HT_.out HW_.out (by kernel_rfl)) (fun _ _ _ h => h) (Or.inl ⟨by rfl, ?_⟩) hHeld ?_ ?_; rotate_left; focus (rintro w' ⟨s0, s1⟩; go_simp; with_reducible rfl)
 rotate_left; focus (simp only [Act.put, s1, s2, s3, i64_w, i32_w]; rfl)
 refine one_ (i := 7) (N := some 10) #[T, T, T, T, T, T, T, T, O, O, O, O] rfl rfl (one_of HT_.out (by kernel_rfl)) (by decide) (fun K hK => ?_); refine goes_ Try.func23 (by kernel_rfl) rfl #[.int .i64 127] (by rfl) rfl rfl (by (try simp only [zm, zc, zn]); first | done | rfl | (simp only [zd, zt]; rfl)) ?_
 with_reducible refine (cobwebref01_Power.calls k 127 t437 t438 _ A6.out).mono ?_
 rintro e w15 ⟨v439, rfl, ho0, hb⟩; refine ⟨_, rfl, ?_⟩; have HO440 := Aside0.mk (Kd.V_lower (Kd.V_mono (ok' := fun k_ => k_ ≠ gb427) ho0 (fun k_ hk_ => (kF BK427 k_ hk_))) (ko HB)); replace HO431 := kV HO431 hb; replace HO435 := kV HO435 hb; replace BK427 := kb BK427 hb; replace HB := kB HB hb
 (try clear hb); (try clear hb2); (try clear hk); (try clear hi); (try clear ho0)
 obtain ⟨Ao16, co16, eo16⟩ := Kd.V_slice HO440.out
 (first | subst eo16 | (injection eo16 with f1_ f2_ f3_; have f4_ := f1_.symm; have f5_ := f3_.symm; clear f1_ f2_ f3_; subst f4_; subst f5_))
 refine hK.out _ _ ⟨kc BK427 0, kc BK427 1⟩ (fun hHeld => ?_); clear hK K
 refine norm_ (a' := ?_) ?_ ?_; rotate_left; focus (show Act.put _ (some 10) _ = _; simp only [Act.put, s1, s2, s3, i64_w, i32_w]; rfl)
 refine one_ (i := 8) (N := some 11) #[T, T, T, T, T, T, T, T, T, O, O, O] rfl rfl (one_of HT_.out (by kernel_rfl)) (by decide) (fun K hK => ?_); refine goes_ Try.func25 (by kernel_rfl) rfl #[.agg #[.bool a0_0, .slice A0_1 l0_1.length c0_1], .agg #[.bool t437, .slice Ao16 t438.length co16]] (by rfl) rfl rfl (by (try simp only [zm, zc, zn]); first | done | rfl | (simp only [zd, zt]; rfl)) ?_
 with_reducible refine (cobwebref01_Cmp.calls k a0_0 _ _ l0_1 t437 _ _ t438 t441 _ ?side1 ?side2 ?side3 ?side4 A7.out).mono ?_
 (case side1 => repeat (first | exact (Kd.C_below HR0_1.out HB.out) | (with_reducible refine Kd.C_alloc ?_ _) | (with_reducible refine Kd.C_drewN ?_ _) | (with_reducible refine Kd.C_drew ?_)))
 (case side2 => exact HC0_1.out)
 (case side3 => repeat (first | exact (Kd.V_reads' HO440.out).2.2 | (with_reducible refine Kd.C_alloc ?_ _) | (with_reducible refine Kd.C_drewN ?_ _) | (with_reducible refine Kd.C_drew ?_)))
 (case side4 => exact (Kd.V_reads' HO440.out).2.1)
 rintro e w17 ⟨rfl, hb⟩; refine ⟨_, rfl, ?_⟩; replace HO431 := kV HO431 hb; replace HO435 := kV HO435 hb; replace HO440 := kV HO440 hb; replace BK427 := kb BK427 hb; replace HB := kB HB hb
 (try clear hb); (try clear hb2); (try clear hk); (try clear hi)
 refine hK.out _ _ ⟨kc BK427 0, kc BK427 1⟩ (fun hHeld => ?_); clear hK K
 refine norm_ (a' := ?_) ?_ ?_; rotate_left; focus (show Act.put _ (some 11) _ = _; simp only [Act.put, s1, s2, s3, i64_w, i32_w]; rfl)
 refine pure_ (i := 9) (N := some 12) (v := ?_) (a' := ?_) #[T, T, T, T, T, T, T, T, T, T, O, O] rfl rfl (any_of HT_.out (by kernel_rfl)) (fun _ _ _ h => h) (Or.inl ⟨by rfl, ?_⟩) ?_ ?_; rotate_left; focus (intro w'; go_simp; with_reducible rfl)
 rotate_left; focus (simp only [Act.put, s1, s2, s3, i64_w, i32_w]; rfl)
 refine pure_ (i := 10) (N := some 13) (v := ?_) (a' := ?_) #[T, T, T, T, T, T, T, T, T, T, T, O] rfl rfl (any_of HT_.out (by kernel_rfl)) (fun _ _ _ h => h) (Or.inl ⟨by rfl, ?_⟩) ?_ ?_; rotate_left; focus (intro w'; go_simp; with_reducible rfl)
 rotate_left; focus (simp only [Act.put, s1, s2, s3, i64_w, i32_w]; rfl)
 refine pure_ (i := 11) (N := some 2) (v := ?_) (a' := ?_) #[T, T, T, T, T, T, T, T, T, T, T, T] rfl rfl (any_of HT_.out (by kernel_rfl)) (fun _ _ _ h => h) (Or.inl ⟨by rfl, ?_⟩) ?_ ?_; rotate_left; focus (intro w'; go_simp; with_reducible rfl)
 rotate_left; focus (simp only [Act.put, s1, s2, s3, i64_w, i32_w]; rfl)
 refine done_ (done_of HT_.out (by kernel_rfl)) ?_
 try go_wp2
 go_ret
 exact ⟨by first | rfl | (simp [errW_none, errW_some] <;> rfl) | (simp [*, errW_none, errW_some] <;> rfl), ky HB⟩
end Go.Proofs.Ytpjbniihdndlmaa.Q
