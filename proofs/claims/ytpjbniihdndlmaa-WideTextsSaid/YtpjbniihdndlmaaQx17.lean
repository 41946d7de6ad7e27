-- Printed by wip/pp.sh (a session's own turning of the kit's print) for this seat.
import Derived.Test.YtpjbniihdndlmaaQx0
import Derived.Test.YtpjbniihdndlmaaQx1
import Derived.Test.YtpjbniihdndlmaaQx13
import Derived.Test.YtpjbniihdndlmaaQx14
import Derived.Test.YtpjbniihdndlmaaQx16
namespace Go.Proofs.Ytpjbniihdndlmaa.Q
open Go.RowKit Go.Proofs.YtpjbniihdndlmaaW.PrintWords Go.Proofs.YtpjbniihdndlmaaW.PrintLast Go.Proofs.YtpjbniihdndlmaaW.PrintMore
open Go.Proofs.Ytpjbniihdndlmaa.H
attribute [local go_sem] hq_add64 hq_sub64 hq_not64 add64c_nn sub64c_nn sub64c_le
attribute [local go_sem] max2_int min2_int max_two min_two max_three min_three max_four min_four   -- for this text's walks alone
set_option linter.unusedVariables false
set_option linter.unusedSimpArgs false

attribute [local go_sem high] eqA24
/-! ### cobweblaw01_same: function 17 -/
def cobweblaw01_same.f (k : Nat) (a0_0 : Int) (a0_1 : Int) (a1 : Bool) (a2_0 : Bool) (l2_1 : List Int) : Option (Bool) := (cobwebref01_Fits.f k a2_0 l2_1).bind fun t444 => (if t444 = true then (if a1 = true then ((cobweblaw01_num.f k a0_0 a0_1).bind fun bt445 => ((cobwebref01_Cmp.f k bt445.1 bt445.2 a2_0 l2_1).bind fun t449 => (some (t449 == 0)))) else (some false)) else (if a1 = true then (some false) else (some (a0_0 == 0 && (a0_1 == 0)))))
theorem cobweblaw01_same.mono : ∀ a0 a1 a2 a3 a4 k, LeO (cobweblaw01_same.f k a0 a1 a2 a3 a4) (cobweblaw01_same.f (k + 1) a0 a1 a2 a3 a4) := by
 intro a0 a1 a2 a3 a4 k
 unfold cobweblaw01_same.f
 repeat' first
   | (with_reducible exact cobweblaw01_num.mono _ _ _)
   | (with_reducible exact cobwebref01_Cmp.mono _ _ _ _ _)
   | (with_reducible exact cobwebref01_Fits.mono _ _ _)
   | (with_reducible exact LeO.refl _)
   | (with_reducible exact LeO.none _)
   | (with_reducible refine LeO.ite ?_ ?_)
   | (with_reducible refine LeO.bind ?_ (fun _ => ?_))
   | exact cobweblaw01_num.mono _ _ _
   | exact cobwebref01_Cmp.mono _ _ _ _ _
   | exact cobwebref01_Fits.mono _ _ _
   | exact LeO.none _
   | refine LeO.ite ?_ ?_
   | refine LeO.bind ?_ (fun _ => ?_)
def cobweblaw01_same.T3 : Bool × List (List Nat × List Nat) := (true, [([], []), ([0], [0]), ([1], [1]), ([2, 1, 1], [1, 2]), ([1], [1]), ([3, 4, 3, 1], [1, 3, 4]), ([5, 1], [1, 5]), ([1, 6], [1, 6]), ([7, 5, 0, 1, 2, 3, 4, 5, 6, 7], [7])])
def cobweblaw01_same.B3 : List Nat := [0, 1, 3, 7, 3, 31, 63, 127, 255]
theorem cobweblaw01_same.tab3 : rtab .any (opsOf Try.f17 3) = cobweblaw01_same.T3 := by kernel_rfl
theorem cobweblaw01_same.bits3 : waitsOk cobweblaw01_same.T3.2 cobweblaw01_same.B3 = true := by kernel_rfl
set_option maxHeartbeats 8000000 in
set_option maxRecDepth 100000 in
theorem cobweblaw01_same.calls (k : Nat) (a0_0 : Int) (a0_1 : Int) (a1 : Bool) (a2_0 : Bool) (A2_1 : Option Addr) (c2_1 : Nat) (l2_1 : List Int) (r : Bool) (w : World) (hr2_1 : Kd.C (Kd.int .i64) w A2_1 l2_1.length l2_1) (hc2_1 : l2_1.length ≤ c2_1) (h : cobweblaw01_same.f k a0_0 a0_1 a1 a2_0 l2_1 = some r) :
  Calls Try.prog 17 #[.agg #[.int .i64 a0_0, .int .u64 a0_1], .bool a1, .agg #[.bool a2_0, .slice A2_1 l2_1.length c2_1]] w fun e w' => e = .returned (.bool r) ∧ Below w.heap.size w w' := by
 have hu24 := Try.underlying24; have hu32 := Try.underlying32; have HR2_1 := Aside0.mk hr2_1; have HC2_1 := Aside0.mk hc2_1; clear hr2_1 hc2_1; have HB := Aside0.mk (Below.refl w.heap.size w); have H : ((cobwebref01_Fits.f k a2_0 l2_1).bind fun t444 => (if t444 = true then (if a1 = true then ((cobweblaw01_num.f k a0_0 a0_1).bind fun bt445 => ((cobwebref01_Cmp.f k bt445.1 bt445.2 a2_0 l2_1).bind fun t449 => (some (t449 == 0)))) else (some false)) else (if a1 = true then (some false) else (some (a0_0 == 0 && (a0_1 == 0)))))) = some r := h; clear h; replace H := Option.bind_eq_some_iff.mp H; obtain ⟨t444, A40, H⟩ := H; replace H : (if t444 = true then (if a1 = true then ((cobweblaw01_num.f k a0_0 a0_1).bind fun bt445 => ((cobwebref01_Cmp.f k bt445.1 bt445.2 a2_0 l2_1).bind fun t449 => (some (t449 == 0)))) else (some false)) else (if a1 = true then (some false) else (some (a0_0 == 0 && (a0_1 == 0))))) = some r := H; have A4 := Aside0.mk A40; clear A40
 by_cases c5 : t444 = true
 rotate_left
 ·replace c5 := Bool.eq_false_iff.mpr c5; subst c5
  have H1 : (if a1 = true then (some false) else (some (a0_0 == 0 && (a0_1 == 0)))) = some r := by rw [if_neg (show ¬ (false = true) by decide)] at H; exact H
  clear H; have H := H1; clear H1
  by_cases c24 : a1 = true
  ·subst c24
   have H1 : (some false) = some r := by rw [if_pos rfl] at H; exact H
   clear H; have H := H1; clear H1; obtain rfl := Option.some.inj H
   go_enter Try.func17, Try.ntmps17
   go_wp2_with (first | ((with_reducible refine gate_dst (N := 3) rfl ?_); refine box_event ?hg (N := 3) ?hd (cs := #[.int .i64 a0_0, .int .u64 a0_1]) (t := 24) ?hr ?_; (case hd => rfl); (case hg => rfl); (case hr => first | (go_simp; done) | (go_simp; rfl)); intro gb442 hg w25 hbox hb; have BK442 := Aside0.mk (hbox); have GW442 := kS HB hg; have GE442 := kS HB hg; replace HB := kB HB hb; clear hb hbox hg) | ((with_reducible refine gate_dst (N := 5) rfl ?_); refine box_event ?hg (N := 5) ?hd (cs := #[.bool a2_0, .slice A2_1 l2_1.length c2_1]) (t := 32) ?hr ?_; (case hd => rfl); (case hg => rfl); (case hr => first | (go_simp; done) | (go_simp; rfl)); intro gb443 hg w26 hbox hb; have BK443 := Aside0.mk (hbox); have GW443 := kS HB hg; have GE443 := kS HB hg; have NB442_443 := kN BK442 hg; have NB443_442 := kM BK442 hg; replace BK442 := kb BK442 hb; replace HB := kB HB hb; clear hb hbox hg; have hnb27 := NB443_442.out; have hnc27 := NB442_443.out; have hcz28_0 : w26.cell? ⟨gb443, 0, none⟩ = some (.bool a2_0) := kc BK443 0; have hcz28_1 : w26.cell? ⟨gb443, 1, none⟩ = some (.slice A2_1 l2_1.length c2_1) := kc BK443 1; have hfz28_0 := blk_frozen BK443.out 0; have hfz28_1 := blk_frozen BK443.out 1) | ((with_reducible refine gate_callee (f := 48) rfl ?_); refine goesL_ (some 8) rfl rfl Try.func48 (by kernel_rfl) rfl #[.agg #[.bool a2_0, .slice A2_1 l2_1.length c2_1]] rfl (by (try simp only [zm, zc, zn]); first | done | rfl | (simp only [zd, zt]; rfl)) ?_; (with_reducible refine (cobwebref01_Fits.calls k a2_0 _ _ l2_1 false _ ?side1 ?side2 A4.out).mono ?_); (case side1 => repeat (first | exact (Kd.C_below HR2_1.out HB.out) | (with_reducible refine Kd.C_alloc ?_ _) | (with_reducible refine Kd.C_drewN ?_ _) | (with_reducible refine Kd.C_drew ?_))); (case side2 => exact HC2_1.out); rintro e w29 ⟨rfl, hb⟩; refine ⟨_, rfl, ?_⟩; replace BK442 := kb BK442 hb; replace BK443 := kb BK443 hb; replace HB := kB HB hb; (try clear hb); (try clear hb2); (try clear hk); (try clear hi)))
   go_ret
   exact ⟨by first | rfl | (simp [errW_none, errW_some] <;> rfl) | (simp [*, errW_none, errW_some] <;> rfl), ky HB⟩
  replace c24 := Bool.eq_false_iff.mpr c24; subst c24
  have H1 : (some (a0_0 == 0 && (a0_1 == 0))) = some r := by rw [if_neg (show ¬ (false = true) by decide)] at H; exact H
  clear H; have H := H1; clear H1; obtain rfl := Option.some.inj H
  go_enter Try.func17, Try.ntmps17
  go_wp2_with (first | ((with_reducible refine gate_dst (N := 3) rfl ?_); refine box_event ?hg (N := 3) ?hd (cs := #[.int .i64 a0_0, .int .u64 a0_1]) (t := 24) ?hr ?_; (case hd => rfl); (case hg => rfl); (case hr => first | (go_simp; done) | (go_simp; rfl)); intro gb442 hg w30 hbox hb; have BK442 := Aside0.mk (hbox); have GW442 := kS HB hg; have GE442 := kS HB hg; replace HB := kB HB hb; clear hb hbox hg) | ((with_reducible refine gate_dst (N := 5) rfl ?_); refine box_event ?hg (N := 5) ?hd (cs := #[.bool a2_0, .slice A2_1 l2_1.length c2_1]) (t := 32) ?hr ?_; (case hd => rfl); (case hg => rfl); (case hr => first | (go_simp; done) | (go_simp; rfl)); intro gb443 hg w31 hbox hb; have BK443 := Aside0.mk (hbox); have GW443 := kS HB hg; have GE443 := kS HB hg; have NB442_443 := kN BK442 hg; have NB443_442 := kM BK442 hg; replace BK442 := kb BK442 hb; replace HB := kB HB hb; clear hb hbox hg; have hnb32 := NB443_442.out; have hnc32 := NB442_443.out; have hcz33_0 : w31.cell? ⟨gb443, 0, none⟩ = some (.bool a2_0) := kc BK443 0; have hcz33_1 : w31.cell? ⟨gb443, 1, none⟩ = some (.slice A2_1 l2_1.length c2_1) := kc BK443 1; have hfz33_0 := blk_frozen BK443.out 0; have hfz33_1 := blk_frozen BK443.out 1) | ((with_reducible refine gate_callee (f := 48) rfl ?_); refine goesL_ (some 8) rfl rfl Try.func48 (by kernel_rfl) rfl #[.agg #[.bool a2_0, .slice A2_1 l2_1.length c2_1]] rfl (by (try simp only [zm, zc, zn]); first | done | rfl | (simp only [zd, zt]; rfl)) ?_; (with_reducible refine (cobwebref01_Fits.calls k a2_0 _ _ l2_1 false _ ?side1 ?side2 A4.out).mono ?_); (case side1 => repeat (first | exact (Kd.C_below HR2_1.out HB.out) | (with_reducible refine Kd.C_alloc ?_ _) | (with_reducible refine Kd.C_drewN ?_ _) | (with_reducible refine Kd.C_drew ?_))); (case side2 => exact HC2_1.out); rintro e w34 ⟨rfl, hb⟩; refine ⟨_, rfl, ?_⟩; replace BK442 := kb BK442 hb; replace BK443 := kb BK443 hb; replace HB := kB HB hb; (try clear hb); (try clear hb2); (try clear hk); (try clear hi); have hcz35_0 : w34.cell? ⟨gb442, 0, none⟩ = some (.int .i64 a0_0) := kc BK442 0; have hcz35_1 : w34.cell? ⟨gb442, 1, none⟩ = some (.int .u64 a0_1) := kc BK442 1; have hfz35_0 := blk_frozen BK442.out 0; have hfz35_1 := blk_frozen BK442.out 1))
  go_ret
  exact ⟨by first | rfl | (simp [errW_none, errW_some] <;> rfl) | (simp [*, errW_none, errW_some] <;> rfl), ky HB⟩

 subst c5
 have H1 : (if a1 = true then ((cobweblaw01_num.f k a0_0 a0_1).bind fun bt445 => ((cobwebref01_Cmp.f k bt445.1 bt445.2 a2_0 l2_1).bind fun t449 => (some (t449 == 0)))) else (some false)) = some r := by rw [if_pos rfl] at H; exact H
 clear H; have H := H1; clear H1
 by_cases c6 : a1 = true
 rotate_left
 ·replace c6 := Bool.eq_false_iff.mpr c6; subst c6
  have H1 : (some false) = some r := by rw [if_neg (show ¬ (false = true) by decide)] at H; exact H
  clear H; have H := H1; clear H1; obtain rfl := Option.some.inj H
  go_enter Try.func17, Try.ntmps17
  try go_wp2_with (first | ((with_reducible refine gate_dst (N := 3) rfl ?_); refine box_event ?hg (N := 3) ?hd (cs := #[.int .i64 a0_0, .int .u64 a0_1]) (t := 24) ?hr ?_; (case hd => rfl); (case hg => rfl); (case hr => first | (go_simp; done) | (go_simp; rfl)); intro gb442 hg w18 hbox hb; have BK442 := Aside0.mk (hbox); have GW442 := kS HB hg; have GE442 := kS HB hg; replace HB := kB HB hb; clear hb hbox hg) | ((with_reducible refine gate_dst (N := 5) rfl ?_); refine box_event ?hg (N := 5) ?hd (cs := #[.bool a2_0, .slice A2_1 l2_1.length c2_1]) (t := 32) ?hr ?_; (case hd => rfl); (case hg => rfl); (case hr => first | (go_simp; done) | (go_simp; rfl)); intro gb443 hg w19 hbox hb; have BK443 := Aside0.mk (hbox); have GW443 := kS HB hg; have GE443 := kS HB hg; have NB442_443 := kN BK442 hg; have NB443_442 := kM BK442 hg; replace BK442 := kb BK442 hb; replace HB := kB HB hb; clear hb hbox hg; have hnb20 := NB443_442.out; have hnc20 := NB442_443.out; have hcz21_0 : w19.cell? ⟨gb443, 0, none⟩ = some (.bool a2_0) := kc BK443 0; have hcz21_1 : w19.cell? ⟨gb443, 1, none⟩ = some (.slice A2_1 l2_1.length c2_1) := kc BK443 1; have hfz21_0 := blk_frozen BK443.out 0; have hfz21_1 := blk_frozen BK443.out 1) | ((with_reducible refine gate_callee (f := 48) rfl ?_); refine goesL_ (some 8) rfl rfl Try.func48 (by kernel_rfl) rfl #[.agg #[.bool a2_0, .slice A2_1 l2_1.length c2_1]] rfl (by (try simp only [zm, zc, zn]); first | done | rfl | (simp only [zd, zt]; rfl)) ?_; (with_reducible refine (cobwebref01_Fits.calls k a2_0 _ _ l2_1 true _ ?side1 ?side2 A4.out).mono ?_); (case side1 => repeat (first | exact (Kd.C_below HR2_1.out HB.out) | (with_reducible refine Kd.C_alloc ?_ _) | (with_reducible refine Kd.C_drewN ?_ _) | (with_reducible refine Kd.C_drew ?_))); (case side2 => exact HC2_1.out); rintro e w22 ⟨rfl, hb⟩; refine ⟨_, rfl, ?_⟩; replace BK442 := kb BK442 hb; replace BK443 := kb BK443 hb; replace HB := kB HB hb; (try clear hb); (try clear hb2); (try clear hk); (try clear hi)))
  replace BK442 := Aside0.mk (blk_drew BK442.out); replace BK443 := Aside0.mk (blk_drew BK443.out); replace HB := Aside0.mk (below_drew1 HB.out); refine start_ (n := 9) (S := fun w' => True) (ds := []) #[O, O, O, O, O, O, O, O, O] (by kernel_rfl) rfl rfl trivial (fun hHeld => ?_); refine with_tabW cobweblaw01_same.tab3 cobweblaw01_same.bits3 (fun HT_ HW_ => ?_)
  generalize w22.drew = w23 at BK442 BK443 HB hHeld ⊢
  refine pure_ (i := 0) (N := some 17) (v := ?_) (a' := ?_) #[T, O, O, O, O, O, O, O, O] rfl rfl (any_of HT_.out (by kernel_rfl)) (fun _ _ _ h => h) (Or.inl ⟨by rfl, ?_⟩) ?_ ?_; rotate_left; focus (intro w'; go_simp; with_reducible rfl)
  rotate_left; focus (simp only [Act.put, s1, s2, s3, i64_w, i32_w]; rfl)
  refine pure_ (i := 1) (N := some 18) (v := ?_) (a' := ?_) #[T, T, O, O, O, O, O, O, O] rfl rfl (any_of HT_.out (by kernel_rfl)) (fun _ _ _ h => h) (Or.inl ⟨by rfl, ?_⟩) ?_ ?_; rotate_left; focus (intro w'; go_simp; with_reducible rfl)
  rotate_left; focus (simp only [Act.put, s1, s2, s3, i64_w, i32_w]; rfl)
  refine pure_ (i := 2) (N := some 19) (v := undef) (a' := ?_) #[T, T, T, O, O, O, O, O, O] rfl rfl (any_of HT_.out (by kernel_rfl)) (fun _ _ _ h => h) (Or.inr ⟨by rfl, rfl⟩) ?_ ?_; rotate_left; focus (simp only [Act.put, s1, s2, s3, i64_w, i32_w]; rfl)
  refine pure_ (i := 3) (N := some 20) (v := undef) (a' := ?_) #[T, T, T, T, O, O, O, O, O] rfl rfl (any_of HT_.out (by kernel_rfl)) (fun _ _ _ h => h) (Or.inr ⟨by rfl, rfl⟩) ?_ ?_; rotate_left; focus (simp only [Act.put, s1, s2, s3, i64_w, i32_w]; rfl)
  refine pure_ (i := 4) (N := some 21) (v := undef) (a' := ?_) #[T, T, T, T, T, O, O, O, O] rfl rfl (any_of HT_.out (by kernel_rfl)) (fun _ _ _ h => h) (Or.inr ⟨by rfl, rfl⟩) ?_ ?_; rotate_left; focus (simp only [Act.put, s1, s2, s3, i64_w, i32_w]; rfl)
  refine pure_ (i := 5) (N := some 22) (v := undef) (a' := ?_) #[T, T, T, T, T, T, O, O, O] rfl rfl (any_of HT_.out (by kernel_rfl)) (fun _ _ _ h => h) (Or.inr ⟨by rfl, rfl⟩) ?_ ?_; rotate_left; focus (simp only [Act.put, s1, s2, s3, i64_w, i32_w]; rfl)
  refine pure_ (i := 6) (N := some 23) (v := undef) (a' := ?_) #[T, T, T, T, T, T, T, O, O] rfl rfl (any_of HT_.out (by kernel_rfl)) (fun _ _ _ h => h) (Or.inr ⟨by rfl, rfl⟩) ?_ ?_; rotate_left; focus (simp only [Act.put, s1, s2, s3, i64_w, i32_w]; rfl)
  refine pure_ (i := 7) (N := some 24) (v := ?_) (a' := ?_) #[T, T, T, T, T, T, T, T, O] rfl rfl (any_of HT_.out (by kernel_rfl)) (fun _ _ _ h => h) (Or.inl ⟨by rfl, ?_⟩) ?_ ?_; rotate_left; focus (intro w'; go_simp; with_reducible rfl)
  rotate_left; focus (simp only [Act.put, s1, s2, s3, i64_w, i32_w]; rfl)
  refine pure_ (i := 8) (N := some 6) (v := ?_) (a' := ?_) #[T, T, T, T, T, T, T, T, T] rfl rfl (any_of HT_.out (by kernel_rfl)) (fun _ _ _ h => h) (Or.inl ⟨by rfl, ?_⟩) ?_ ?_; rotate_left; focus (intro w'; go_simp; with_reducible rfl)
  rotate_left; focus (simp only [Act.put, s1, s2, s3, i64_w, i32_w]; rfl)
  refine done_ (done_of HT_.out (by kernel_rfl)) ?_
  try go_wp2
  go_ret
  exact ⟨by first | rfl | (simp [errW_none, errW_some] <;> rfl) | (simp [*, errW_none, errW_some] <;> rfl), ky HB⟩
 subst c6
 have H1 : ((cobweblaw01_num.f k a0_0 a0_1).bind fun bt445 => ((cobwebref01_Cmp.f k bt445.1 bt445.2 a2_0 l2_1).bind fun t449 => (some (t449 == 0)))) = some r := by rw [if_pos rfl] at H; exact H
 clear H; have H := H1; clear H1; replace H := Option.bind_eq_some_iff.mp H; obtain ⟨⟨t445, t446⟩, A70, H⟩ := H; replace H : ((cobwebref01_Cmp.f k t445 t446 a2_0 l2_1).bind fun t449 => (some (t449 == 0))) = some r := H; have A7 := Aside0.mk A70; clear A70; replace H := Option.bind_eq_some_iff.mp H; obtain ⟨t449, A80, H⟩ := H; replace H : (some (t449 == 0)) = some r := H; have A8 := Aside0.mk A80; clear A80; obtain rfl := Option.some.inj H
 go_enter Try.func17, Try.ntmps17
 try go_wp2_with (first | ((with_reducible refine gate_dst (N := 3) rfl ?_); refine box_event ?hg (N := 3) ?hd (cs := #[.int .i64 a0_0, .int .u64 a0_1]) (t := 24) ?hr ?_; (case hd => rfl); (case hg => rfl); (case hr => first | (go_simp; done) | (go_simp; rfl)); intro gb442 hg w9 hbox hb; have BK442 := Aside0.mk (hbox); have GW442 := kS HB hg; have GE442 := kS HB hg; replace HB := kB HB hb; clear hb hbox hg) | ((with_reducible refine gate_dst (N := 5) rfl ?_); refine box_event ?hg (N := 5) ?hd (cs := #[.bool a2_0, .slice A2_1 l2_1.length c2_1]) (t := 32) ?hr ?_; (case hd => rfl); (case hg => rfl); (case hr => first | (go_simp; done) | (go_simp; rfl)); intro gb443 hg w10 hbox hb; have BK443 := Aside0.mk (hbox); have GW443 := kS HB hg; have GE443 := kS HB hg; have NB442_443 := kN BK442 hg; have NB443_442 := kM BK442 hg; replace BK442 := kb BK442 hb; replace HB := kB HB hb; clear hb hbox hg; have hnb11 := NB443_442.out; have hnc11 := NB442_443.out; have hcz12_0 : w10.cell? ⟨gb443, 0, none⟩ = some (.bool a2_0) := kc BK443 0; have hcz12_1 : w10.cell? ⟨gb443, 1, none⟩ = some (.slice A2_1 l2_1.length c2_1) := kc BK443 1; have hfz12_0 := blk_frozen BK443.out 0; have hfz12_1 := blk_frozen BK443.out 1) | ((with_reducible refine gate_callee (f := 48) rfl ?_); refine goesL_ (some 8) rfl rfl Try.func48 (by kernel_rfl) rfl #[.agg #[.bool a2_0, .slice A2_1 l2_1.length c2_1]] rfl (by (try simp only [zm, zc, zn]); first | done | rfl | (simp only [zd, zt]; rfl)) ?_; (with_reducible refine (cobwebref01_Fits.calls k a2_0 _ _ l2_1 true _ ?side1 ?side2 A4.out).mono ?_); (case side1 => repeat (first | exact (Kd.C_below HR2_1.out HB.out) | (with_reducible refine Kd.C_alloc ?_ _) | (with_reducible refine Kd.C_drewN ?_ _) | (with_reducible refine Kd.C_drew ?_))); (case side2 => exact HC2_1.out); rintro e w13 ⟨rfl, hb⟩; refine ⟨_, rfl, ?_⟩; replace BK442 := kb BK442 hb; replace BK443 := kb BK443 hb; replace HB := kB HB hb; (try clear hb); (try clear hb2); (try clear hk); (try clear hi)))
 replace BK442 := Aside0.mk (blk_drew BK442.out); replace BK443 := Aside0.mk (blk_drew BK443.out); replace HB := Aside0.mk (below_drew1 HB.out); refine start_ (n := 9) (S := fun w' => w'.cell? ⟨gb442, 0, none⟩ = some (.int .i64 a0_0) ∧ w'.cell? ⟨gb442, 1, none⟩ = some (.int .u64 a0_1) ∧ w'.cell? ⟨gb443, 0, none⟩ = some (.bool a2_0) ∧ w'.cell? ⟨gb443, 1, none⟩ = some (.slice A2_1 l2_1.length c2_1)) (ds := []) #[O, O, O, O, O, O, O, O, O] (by kernel_rfl) rfl rfl ⟨kc BK442 0, kc BK442 1, kc BK443 0, kc BK443 1⟩ (fun hHeld => ?_); refine with_tabW cobweblaw01_same.tab3 cobweblaw01_same.bits3 (fun HT_ HW_ => ?_)
 generalize w13.drew = w14 at BK442 BK443 HB hHeld ⊢
 refine pure_ (i := 0) (N := some 17) (v := ?_) (a' := ?_) #[T, O, O, O, O, O, O, O, O] rfl rfl (any_of HT_.out (by kernel_rfl)) (fun _ _ _ h => h) (Or.inl ⟨by rfl, ?_⟩) ?_ ?_; rotate_left; focus (intro w'; go_simp; with_reducible rfl)
 rotate_left; focus (simp only [Act.put, s1, s2, s3, i64_w, i32_w]; rfl)
 refine pure_ (i := 1) (N := some 18) (v := ?_) (a' := ?_) #[T, T, O, O, O, O, O, O, O] rfl rfl (any_of HT_.out (by kernel_rfl)) (fun _ _ _ h => h) (Or.inl ⟨by rfl, ?_⟩) ?_ ?_; rotate_left; focus (intro w'; go_simp; with_reducible rfl)
 rotate_left; focus (simp only [Act.put, s1, s2, s3, i64_w, i32_w]; rfl)
 refine take_ (i := 2) (N := some 19) (v := ?_) (a' := ?_) #[T, T, T, O, O, O, O, O, O] rfl rfl (take_ofW HT_.out HW_.out (by kernel_rfl)) (fun _ _ _ h => h) (Or.inl ⟨by rfl, ?_⟩) hHeld ?_ ?_; rotate_left; focus (rintro w' ⟨s0, s1, s2, s3⟩; go_simp; with_reducible rfl)
 rotate_left; focus (simp only [Act.put, s1, s2, s3, i64_w, i32_w]; rfl)
 refine take_ (i := 4) (N := some 21) (v := ?_) (a' := ?_) #[T, T, T, O, T, O, O, O, O] rfl rfl (take_ofW HT_.out HW_.out (by kernel_rfl)) (fun _ _ _ h => h) (Or.inl ⟨by rfl, ?_⟩) hHeld ?_ ?_; rotate_left; focus (rintro w' ⟨s0, s1, s2, s3⟩; go_simp; with_reducible rfl)
 rotate_left; focus (simp only [Act.put, s1, s2, s3, i64_w, i32_w]; rfl)
 refine one_ (i := 3) (N := some 20) #[T, T, T, T, T, O, O, O, O] rfl rfl (one_of HT_.out (by kernel_rfl)) (by decide) (fun K hK => ?_); refine goes_ Try.func19 (by kernel_rfl) rfl #[.agg #[.int .i64 a0_0, .int .u64 a0_1]] (by rfl) rfl rfl (by (try simp only [zm, zc, zn]); first | done | rfl | (simp only [zd, zt]; rfl)) ?_
 with_reducible refine (cobweblaw01_num.calls k a0_0 a0_1 t445 t446 _ A7.out).mono ?_
 rintro e w15 ⟨v447, rfl, ho0, hb⟩; refine ⟨_, rfl, ?_⟩; have HO448 := Aside0.mk (Kd.V_lower (Kd.V_mono (ok' := fun k_ => k_ ≠ gb442 ∧ k_ ≠ gb443) ho0 (fun k_ hk_ => ⟨(kF BK442 k_ hk_), (kF BK443 k_ hk_)⟩)) (ko HB)); replace BK442 := kb BK442 hb; replace BK443 := kb BK443 hb; replace HB := kB HB hb
 (try clear hb); (try clear hb2); (try clear hk); (try clear hi); (try clear ho0)
 obtain ⟨Ao16, co16, eo16⟩ := Kd.V_slice HO448.out
 (first | subst eo16 | (injection eo16 with f1_ f2_ f3_; have f4_ := f1_.symm; have f5_ := f3_.symm; clear f1_ f2_ f3_; subst f4_; subst f5_))
 refine hK.out _ _ ⟨kc BK442 0, kc BK442 1, kc BK443 0, kc BK443 1⟩ (fun hHeld => ?_); clear hK K
 refine norm_ (a' := ?_) ?_ ?_; rotate_left; focus (show Act.put _ (some 20) _ = _; simp only [Act.put, s1, s2, s3, i64_w, i32_w]; rfl)
 refine one_ (i := 5) (N := some 22) #[T, T, T, T, T, T, O, O, O] rfl rfl (one_of HT_.out (by kernel_rfl)) (by decide) (fun K hK => ?_); refine goes_ Try.func25 (by kernel_rfl) rfl #[.agg #[.bool t445, .slice Ao16 t446.length co16], .agg #[.bool a2_0, .slice A2_1 l2_1.length c2_1]] (by rfl) rfl rfl (by (try simp only [zm, zc, zn]); first | done | rfl | (simp only [zd, zt]; rfl)) ?_
 with_reducible refine (cobwebref01_Cmp.calls k t445 _ _ t446 a2_0 _ _ l2_1 t449 _ ?side1 ?side2 ?side3 ?side4 A8.out).mono ?_
 (case side1 => repeat (first | exact (Kd.V_reads' HO448.out).2.2 | (with_reducible refine Kd.C_alloc ?_ _) | (with_reducible refine Kd.C_drewN ?_ _) | (with_reducible refine Kd.C_drew ?_)))
 (case side2 => exact (Kd.V_reads' HO448.out).2.1)
 (case side3 => repeat (first | exact (Kd.C_below HR2_1.out HB.out) | (with_reducible refine Kd.C_alloc ?_ _) | (with_reducible refine Kd.C_drewN ?_ _) | (with_reducible refine Kd.C_drew ?_)))
 (case side4 => exact HC2_1.out)
 rintro e w17 ⟨rfl, hb⟩; refine ⟨_, rfl, ?_⟩; replace HO448 := kV HO448 hb; replace BK442 := kb BK442 hb; replace BK443 := kb BK443 hb; replace HB := kB HB hb
 (try clear hb); (try clear hb2); (try clear hk); (try clear hi)
 refine hK.out _ _ ⟨kc BK442 0, kc BK442 1, kc BK443 0, kc BK443 1⟩ (fun hHeld => ?_); clear hK K
 refine norm_ (a' := ?_) ?_ ?_; rotate_left; focus (show Act.put _ (some 22) _ = _; simp only [Act.put, s1, s2, s3, i64_w, i32_w]; rfl)
 refine pure_ (i := 6) (N := some 23) (v := ?_) (a' := ?_) #[T, T, T, T, T, T, T, O, O] rfl rfl (any_of HT_.out (by kernel_rfl)) (fun _ _ _ h => h) (Or.inl ⟨by rfl, ?_⟩) ?_ ?_; rotate_left; focus (intro w'; go_simp; with_reducible rfl)
 rotate_left; focus (simp only [Act.put, s1, s2, s3, i64_w, i32_w]; rfl)
 refine pure_ (i := 7) (N := some 24) (v := ?_) (a' := ?_) #[T, T, T, T, T, T, T, T, O] rfl rfl (any_of HT_.out (by kernel_rfl)) (fun _ _ _ h => h) (Or.inl ⟨by rfl, ?_⟩) ?_ ?_; rotate_left; focus (intro w'; go_simp; with_reducible rfl)
 rotate_left; focus (simp only [Act.put, s1, s2, s3, i64_w, i32_w]; rfl)
 refine pure_ (i := 8) (N := some 6) (v := ?_) (a' := ?_) #[T, T, T, T, T, T, T, T, T] rfl rfl (any_of HT_.out (by kernel_rfl)) (fun _ _ _ h => h) (Or.inl ⟨by rfl, ?_⟩) ?_ ?_; rotate_left; focus (intro w'; go_simp; with_reducible rfl)
 rotate_left; focus (simp only [Act.put, s1, s2, s3, i64_w, i32_w]; rfl)
 refine done_ (done_of HT_.out (by kernel_rfl)) ?_
 try go_wp2
 go_ret
 exact ⟨by first | rfl | (simp [errW_none, errW_some] <;> rfl) | (simp [*, errW_none, errW_some] <;> rfl), ky HB⟩
end Go.Proofs.Ytpjbniihdndlmaa.Q
