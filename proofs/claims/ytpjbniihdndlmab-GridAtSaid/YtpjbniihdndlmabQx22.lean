-- Printed by wip/pp.sh (a session's own turning of the kit's print) for this seat.
import Derived.Test.YtpjbniihdndlmabQx0
import Derived.Test.YtpjbniihdndlmabQx1
import Derived.Test.YtpjbniihdndlmabQx5
import Derived.Test.YtpjbniihdndlmabQx7
namespace Go.Proofs.Ytpjbniihdndlmab.Q
open Go.RowKit Go.Proofs.YtpjbniihdndlmabW.PrintWords Go.Proofs.YtpjbniihdndlmabW.PrintLast Go.Proofs.YtpjbniihdndlmabW.PrintMore
open Go.Proofs.Ytpjbniihdndlmab.H
attribute [local go_sem] hq_add64 hq_sub64 hq_not64 add64c_nn sub64c_nn sub64c_le
attribute [local go_sem] max2_int min2_int max_two min_two max_three min_three max_four min_four   -- for this text's walks alone
set_option linter.unusedVariables false
set_option linter.unusedSimpArgs false

attribute [local go_sem high] eqA24
/-! ### grid_rung: function 67 -/
def grid_rung.f (a0 : Int) : Option (Int) := some (mn (mx a0 0) 28)
set_option maxHeartbeats 8000000 in
set_option maxRecDepth 100000 in
theorem grid_rung.calls (a0 : Int) (r : Int) (w : World) (h : grid_rung.f a0 = some r) :
  Calls Try.prog 67 #[.int .i64 a0] w fun e w' => e = .returned (.int .i64 r) ∧ Below w.heap.size w w' := by
 have HB := Aside0.mk (Below.refl w.heap.size w); have H : (some (mn (mx a0 0) 28)) = some r := h; clear h; obtain ⟨ji2, hji2⟩ : ∃ j_ : Int, (mx a0 0) = j_ := ⟨_, rfl⟩
 replace H : (some (mn (ji2) 28)) = some r := by first | (rw [hji2] at H; exact H) | (simp only [hji2] at H ⊢; exact H)
 (try (have hji2l : 0 ≤ ji2 := by (rw [← hji2]; unfold mx; (repeat' split) <;> omega)))
 (try (have hji2m : 0 ≤ ji2 := by omega))
 have hji2_ : (if a0 < 0 then 0 else a0) = ji2 := hji2; obtain ⟨ji3, hji3⟩ : ∃ j_ : Int, (mn (ji2) 28) = j_ := ⟨_, rfl⟩
 replace H : (some ji3) = some r := by first | (rw [hji3] at H; exact H) | (simp only [hji3] at H ⊢; exact H)
 have hji3_ : (if 28 < (ji2) then 28 else (ji2)) = ji3 := hji3; obtain rfl := Option.some.inj H
 go_enter Try.func67, Try.ntmps67
 go_wp2
 go_ret
 exact ⟨by first | rfl | (simp [errW_none, errW_some] <;> rfl) | (simp only [← hji2, ← hji3]; first | rfl | (simp [errW_none, errW_some] <;> rfl)) | (simp [*, errW_none, errW_some] <;> rfl), ky HB⟩

/-! ### grid_Snap: function 32 -/
def grid_Snap.f (a0 : Int) (a1 : Int) : Option (Int) := (grid_rung.f a1).bind fun t760 => (if t760 = 0 then (some a0) else (if 0 ≤ t760 then (if 0 ≤ (wrap64 (t760 - 1)) then (some (wrap64 ((shr .i64 a0 t760) + (Go.bits .and .i64 (shr .i64 a0 (wrap64 (t760 - 1))) 1)))) else (none)) else (none)))
set_option maxHeartbeats 8000000 in
set_option maxRecDepth 100000 in
theorem grid_Snap.calls (a0 : Int) (a1 : Int) (r : Int) (w : World) (h : grid_Snap.f a0 a1 = some r) :
  Calls Try.prog 32 #[.int .i64 a0, .int .i64 a1] w fun e w' => e = .returned (.int .i64 r) ∧ Below w.heap.size w w' := by
 have HB := Aside0.mk (Below.refl w.heap.size w); have H : ((grid_rung.f a1).bind fun t760 => (if t760 = 0 then (some a0) else (if 0 ≤ t760 then (if 0 ≤ (wrap64 (t760 - 1)) then (some (wrap64 ((shr .i64 a0 t760) + (Go.bits .and .i64 (shr .i64 a0 (wrap64 (t760 - 1))) 1)))) else (none)) else (none)))) = some r := h; clear h; replace H := Option.bind_eq_some_iff.mp H; obtain ⟨t760, A30, H⟩ := H; (try dsimp only at H); have A3 := Aside0.mk A30; clear A30
 by_cases c4 : t760 = 0
 ·rw [if_pos c4] at H
  have c4b0 : (t760 == 0) = true := beq_iff_eq.mpr c4; have c4b1 : (t760 != 0) = false := bne_eq_false_iff_eq.mpr c4; clear c4; obtain rfl := Option.some.inj H
  go_enter Try.func32, Try.ntmps32
  go_wp2_with (first | (go_at_call 67; (with_reducible refine (grid_rung.calls a1 t760 _ A3.out).mono ?_); rintro e w5 ⟨rfl, hb⟩; replace HB := kB HB hb; (try clear hb); (try clear hb2); (try clear hk); (try clear hi)))
  repeat (go_quiet (first | (go_at_call 67; (with_reducible refine (grid_rung.calls a1 t760 _ A3.out).mono ?_); rintro e w5 ⟨rfl, hb⟩; replace HB := kB HB hb; (try clear hb); (try clear hb2); (try clear hk); (try clear hi))); try go_wp2_with (first | (go_at_call 67; (with_reducible refine (grid_rung.calls a1 t760 _ A3.out).mono ?_); rintro e w5 ⟨rfl, hb⟩; replace HB := kB HB hb; (try clear hb); (try clear hb2); (try clear hk); (try clear hi))))
  go_ret
  exact ⟨by first | rfl | (simp [errW_none, errW_some] <;> rfl) | (simp [*, errW_none, errW_some] <;> rfl), ky HB⟩
 rw [if_neg c4] at H
 have c4b0 : (t760 == 0) = false := beq_eq_false_iff_ne.mpr c4; have c4b1 : (t760 != 0) = true := bne_iff_ne.mpr c4
 by_cases c6 : 0 ≤ t760
 rotate_left
 ·rw [if_neg c6] at H
  exact absurd H (by simp)

 rw [if_pos c6] at H
 have c6b0 := eq_true c6; have c6b1 : decide (0 ≤ t760) = true := decide_eq_true c6; clear c6; obtain ⟨ji7, hji7⟩ : ∃ j_ : Int, (shr .i64 a0 t760) = j_ := ⟨_, rfl⟩
 replace H : (if 0 ≤ (wrap64 (t760 - 1)) then (some (wrap64 ((ji7) + (Go.bits .and .i64 (shr .i64 a0 (wrap64 (t760 - 1))) 1)))) else (none)) = some r := by first | (rw [hji7] at H; exact H) | (simp only [hji7] at H ⊢; exact H)
 (try rw [hji7] at A3)
 have hji7_ : (a0 / 2 ^ min t760.toNat 64) = ji7 := hji7; have hji7z : t760 ≤ 64 → (a0 / 2 ^ t760.toNat) = ji7 := shr_small hji7; obtain ⟨ji8, hji8⟩ : ∃ j_ : Int, (wrap64 (t760 - 1)) = j_ := ⟨_, rfl⟩
 replace H : (if 0 ≤ (ji8) then (some (wrap64 ((ji7) + (Go.bits .and .i64 (shr .i64 a0 (ji8)) 1)))) else (none)) = some r := by first | (rw [hji8] at H; exact H) | (simp only [hji8] at H ⊢; exact H)
 (try rw [hji8] at A3)
 have hji8w : (IntKind.i64.wrap (t760 - 1)) = ji8 := (i64_w _).trans hji8
 by_cases c9 : 0 ≤ (ji8)
 rotate_left
 ·rw [if_neg c9] at H
  exact absurd H (by simp)
 rw [if_pos c9] at H
 have c9b0 := eq_true c9; have c9b1 : decide (0 ≤ (ji8)) = true := decide_eq_true c9; clear c9; obtain ⟨ji10, hji10⟩ : ∃ j_ : Int, (shr .i64 a0 (ji8)) = j_ := ⟨_, rfl⟩
 replace H : (some (wrap64 ((ji7) + (Go.bits .and .i64 (ji10) 1)))) = some r := by first | (rw [hji10] at H; exact H) | (simp only [hji10] at H ⊢; exact H)
 (try rw [hji10] at A3)
 have hji10_ : (a0 / 2 ^ min (ji8).toNat 64) = ji10 := hji10; have hji10z : (ji8) ≤ 64 → (a0 / 2 ^ (ji8).toNat) = ji10 := shr_small hji10; obtain rfl := Option.some.inj H
 go_enter Try.func32, Try.ntmps32
 go_wp2_with (first | (go_at_call 67; (with_reducible refine (grid_rung.calls a1 t760 _ A3.out).mono ?_); rintro e w11 ⟨rfl, hb⟩; replace HB := kB HB hb; (try clear hb); (try clear hb2); (try clear hk); (try clear hi)))
 repeat (go_quiet (first | (go_at_call 67; (with_reducible refine (grid_rung.calls a1 t760 _ A3.out).mono ?_); rintro e w11 ⟨rfl, hb⟩; replace HB := kB HB hb; (try clear hb); (try clear hb2); (try clear hk); (try clear hi))); try go_wp2_with (first | (go_at_call 67; (with_reducible refine (grid_rung.calls a1 t760 _ A3.out).mono ?_); rintro e w11 ⟨rfl, hb⟩; replace HB := kB HB hb; (try clear hb); (try clear hb2); (try clear hk); (try clear hi))))
 go_ret
 exact ⟨by first | rfl | (simp [errW_none, errW_some] <;> rfl) | (simp only [← hji7, ← hji8, ← hji10]; first | rfl | (simp [errW_none, errW_some] <;> rfl)) | (simp [*, errW_none, errW_some] <;> rfl), ky HB⟩
/-! ### grid_Right: function 35 -/
def grid_Right.f (a0 : Int) : Option (Bool) := if a0 ≥ 0 then (some (decide (a0 ≤ 28))) else (some false)
set_option maxHeartbeats 8000000 in
set_option maxRecDepth 100000 in
theorem grid_Right.calls (a0 : Int) (r : Bool) (w : World) (h : grid_Right.f a0 = some r) :
  Calls Try.prog 35 #[.int .i64 a0] w fun e w' => e = .returned (.bool r) ∧ Drawn0 w w' := by
 have H : (if a0 ≥ 0 then (some (decide (a0 ≤ 28))) else (some false)) = some r := h; clear h
 by_cases c2 : a0 ≥ 0
 ·rw [if_pos c2] at H
  have c2b0 : decide (0 ≤ a0) = true := decide_eq_true c2; clear c2; obtain rfl := Option.some.inj H
  go_enter Try.func35, Try.ntmps35
  go_wp2
  go_ret
  exact ⟨by first | rfl | (simp; done) | (simp [*]; done), by repeat (first | exact Drawn0.refl _ | apply Drawn0.step)⟩
 rw [if_neg c2] at H
 have c2b0 : decide (0 ≤ a0) = false := decide_eq_false c2; clear c2; obtain rfl := Option.some.inj H
 go_enter Try.func35, Try.ntmps35
 go_wp2
 go_ret
 exact ⟨by first | rfl | (simp; done) | (simp [*]; done), by repeat (first | exact Drawn0.refl _ | apply Drawn0.step)⟩

/-! ### grid_Of: function 37 -/
def grid_Of.f (a0_0 : Int) (a0_1 : Int) (a1 : Int) : Option (Int × Int) := (grid_Snap.f a0_0 a1).bind fun t778 => ((grid_Snap.f a0_1 a1).bind fun t779 => (some (t778, t779)))
def grid_Of.T1 : Bool × List (List Nat × List Nat) := (true, [([], []), ([0], [0]), ([], []), ([1, 2], [1, 2]), ([], []), ([4], [4]), ([], []), ([5, 6, 3], [5, 6]), ([3, 7], [3, 7]), ([8, 7, 0, 1, 2, 3, 4, 5, 6, 7, 8], [8])])
def grid_Of.B1 : List Nat := [0, 1, 0, 7, 0, 16, 0, 127, 255, 511]
theorem grid_Of.tab1 : rtab .any (opsOf Try.f37 1) = grid_Of.T1 := by kernel_rfl
theorem grid_Of.bits1 : waitsOk grid_Of.T1.2 grid_Of.B1 = true := by kernel_rfl
set_option maxHeartbeats 8000000 in
set_option maxRecDepth 100000 in
theorem grid_Of.calls (a0_0 : Int) (a0_1 : Int) (a1 : Int) (r1 : Int) (r2 : Int) (w : World) (h : grid_Of.f a0_0 a0_1 a1 = some (r1, r2)) :
  Calls Try.prog 37 #[.agg #[.int .i64 a0_0, .int .i64 a0_1], .int .i64 a1] w fun e w' => e = .returned (.agg #[.int .i64 r1, .int .i64 r2]) ∧ Below w.heap.size w w' := by
 have hu62 := Try.underlying62; have hu60 := Try.underlying60; have HB := Aside0.mk (Below.refl w.heap.size w); have H : ((grid_Snap.f a0_0 a1).bind fun t778 => ((grid_Snap.f a0_1 a1).bind fun t779 => (some (t778, t779)))) = some (r1, r2) := h; clear h; replace H := Option.bind_eq_some_iff.mp H; obtain ⟨t778, A30, H⟩ := H; (try dsimp only at H); have A3 := Aside0.mk A30; clear A30; replace H := Option.bind_eq_some_iff.mp H; obtain ⟨t779, A40, H⟩ := H; (try dsimp only at H); have A4 := Aside0.mk A40; clear A40
 simp only [Option.some.injEq, Prod.mk.injEq] at H
 obtain ⟨rfl, rfl⟩ := H
 go_enter Try.func37, Try.ntmps37
 try go_wp2_with (first | ((with_reducible refine gate_dst (N := 2) rfl ?_); refine box_event ?hg (N := 2) ?hd (cs := #[.int .i64 a0_0, .int .i64 a0_1]) (t := 62) ?hr ?_; (case hd => rfl); (case hg => rfl); (case hr => first | (go_simp; done) | (go_simp; rfl)); intro gb776 hg w5 hbox hb; have BK776 := Aside0.mk (hbox); have GW776 := kS HB hg; have GE776 := kS HB hg; replace HB := kB HB hb; clear hb hbox hg) | ((with_reducible refine gate_dst (N := 4) rfl ?_); refine box_event ?hg (N := 4) ?hd (cs := #[.int .i64 0, .int .i64 0]) (t := 60) ?hr ?_; (case hd => rfl); (case hg => rfl); (case hr => first | (go_simp; done) | (go_simp; rfl)); intro gb777 hg w6 hbox hb; have BK777 := Aside0.mk (hbox); have GW777 := kS HB hg; have GE777 := kS HB hg; have NB776_777 := kN BK776 hg; have NB777_776 := kM BK776 hg; replace BK776 := kb BK776 hb; replace HB := kB HB hb; clear hb hbox hg))
 replace BK776 := Aside0.mk (blk_drew BK776.out); replace BK777 := Aside0.mk (blk_drew BK777.out); replace HB := Aside0.mk (below_drew1 HB.out); refine start_ (n := 10) (S := fun w' => w'.cell? ⟨gb776, 0, none⟩ = some (.int .i64 a0_0) ∧ w'.cell? ⟨gb776, 1, none⟩ = some (.int .i64 a0_1)) (ds := []) #[O, O, O, O, O, O, O, O, O, O] (by kernel_rfl) rfl rfl ⟨kc BK776 0, kc BK776 1⟩ (fun hHeld => ?_); refine with_tabW grid_Of.tab1 grid_Of.bits1 (fun HT_ HW_ => ?_)
 generalize w6.drew = w7 at BK776 BK777 HB hHeld ⊢
 refine pure_ (i := 0) (N := some 5) (v := ?_) (a' := ?_) #[T, O, O, O, O, O, O, O, O, O] rfl rfl (any_of HT_.out (by kernel_rfl)) (fun _ _ _ h => h) (Or.inl ⟨by rfl, ?_⟩) ?_ ?_; rotate_left; focus (intro w'; go_simp; with_reducible rfl)
 rotate_left; focus (simp only [Act.put, s1, s2, s3, i64_w, i32_w]; rfl)
 refine pure_ (i := 2) (N := some 7) (v := ?_) (a' := ?_) #[T, O, T, O, O, O, O, O, O, O] rfl rfl (any_of HT_.out (by kernel_rfl)) (fun _ _ _ h => h) (Or.inl ⟨by rfl, ?_⟩) ?_ ?_; rotate_left; focus (intro w'; go_simp; with_reducible rfl)
 rotate_left; focus (simp only [Act.put, s1, s2, s3, i64_w, i32_w]; rfl)
 refine pure_ (i := 4) (N := some 9) (v := ?_) (a' := ?_) #[T, O, T, O, T, O, O, O, O, O] rfl rfl (any_of HT_.out (by kernel_rfl)) (fun _ _ _ h => h) (Or.inl ⟨by rfl, ?_⟩) ?_ ?_; rotate_left; focus (intro w'; go_simp; with_reducible rfl)
 rotate_left; focus (simp only [Act.put, s1, s2, s3, i64_w, i32_w]; rfl)
 refine pure_ (i := 6) (N := some 11) (v := ?_) (a' := ?_) #[T, O, T, O, T, O, T, O, O, O] rfl rfl (any_of HT_.out (by kernel_rfl)) (fun _ _ _ h => h) (Or.inl ⟨by rfl, ?_⟩) ?_ ?_; rotate_left; focus (intro w'; go_simp; with_reducible rfl)
 rotate_left; focus (simp only [Act.put, s1, s2, s3, i64_w, i32_w]; rfl)
 refine take_ (i := 1) (N := some 6) (v := ?_) (a' := ?_) #[T, T, T, O, T, O, T, O, O, O] rfl rfl (take_ofW HT_.out HW_.out (by kernel_rfl)) (fun _ _ _ h => h) (Or.inl ⟨by rfl, ?_⟩) hHeld ?_ ?_; rotate_left; focus (rintro w' ⟨s0, s1⟩; go_simp; with_reducible rfl)
 rotate_left; focus (simp only [Act.put, s1, s2, s3, i64_w, i32_w]; rfl)
 refine take_ (i := 5) (N := some 10) (v := ?_) (a' := ?_) #[T, T, T, O, T, T, T, O, O, O] rfl rfl (take_ofW HT_.out HW_.out (by kernel_rfl)) (fun _ _ _ h => h) (Or.inl ⟨by rfl, ?_⟩) hHeld ?_ ?_; rotate_left; focus (rintro w' ⟨s0, s1⟩; go_simp; with_reducible rfl)
 rotate_left; focus (simp only [Act.put, s1, s2, s3, i64_w, i32_w]; rfl)
 refine one_ (i := 3) (N := some 8) #[T, T, T, T, T, T, T, O, O, O] rfl rfl (one_of HT_.out (by kernel_rfl)) (by decide) (fun K hK => ?_); refine gS Try.func32 #[.int .i64 a0_0, .int .i64 a1] ?_
 with_reducible refine (grid_Snap.calls a0_0 a1 t778 _ A3.out).mono ?_
 rintro e w8 ⟨rfl, hb⟩; refine ⟨_, rfl, ?_⟩; replace BK776 := kb BK776 hb; replace BK777 := kb BK777 hb; replace HB := kB HB hb
 (try clear hb); (try clear hb2); (try clear hk); (try clear hi)
 refine hK.out _ _ ⟨kc BK776 0, kc BK776 1⟩ (fun hHeld => ?_); clear hK K
 refine norm_ (a' := ?_) ?_ ?_; rotate_left; focus (show Act.put _ (some 8) _ = _; simp only [Act.put, s1, s2, s3, i64_w, i32_w]; rfl)
 refine one_ (i := 7) (N := some 12) #[T, T, T, T, T, T, T, T, O, O] rfl rfl (one_of HT_.out (by kernel_rfl)) (by decide) (fun K hK => ?_); refine gS Try.func32 #[.int .i64 a0_1, .int .i64 a1] ?_
 with_reducible refine (grid_Snap.calls a0_1 a1 t779 _ A4.out).mono ?_
 rintro e w9 ⟨rfl, hb⟩; refine ⟨_, rfl, ?_⟩; replace BK776 := kb BK776 hb; replace BK777 := kb BK777 hb; replace HB := kB HB hb
 (try clear hb); (try clear hb2); (try clear hk); (try clear hi)
 refine hK.out _ _ ⟨kc BK776 0, kc BK776 1⟩ (fun hHeld => ?_); clear hK K
 refine norm_ (a' := ?_) ?_ ?_; rotate_left; focus (show Act.put _ (some 12) _ = _; simp only [Act.put, s1, s2, s3, i64_w, i32_w]; rfl)
 refine pure_ (i := 8) (N := some 13) (v := ?_) (a' := ?_) #[T, T, T, T, T, T, T, T, T, O] rfl rfl (any_of HT_.out (by kernel_rfl)) (fun _ _ _ h => h) (Or.inl ⟨by rfl, ?_⟩) ?_ ?_; rotate_left; focus (intro w'; go_simp; with_reducible rfl)
 rotate_left; focus (simp only [Act.put, s1, s2, s3, i64_w, i32_w]; rfl)
 refine one_ (i := 9) (N := none) #[T, T, T, T, T, T, T, T, T, T] rfl rfl (one_of HT_.out (by kernel_rfl)) (by decide) (fun K hK => ?_); have hs10 : w9.cell? ⟨gb777, 0, none⟩ = some (.int .i64 0) := kc BK777 0; have hfs10 := blk_frozen BK777.out 0; have hns10_0 := NB776_777.out; have hms10_0 := NB777_776.out; have hs11 : w9.cell? ⟨gb777, 1, none⟩ = some (.int .i64 0) := kc BK777 1; have hfs11 := blk_frozen BK777.out 1; have hns11_0 := NB776_777.out; have hms11_0 := NB777_776.out; refine skip_ (w1 := ?_) (by rfl) rfl ?_ ?_; rotate_left
 ·go_simp
  rfl
 refine hK.out _ _ ⟨((cell_far (p := ⟨gb777, _, none⟩) NB776_777.out _).trans (((cell_far (p := ⟨gb777, _, none⟩) NB776_777.out _).trans (hHeld.1)))), ((cell_far (p := ⟨gb777, _, none⟩) NB776_777.out _).trans (((cell_far (p := ⟨gb777, _, none⟩) NB776_777.out _).trans (hHeld.2))))⟩ (fun hHeld => ?_); clear hK K; refine done_ (done_of HT_.out (by kernel_rfl)) ?_
 try go_wp2
 refine bodyPost_ret (results_cell_row rfl _ _ gb777 60 #[.int .i64 t778, .int .i64 t779] (0, 0) _ rfl (by (with_reducible repeat (first | refine zr ?_ _ | refine zw ?_ | refine za ?_ _)); refine blk_put (cs := #[.int .i64 t778, .int .i64 0]) ?_ 1 _ rfl; (with_reducible repeat (first | refine zr ?_ _ | refine zw ?_ | refine za ?_ _)); refine blk_put (cs := #[.int .i64 0, .int .i64 0]) ?_ 0 _ rfl; (with_reducible repeat (first | refine zr ?_ _ | refine zw ?_ | refine za ?_ _)); exact BK777.out) Try.underlying60 rfl (by kernel_rfl)) rfl ?_; exact ⟨by first | rfl | (simp [errW_none, errW_some] <;> rfl) | (simp [*, errW_none, errW_some] <;> rfl), ky HB⟩

/-! ### grid_In: function 44, by hand -/
def grid_In.f (a0_0 : Int) (a0_1 : Int) (a1 : Int) : Option (Bool) := some (nearN a0_0 a1 && nearN a0_1 a1)
theorem grid_In.calls (a0_0 : Int) (a0_1 : Int) (a1 : Int) (r : Bool) (w : World) (h : grid_In.f a0_0 a0_1 a1 = some r) :
    Calls Try.prog 44 #[.agg #[.int .i64 a0_0, .int .i64 a0_1], .int .i64 a1] w fun e w' => e = .returned (.bool r) ∧ Below w.heap.size w w' := by
  obtain rfl := Option.some.inj h
  exact grid_In_calls a0_0 a0_1 a1 w


/-! ### wide_Small: function 83 -/
def wide_Small.f (a0_0 : Int) (a0_1 : Int) : Option (Int × Bool) := (wide_Of.f (wrap64 (a0_1))).bind fun bt781 => (if (!(bt781.1 == a0_0) || (!(bt781.2 == a0_1))) = true then (some (0, false)) else (some (wrap64 (a0_1), true)))
set_option maxHeartbeats 8000000 in
set_option maxRecDepth 100000 in
theorem wide_Small.calls (a0_0 : Int) (a0_1 : Int) (r1 : Int) (r2 : Bool) (w : World) (h : wide_Small.f a0_0 a0_1 = some (r1, r2)) :
  Calls Try.prog 83 #[.agg #[.int .i64 a0_0, .int .u64 a0_1]] w fun e w' => e = .returned (.tuple #[.int .i64 r1, .bool r2]) ∧ Below w.heap.size w w' := by
 have hu24 := Try.underlying24; have HB := Aside0.mk (Below.refl w.heap.size w); have H : ((wide_Of.f (wrap64 (a0_1))).bind fun bt781 => (if (!(bt781.1 == a0_0) || (!(bt781.2 == a0_1))) = true then (some (0, false)) else (some (wrap64 (a0_1), true)))) = some (r1, r2) := h; clear h; replace H := Option.bind_eq_some_iff.mp H; obtain ⟨⟨t781, t782⟩, A20, H⟩ := H; (try dsimp only at H); have A2 := Aside0.mk A20; clear A20
 by_cases c3 : (!(t781 == a0_0) || (!(t782 == a0_1))) = true
 ·rw [if_pos c3] at H
  have c3b0 : (!(t781 == a0_0) || (!(t782 == a0_1))) = true := c3; clear c3
  simp only [Option.some.injEq, Prod.mk.injEq] at H
  obtain ⟨rfl, rfl⟩ := H
  go_enter Try.func83, Try.ntmps83
  try go_wp2_with (first | ((with_reducible refine gate_dst (N := 1) rfl ?_); refine box_event ?hg (N := 1) ?hd (cs := #[.int .i64 a0_0, .int .u64 a0_1]) (t := 24) ?hr ?_; (case hd => rfl); (case hg => rfl); (case hr => first | (go_simp; done) | (go_simp; rfl)); intro gb780 hg w4 hbox hb; have BK780 := Aside0.mk (hbox); have GW780 := kS HB hg; have GE780 := kS HB hg; replace HB := kB HB hb; clear hb hbox hg; have hcz5_0 : w4.cell? ⟨gb780, 0, none⟩ = some (.int .i64 a0_0) := kc BK780 0; have hcz5_1 : w4.cell? ⟨gb780, 1, none⟩ = some (.int .u64 a0_1) := kc BK780 1; have hfz5_0 := blk_frozen BK780.out 0; have hfz5_1 := blk_frozen BK780.out 1))
  replace BK780 := Aside0.mk (blk_drew BK780.out); replace HB := Aside0.mk (below_drew1 HB.out); refine start_ (n := 4) (S := fun w' => w'.cell? ⟨gb780, 0, none⟩ = some (.int .i64 a0_0) ∧ w'.cell? ⟨gb780, 1, none⟩ = some (.int .u64 a0_1)) (ds := []) #[O, O, O, O] (by kernel_rfl) rfl rfl ⟨kc BK780 0, kc BK780 1⟩ (fun hHeld => ?_)
  generalize w4.drew = w6 at BK780 HB hHeld ⊢
  refine pure_ (i := 0) (N := some 8) (v := ?_) (a' := ?_) #[T, O, O, O] rfl rfl (by kernel_rfl) (fun _ _ _ h => h) (Or.inl ⟨by rfl, ?_⟩) ?_ ?_; rotate_left; focus (intro w'; go_simp; with_reducible rfl)
  rotate_left; focus (simp only [Act.put, s1, s2, s3, i64_w, i32_w]; rfl)
  refine take_ (i := 2) (N := some 10) (v := ?_) (a' := ?_) #[T, O, T, O] rfl rfl (by kernel_rfl) (fun _ _ _ h => h) (Or.inl ⟨by rfl, ?_⟩) hHeld ?_ ?_; rotate_left; focus (rintro w' ⟨s0, s1⟩; go_simp; with_reducible rfl)
  rotate_left; focus (simp only [Act.put, s1, s2, s3, i64_w, i32_w]; rfl)
  refine one_ (i := 1) (N := some 9) #[T, T, T, O] rfl rfl (by kernel_rfl) (by decide) (fun K hK => ?_); refine gS Try.func24 #[.int .i64 (wrap64 (a0_1))] ?_
  with_reducible refine (wide_Of.calls (wrap64 (a0_1)) t781 t782 _ A2.out).mono ?_
  rintro e w7 ⟨rfl, hb⟩; refine ⟨_, rfl, ?_⟩; replace BK780 := kb BK780 hb; replace HB := kB HB hb
  (try clear hb); (try clear hb2); (try clear hk); (try clear hi)
  refine hK.out _ _ ⟨kc BK780 0, kc BK780 1⟩ (fun hHeld => ?_); clear hK K
  refine norm_ (a' := ?_) ?_ ?_; rotate_left; focus (show Act.put _ (some 9) _ = _; simp only [Act.put, s1, s2, s3, i64_w, i32_w]; rfl)
  refine pure_ (i := 3) (N := some 11) (v := ?_) (a' := ?_) #[T, T, T, T] rfl rfl (by kernel_rfl) (fun _ _ _ h => h) (Or.inl ⟨by rfl, ?_⟩) ?_ ?_; rotate_left; focus (intro w'; go_simp; with_reducible rfl)
  rotate_left; focus (simp only [Act.put, s1, s2, s3, i64_w, i32_w]; rfl)
  refine done_ (by kernel_rfl) ?_
  try go_wp2
  go_ret2
  exact ⟨by first | rfl | (simp [errW_none, errW_some] <;> rfl) | (simp [*, errW_none, errW_some] <;> rfl), ky HB⟩
 rw [if_neg c3] at H
 have c3b0 : (!(t781 == a0_0) || (!(t782 == a0_1))) = false := by simpa using c3
 clear c3
 simp only [Option.some.injEq, Prod.mk.injEq] at H
 obtain ⟨rfl, rfl⟩ := H
 go_enter Try.func83, Try.ntmps83
 try go_wp2_with (first | ((with_reducible refine gate_dst (N := 1) rfl ?_); refine box_event ?hg (N := 1) ?hd (cs := #[.int .i64 a0_0, .int .u64 a0_1]) (t := 24) ?hr ?_; (case hd => rfl); (case hg => rfl); (case hr => first | (go_simp; done) | (go_simp; rfl)); intro gb780 hg w8 hbox hb; have BK780 := Aside0.mk (hbox); have GW780 := kS HB hg; have GE780 := kS HB hg; replace HB := kB HB hb; clear hb hbox hg; have hcz9_0 : w8.cell? ⟨gb780, 0, none⟩ = some (.int .i64 a0_0) := kc BK780 0; have hcz9_1 : w8.cell? ⟨gb780, 1, none⟩ = some (.int .u64 a0_1) := kc BK780 1; have hfz9_0 := blk_frozen BK780.out 0; have hfz9_1 := blk_frozen BK780.out 1))
 replace BK780 := Aside0.mk (blk_drew BK780.out); replace HB := Aside0.mk (below_drew1 HB.out); refine start_ (n := 4) (S := fun w' => w'.cell? ⟨gb780, 0, none⟩ = some (.int .i64 a0_0) ∧ w'.cell? ⟨gb780, 1, none⟩ = some (.int .u64 a0_1)) (ds := []) #[O, O, O, O] (by kernel_rfl) rfl rfl ⟨kc BK780 0, kc BK780 1⟩ (fun hHeld => ?_)
 generalize w8.drew = w10 at BK780 HB hHeld ⊢
 refine pure_ (i := 0) (N := some 8) (v := ?_) (a' := ?_) #[T, O, O, O] rfl rfl (by kernel_rfl) (fun _ _ _ h => h) (Or.inl ⟨by rfl, ?_⟩) ?_ ?_; rotate_left; focus (intro w'; go_simp; with_reducible rfl)
 rotate_left; focus (simp only [Act.put, s1, s2, s3, i64_w, i32_w]; rfl)
 refine take_ (i := 2) (N := some 10) (v := ?_) (a' := ?_) #[T, O, T, O] rfl rfl (by kernel_rfl) (fun _ _ _ h => h) (Or.inl ⟨by rfl, ?_⟩) hHeld ?_ ?_; rotate_left; focus (rintro w' ⟨s0, s1⟩; go_simp; with_reducible rfl)
 rotate_left; focus (simp only [Act.put, s1, s2, s3, i64_w, i32_w]; rfl)
 refine one_ (i := 1) (N := some 9) #[T, T, T, O] rfl rfl (by kernel_rfl) (by decide) (fun K hK => ?_); refine gS Try.func24 #[.int .i64 (wrap64 (a0_1))] ?_
 with_reducible refine (wide_Of.calls (wrap64 (a0_1)) t781 t782 _ A2.out).mono ?_
 rintro e w11 ⟨rfl, hb⟩; refine ⟨_, rfl, ?_⟩; replace BK780 := kb BK780 hb; replace HB := kB HB hb
 (try clear hb); (try clear hb2); (try clear hk); (try clear hi)
 refine hK.out _ _ ⟨kc BK780 0, kc BK780 1⟩ (fun hHeld => ?_); clear hK K
 refine norm_ (a' := ?_) ?_ ?_; rotate_left; focus (show Act.put _ (some 9) _ = _; simp only [Act.put, s1, s2, s3, i64_w, i32_w]; rfl)
 refine pure_ (i := 3) (N := some 11) (v := ?_) (a' := ?_) #[T, T, T, T] rfl rfl (by kernel_rfl) (fun _ _ _ h => h) (Or.inl ⟨by rfl, ?_⟩) ?_ ?_; rotate_left; focus (intro w'; go_simp; with_reducible rfl)
 rotate_left; focus (simp only [Act.put, s1, s2, s3, i64_w, i32_w]; rfl)
 refine done_ (by kernel_rfl) ?_
 try go_wp2
 go_ret2
 exact ⟨by first | rfl | (simp [errW_none, errW_some] <;> rfl) | (simp [*, errW_none, errW_some] <;> rfl), ky HB⟩

/-! ### grid_small: function 68 -/
def grid_small.f (a0_0 : Int) (a0_1 : Int) : Option (Int) := (wide_Small.f a0_0 a0_1).bind fun bt784 => (if bt784.2 = true then (if bt784.1 < (-134217728) then (some 134217729) else (if bt784.1 > 134217728 then (some 134217729) else (some bt784.1))) else (some 134217729))
set_option maxHeartbeats 8000000 in
set_option maxRecDepth 100000 in
theorem grid_small.calls (a0_0 : Int) (a0_1 : Int) (r : Int) (w : World) (h : grid_small.f a0_0 a0_1 = some r) :
  Calls Try.prog 68 #[.agg #[.int .i64 a0_0, .int .u64 a0_1]] w fun e w' => e = .returned (.int .i64 r) ∧ Below w.heap.size w w' := by
 have hu24 := Try.underlying24; have HB := Aside0.mk (Below.refl w.heap.size w); have H : ((wide_Small.f a0_0 a0_1).bind fun bt784 => (if bt784.2 = true then (if bt784.1 < (-134217728) then (some 134217729) else (if bt784.1 > 134217728 then (some 134217729) else (some bt784.1))) else (some 134217729))) = some r := h; clear h; replace H := Option.bind_eq_some_iff.mp H; obtain ⟨⟨t784, t785⟩, A20, H⟩ := H; (try dsimp only at H); have A2 := Aside0.mk A20; clear A20
 by_cases c3 : t785 = true
 rotate_left
 ·replace c3 := Bool.eq_false_iff.mpr c3; subst c3
  rw [if_neg (show ¬ (false = true) by decide)] at H; obtain rfl := Option.some.inj H
  go_enter Try.func68, Try.ntmps68
  go_wp2_with (first | ((with_reducible refine gate_dst (N := 1) rfl ?_); refine box_event ?hg (N := 1) ?hd (cs := #[.int .i64 a0_0, .int .u64 a0_1]) (t := 24) ?hr ?_; (case hd => rfl); (case hg => rfl); (case hr => first | (go_simp; done) | (go_simp; rfl)); intro gb783 hg w15 hbox hb; have BK783 := Aside0.mk (hbox); have GW783 := kS HB hg; have GE783 := kS HB hg; replace HB := kB HB hb; clear hb hbox hg; have hcz16_0 : w15.cell? ⟨gb783, 0, none⟩ = some (.int .i64 a0_0) := kc BK783 0; have hcz16_1 : w15.cell? ⟨gb783, 1, none⟩ = some (.int .u64 a0_1) := kc BK783 1; have hfz16_0 := blk_frozen BK783.out 0; have hfz16_1 := blk_frozen BK783.out 1) | ((with_reducible refine gate_callee (f := 83) rfl ?_); refine gL 7 Try.func83 #[.agg #[.int .i64 a0_0, .int .u64 a0_1]] ?_; (with_reducible refine (wide_Small.calls a0_0 a0_1 t784 false _ A2.out).mono ?_); rintro e w17 ⟨rfl, hb⟩; refine ⟨_, rfl, ?_⟩; replace BK783 := kb BK783 hb; replace HB := kB HB hb; (try clear hb); (try clear hb2); (try clear hk); (try clear hi)))
  go_ret
  exact ⟨by first | rfl | (simp [errW_none, errW_some] <;> rfl) | (simp [*, errW_none, errW_some] <;> rfl), ky HB⟩

 subst c3
 rw [if_pos rfl] at H
 by_cases c4 : t784 < (-134217728)
 ·rw [if_pos c4] at H
  have c4b0 : decide (t784 < (-134217728)) = true := decide_eq_true c4; clear c4; obtain rfl := Option.some.inj H
  go_enter Try.func68, Try.ntmps68
  go_wp2_with (first | ((with_reducible refine gate_dst (N := 1) rfl ?_); refine box_event ?hg (N := 1) ?hd (cs := #[.int .i64 a0_0, .int .u64 a0_1]) (t := 24) ?hr ?_; (case hd => rfl); (case hg => rfl); (case hr => first | (go_simp; done) | (go_simp; rfl)); intro gb783 hg w5 hbox hb; have BK783 := Aside0.mk (hbox); have GW783 := kS HB hg; have GE783 := kS HB hg; replace HB := kB HB hb; clear hb hbox hg; have hcz6_0 : w5.cell? ⟨gb783, 0, none⟩ = some (.int .i64 a0_0) := kc BK783 0; have hcz6_1 : w5.cell? ⟨gb783, 1, none⟩ = some (.int .u64 a0_1) := kc BK783 1; have hfz6_0 := blk_frozen BK783.out 0; have hfz6_1 := blk_frozen BK783.out 1) | ((with_reducible refine gate_callee (f := 83) rfl ?_); refine gL 7 Try.func83 #[.agg #[.int .i64 a0_0, .int .u64 a0_1]] ?_; (with_reducible refine (wide_Small.calls a0_0 a0_1 t784 true _ A2.out).mono ?_); rintro e w7 ⟨rfl, hb⟩; refine ⟨_, rfl, ?_⟩; replace BK783 := kb BK783 hb; replace HB := kB HB hb; (try clear hb); (try clear hb2); (try clear hk); (try clear hi)))
  go_ret
  exact ⟨by first | rfl | (simp [errW_none, errW_some] <;> rfl) | (simp [*, errW_none, errW_some] <;> rfl), ky HB⟩
 rw [if_neg c4] at H
 have c4b0 : decide (t784 < (-134217728)) = false := decide_eq_false c4; clear c4
 by_cases c8 : t784 > 134217728
 ·rw [if_pos c8] at H
  have c8b0 : decide (134217728 < t784) = true := decide_eq_true c8; clear c8; obtain rfl := Option.some.inj H
  go_enter Try.func68, Try.ntmps68
  go_wp2_with (first | ((with_reducible refine gate_dst (N := 1) rfl ?_); refine box_event ?hg (N := 1) ?hd (cs := #[.int .i64 a0_0, .int .u64 a0_1]) (t := 24) ?hr ?_; (case hd => rfl); (case hg => rfl); (case hr => first | (go_simp; done) | (go_simp; rfl)); intro gb783 hg w9 hbox hb; have BK783 := Aside0.mk (hbox); have GW783 := kS HB hg; have GE783 := kS HB hg; replace HB := kB HB hb; clear hb hbox hg; have hcz10_0 : w9.cell? ⟨gb783, 0, none⟩ = some (.int .i64 a0_0) := kc BK783 0; have hcz10_1 : w9.cell? ⟨gb783, 1, none⟩ = some (.int .u64 a0_1) := kc BK783 1; have hfz10_0 := blk_frozen BK783.out 0; have hfz10_1 := blk_frozen BK783.out 1) | ((with_reducible refine gate_callee (f := 83) rfl ?_); refine gL 7 Try.func83 #[.agg #[.int .i64 a0_0, .int .u64 a0_1]] ?_; (with_reducible refine (wide_Small.calls a0_0 a0_1 t784 true _ A2.out).mono ?_); rintro e w11 ⟨rfl, hb⟩; refine ⟨_, rfl, ?_⟩; replace BK783 := kb BK783 hb; replace HB := kB HB hb; (try clear hb); (try clear hb2); (try clear hk); (try clear hi)))
  go_ret
  exact ⟨by first | rfl | (simp [errW_none, errW_some] <;> rfl) | (simp [*, errW_none, errW_some] <;> rfl), ky HB⟩
 rw [if_neg c8] at H
 have c8b0 : decide (134217728 < t784) = false := decide_eq_false c8; clear c8; obtain rfl := Option.some.inj H
 go_enter Try.func68, Try.ntmps68
 go_wp2_with (first | ((with_reducible refine gate_dst (N := 1) rfl ?_); refine box_event ?hg (N := 1) ?hd (cs := #[.int .i64 a0_0, .int .u64 a0_1]) (t := 24) ?hr ?_; (case hd => rfl); (case hg => rfl); (case hr => first | (go_simp; done) | (go_simp; rfl)); intro gb783 hg w12 hbox hb; have BK783 := Aside0.mk (hbox); have GW783 := kS HB hg; have GE783 := kS HB hg; replace HB := kB HB hb; clear hb hbox hg; have hcz13_0 : w12.cell? ⟨gb783, 0, none⟩ = some (.int .i64 a0_0) := kc BK783 0; have hcz13_1 : w12.cell? ⟨gb783, 1, none⟩ = some (.int .u64 a0_1) := kc BK783 1; have hfz13_0 := blk_frozen BK783.out 0; have hfz13_1 := blk_frozen BK783.out 1) | ((with_reducible refine gate_callee (f := 83) rfl ?_); refine gL 7 Try.func83 #[.agg #[.int .i64 a0_0, .int .u64 a0_1]] ?_; (with_reducible refine (wide_Small.calls a0_0 a0_1 t784 true _ A2.out).mono ?_); rintro e w14 ⟨rfl, hb⟩; refine ⟨_, rfl, ?_⟩; replace BK783 := kb BK783 hb; replace HB := kB HB hb; (try clear hb); (try clear hb2); (try clear hk); (try clear hi)))
 go_ret
 exact ⟨by first | rfl | (simp [errW_none, errW_some] <;> rfl) | (simp [*, errW_none, errW_some] <;> rfl), ky HB⟩
/-! ### grid_At: function 39 -/
def grid_At.j0 : Nat → Bool → Int → Int → Option (Int × Int × Bool)
 | 0, _, _, _ => none
 | k + 1, x43, x801000, x801001 => if x43 = true then (some (0, 0, false)) else (some (x801000, x801001, true))
def grid_At.f (k : Nat) (a0_0 : Int) (a0_1 : Int) (a0_2 : Int) (a0_3 : Int) (a1_0 : Int) (a1_1 : Int) (a1_2 : Int) (a1_3 : Int) (a2 : Int) : Option (Int × Int × Bool) := (grid_rung.f a2).bind fun t789 => ((frac_Snap.f k a0_0 a0_1 a0_2 a0_3 t789).bind fun bt790 => ((frac_Snap.f k a1_0 a1_1 a1_2 a1_3 t789).bind fun bt794 => ((grid_small.f bt790.1 bt790.2.1).bind fun t798 => ((grid_small.f bt794.1 bt794.2.1).bind fun t799 => (if bt790.2.2 = true then (if bt794.2.2 = true then ((grid_In.f t798 t799 t789).bind fun t801 => (grid_At.j0 k (!t801) t798 t799)) else (grid_At.j0 k true t798 t799)) else (grid_At.j0 k true t798 t799))))))
theorem grid_At.mono_l : ∀ k, (∀ y0 y1 y2, LeO (grid_At.j0 k y0 y1 y2) (grid_At.j0 (k + 1) y0 y1 y2))
 | 0 => fun _ _ _ r h => by simp [grid_At.j0] at h
 | k + 1 => by
  have ih0 := grid_At.mono_l k
  ·intro y0 y1 y2
   unfold grid_At.j0
   repeat' first
   | (with_reducible exact ih0 _ _ _)
   | (with_reducible exact frac_Snap.mono _ _ _ _ _ _)
   | (with_reducible exact LeO.refl _)
   | (with_reducible exact LeO.none _)
   | (with_reducible refine LeO.ite ?_ ?_)
   | (with_reducible refine LeO.bind ?_ (fun _ => ?_))
   | exact ih0 _ _ _
   | exact frac_Snap.mono _ _ _ _ _ _
   | exact LeO.none _
   | refine LeO.ite ?_ ?_
   | refine LeO.bind ?_ (fun _ => ?_)
theorem grid_At.mono : ∀ a0 a1 a2 a3 a4 a5 a6 a7 a8 k, LeO (grid_At.f k a0 a1 a2 a3 a4 a5 a6 a7 a8) (grid_At.f (k + 1) a0 a1 a2 a3 a4 a5 a6 a7 a8) := by
 intro a0 a1 a2 a3 a4 a5 a6 a7 a8 k; have ih0 := grid_At.mono_l k
 unfold grid_At.f
 repeat' first
   | (with_reducible exact ih0 _ _ _)
   | (with_reducible exact frac_Snap.mono _ _ _ _ _ _)
   | (with_reducible exact LeO.refl _)
   | (with_reducible exact LeO.none _)
   | (with_reducible refine LeO.ite ?_ ?_)
   | (with_reducible refine LeO.bind ?_ (fun _ => ?_))
   | exact ih0 _ _ _
   | exact frac_Snap.mono _ _ _ _ _ _
   | exact LeO.none _
   | refine LeO.ite ?_ ?_
   | refine LeO.bind ?_ (fun _ => ?_)
set_option maxHeartbeats 8000000 in
set_option maxRecDepth 100000 in
theorem grid_At.calls (k : Nat) (a0_0 : Int) (a0_1 : Int) (a0_2 : Int) (a0_3 : Int) (a1_0 : Int) (a1_1 : Int) (a1_2 : Int) (a1_3 : Int) (a2 : Int) (r1 : Int) (r2 : Int) (r3 : Bool) (w : World) (h : grid_At.f k a0_0 a0_1 a0_2 a0_3 a1_0 a1_1 a1_2 a1_3 a2 = some (r1, r2, r3)) :
  Calls Try.prog 39 #[.agg #[.int .i64 a0_0, .int .u64 a0_1, .int .i64 a0_2, .int .u64 a0_3], .agg #[.int .i64 a1_0, .int .u64 a1_1, .int .i64 a1_2, .int .u64 a1_3], .int .i64 a2] w fun e w' => e = .returned (.tuple #[.agg #[.int .i64 r1, .int .i64 r2], .bool r3]) ∧ Below w.heap.size w w' := by
 have hu26 := Try.underlying26; have hu60 := Try.underlying60; have hu24 := Try.underlying24; have HB := Aside0.mk (Below.refl w.heap.size w); have H : ((grid_rung.f a2).bind fun t789 => ((frac_Snap.f k a0_0 a0_1 a0_2 a0_3 t789).bind fun bt790 => ((frac_Snap.f k a1_0 a1_1 a1_2 a1_3 t789).bind fun bt794 => ((grid_small.f bt790.1 bt790.2.1).bind fun t798 => ((grid_small.f bt794.1 bt794.2.1).bind fun t799 => (if bt790.2.2 = true then (if bt794.2.2 = true then ((grid_In.f t798 t799 t789).bind fun t801 => (grid_At.j0 k (!t801) t798 t799)) else (grid_At.j0 k true t798 t799)) else (grid_At.j0 k true t798 t799))))))) = some (r1, r2, r3) := h; clear h; replace H := Option.bind_eq_some_iff.mp H; obtain ⟨t789, A40, H⟩ := H; (try dsimp only at H); have A4 := Aside0.mk A40; clear A40; replace H := Option.bind_eq_some_iff.mp H; obtain ⟨⟨t790, t791, t792⟩, A50, H⟩ := H; (try dsimp only at H); have A5 := Aside0.mk A50; clear A50; replace H := Option.bind_eq_some_iff.mp H; obtain ⟨⟨t794, t795, t796⟩, A60, H⟩ := H; (try dsimp only at H); have A6 := Aside0.mk A60; clear A60; replace H := Option.bind_eq_some_iff.mp H; obtain ⟨t798, A70, H⟩ := H
 (try dsimp only at H); have A7 := Aside0.mk A70; clear A70; replace H := Option.bind_eq_some_iff.mp H; obtain ⟨t799, A80, H⟩ := H; (try dsimp only at H); have A8 := Aside0.mk A80; clear A80; have HC9 := Aside0.mk H; clear H
 go_enter Try.func39, Try.ntmps39
 try go_wp2_with (first | ((with_reducible refine gate_dst (N := 3) rfl ?_); refine box_event ?hg (N := 3) ?hd (cs := #[.int .i64 a0_0, .int .u64 a0_1, .int .i64 a0_2, .int .u64 a0_3]) (t := 26) ?hr ?_; (case hd => rfl); (case hg => rfl); (case hr => first | (go_simp; done) | (go_simp; rfl)); intro gb786 hg w10 hbox hb; have BK786 := Aside0.mk (hbox); have GW786 := kS HB hg; have GE786 := kS HB hg; replace HB := kB HB hb; clear hb hbox hg) | ((with_reducible refine gate_dst (N := 4) rfl ?_); refine box_event ?hg (N := 4) ?hd (cs := #[.int .i64 a1_0, .int .u64 a1_1, .int .i64 a1_2, .int .u64 a1_3]) (t := 26) ?hr ?_; (case hd => rfl); (case hg => rfl); (case hr => first | (go_simp; done) | (go_simp; rfl)); intro gb787 hg w11 hbox hb; have BK787 := Aside0.mk (hbox); have GW787 := kS HB hg; have GE787 := kS HB hg; have NB786_787 := kN BK786 hg; have NB787_786 := kM BK786 hg; replace BK786 := kb BK786 hb; replace HB := kB HB hb; clear hb hbox hg) | ((with_reducible refine gate_dst (N := 6) rfl ?_); refine box_event ?hg (N := 6) ?hd (cs := #[.int .i64 0, .int .i64 0]) (t := 60) ?hr ?_; (case hd => rfl); (case hg => rfl); (case hr => first | (go_simp; done) | (go_simp; rfl)); intro gb788 hg w12 hbox hb; have BK788 := Aside0.mk (hbox); have GW788 := kS HB hg; have GE788 := kS HB hg; have NB786_788 := kN BK786 hg; have NB788_786 := kM BK786 hg; have NB787_788 := kN BK787 hg; have NB788_787 := kM BK787 hg; replace BK786 := kb BK786 hb; replace BK787 := kb BK787 hb; replace HB := kB HB hb; clear hb hbox hg) | ((with_reducible refine gate_callee (f := 67) rfl ?_); refine gL 14 Try.func67 #[.int .i64 a2] ?_; (with_reducible refine (grid_rung.calls a2 t789 _ A4.out).mono ?_); rintro e w13 ⟨rfl, hb⟩; refine ⟨_, rfl, ?_⟩; replace BK786 := kb BK786 hb; replace BK787 := kb BK787 hb; replace BK788 := kb BK788 hb; replace HB := kB HB hb; (try clear hb); (try clear hb2); (try clear hk); (try clear hi); have hnb14 := NB786_787.out; have hnc14 := NB787_786.out; have hnb15 := NB786_788.out; have hnc15 := NB788_786.out; have hcz16_0 : w13.cell? ⟨gb786, 0, none⟩ = some (.int .i64 a0_0) := kc BK786 0; have hcz16_1 : w13.cell? ⟨gb786, 1, none⟩ = some (.int .u64 a0_1) := kc BK786 1; have hcz16_2 : w13.cell? ⟨gb786, 2, none⟩ = some (.int .i64 a0_2) := kc BK786 2; have hcz16_3 : w13.cell? ⟨gb786, 3, none⟩ = some (.int .u64 a0_3) := kc BK786 3; have hfz16_0 := blk_frozen BK786.out 0; have hfz16_1 := blk_frozen BK786.out 1; have hfz16_2 := blk_frozen BK786.out 2; have hfz16_3 := blk_frozen BK786.out 3) | ((with_reducible refine gate_callee (f := 26) rfl ?_); refine gL 18 Try.func26 #[.agg #[.int .i64 a0_0, .int .u64 a0_1, .int .i64 a0_2, .int .u64 a0_3], .int .i64 t789] ?_; (with_reducible refine (frac_Snap.calls k a0_0 a0_1 a0_2 a0_3 t789 t790 t791 t792 _ A5.out).mono ?_); rintro e w17 ⟨rfl, hb⟩; refine ⟨_, rfl, ?_⟩; replace BK786 := kb BK786 hb; replace BK787 := kb BK787 hb; replace BK788 := kb BK788 hb; replace HB := kB HB hb; (try clear hb); (try clear hb2); (try clear hk); (try clear hi)) | ((with_reducible refine gate_dst (N := 8) rfl ?_); refine box_event ?hg (N := 8) ?hd (cs := #[.int .i64 0, .int .u64 0]) (t := 24) ?hr ?_; (case hd => rfl); (case hg => rfl); (case hr => first | (go_simp; done) | (go_simp; rfl)); intro gb793 hg w18 hbox hb; have BK793 := Aside0.mk (hbox); have GW793 := kS HB hg; have GE793 := kS HB hg; have NB786_793 := kN BK786 hg; have NB793_786 := kM BK786 hg; have NB787_793 := kN BK787 hg; have NB793_787 := kM BK787 hg; have NB788_793 := kN BK788 hg; have NB793_788 := kM BK788 hg; replace BK786 := kb BK786 hb; replace BK787 := kb BK787 hb; replace BK788 := kb BK788 hb; replace HB := kB HB hb; clear hb hbox hg; have hnb19 := NB793_786.out; have hnc19 := NB786_793.out; have hnb20 := NB793_787.out; have hnc20 := NB787_793.out; have hnb21 := NB793_788.out; have hnc21 := NB788_793.out; have hcz22_0 : w18.cell? ⟨gb793, 0, none⟩ = some (.int .i64 0) := kc BK793 0; have hcz22_1 : w18.cell? ⟨gb793, 1, none⟩ = some (.int .u64 0) := kc BK793 1; have hfz22_0 := blk_frozen BK793.out 0; have hfz22_1 := blk_frozen BK793.out 1; have hnb23 := NB787_788.out; have hnc23 := NB788_787.out; have hcz24_0 : w18.cell? ⟨gb787, 0, none⟩ = some (.int .i64 a1_0) := kc BK787 0; have hcz24_1 : w18.cell? ⟨gb787, 1, none⟩ = some (.int .u64 a1_1) := kc BK787 1; have hcz24_2 : w18.cell? ⟨gb787, 2, none⟩ = some (.int .i64 a1_2) := kc BK787 2; have hcz24_3 : w18.cell? ⟨gb787, 3, none⟩ = some (.int .u64 a1_3) := kc BK787 3; have hfz24_0 := blk_frozen BK787.out 0; have hfz24_1 := blk_frozen BK787.out 1; have hfz24_2 := blk_frozen BK787.out 2; have hfz24_3 := blk_frozen BK787.out 3) | ((with_reducible refine gate_callee (f := 26) rfl ?_); refine gL 24 Try.func26 #[.agg #[.int .i64 a1_0, .int .u64 a1_1, .int .i64 a1_2, .int .u64 a1_3], .int .i64 t789] ?_; (with_reducible refine (frac_Snap.calls k a1_0 a1_1 a1_2 a1_3 t789 t794 t795 t796 _ A6.out).mono ?_); rintro e w25 ⟨rfl, hb⟩; refine ⟨_, rfl, ?_⟩; have n0_ := kb BK786 hb; have n1_ := kb BK787 hb; have n2_ := kb BK788 hb; have n3_ := Aside0.mk (blk_below (g := gb793) (o := .cells #[.int .i64 t790, .int .u64 t791] 24 (0, 0)) (by (with_reducible repeat (first | refine zr ?_ _ | refine zw ?_ | refine za ?_ _)); refine blk_put (cs := #[.int .i64 t790, .int .u64 0]) ?_ 1 _ rfl; (with_reducible repeat (first | refine zr ?_ _ | refine zw ?_ | refine za ?_ _)); refine blk_put (cs := #[.int .i64 0, .int .u64 0]) ?_ 0 _ rfl; (with_reducible repeat (first | refine zr ?_ _ | refine zw ?_ | refine za ?_ _)); exact BK793.out) hb); have n4_ := kB HB hb; clear BK786; clear BK787; clear BK788; clear BK793; clear HB; have BK786 := n0_; have BK787 := n1_; have BK788 := n2_; have BK793 := n3_; have HB := n4_; clear n0_ n1_ n2_ n3_ n4_; (try clear hb); (try clear hb2); (try clear hk); (try clear hi)) | ((with_reducible refine gate_dst (N := 10) rfl ?_); refine box_event ?hg (N := 10) ?hd (cs := #[.int .i64 0, .int .u64 0]) (t := 24) ?hr ?_; (case hd => rfl); (case hg => rfl); (case hr => first | (go_simp; done) | (go_simp; rfl)); intro gb797 hg w26 hbox hb; have BK797 := Aside0.mk (hbox); have GW797 := kS HB hg; have GE797 := kS HB hg; have NB786_797 := kN BK786 hg; have NB797_786 := kM BK786 hg; have NB787_797 := kN BK787 hg; have NB797_787 := kM BK787 hg; have NB788_797 := kN BK788 hg; have NB797_788 := kM BK788 hg; have NB793_797 := kN BK793 hg; have NB797_793 := kM BK793 hg; replace BK786 := kb BK786 hb; replace BK787 := kb BK787 hb; replace BK788 := kb BK788 hb; replace BK793 := kb BK793 hb; replace HB := kB HB hb; clear hb hbox hg; have hnb27 := NB797_786.out; have hnc27 := NB786_797.out; have hnb28 := NB797_787.out; have hnc28 := NB787_797.out; have hnb29 := NB797_788.out; have hnc29 := NB788_797.out; have hnb30 := NB797_793.out; have hnc30 := NB793_797.out; have hcz31_0 : w26.cell? ⟨gb797, 0, none⟩ = some (.int .i64 0) := kc BK797 0; have hcz31_1 : w26.cell? ⟨gb797, 1, none⟩ = some (.int .u64 0) := kc BK797 1; have hfz31_0 := blk_frozen BK797.out 0; have hfz31_1 := blk_frozen BK797.out 1))
 have n0_ : Aside0 (((w26.setCell ⟨gb797, 0, none⟩ (.int .i64 t794)).setCell ⟨gb797, 1, none⟩ (.int .u64 t795)).heap[gb786]? = some (.cells #[.int .i64 a0_0, .int .u64 a0_1, .int .i64 a0_2, .int .u64 a0_3] 26 (0, 0))) := ⟨kx BK786⟩; have n1_ : Aside0 (((w26.setCell ⟨gb797, 0, none⟩ (.int .i64 t794)).setCell ⟨gb797, 1, none⟩ (.int .u64 t795)).heap[gb787]? = some (.cells #[.int .i64 a1_0, .int .u64 a1_1, .int .i64 a1_2, .int .u64 a1_3] 26 (0, 0))) := ⟨kx BK787⟩; have n2_ : Aside0 (((w26.setCell ⟨gb797, 0, none⟩ (.int .i64 t794)).setCell ⟨gb797, 1, none⟩ (.int .u64 t795)).heap[gb788]? = some (.cells #[.int .i64 0, .int .i64 0] 60 (0, 0))) := ⟨kx BK788⟩; have n3_ : Aside0 (((w26.setCell ⟨gb797, 0, none⟩ (.int .i64 t794)).setCell ⟨gb797, 1, none⟩ (.int .u64 t795)).heap[gb793]? = some (.cells #[.int .i64 t790, .int .u64 t791] 24 (0, 0))) := ⟨kx BK793⟩; have n4_ : Aside0 (((w26.setCell ⟨gb797, 0, none⟩ (.int .i64 t794)).setCell ⟨gb797, 1, none⟩ (.int .u64 t795)).heap[gb797]? = some (.cells #[.int .i64 t794, .int .u64 t795] 24 (0, 0))) := ⟨by (with_reducible repeat (first | refine zr ?_ _ | refine zw ?_ | refine za ?_ _)); refine blk_put (cs := #[.int .i64 t794, .int .u64 0]) ?_ 1 _ rfl; (with_reducible repeat (first | refine zr ?_ _ | refine zw ?_ | refine za ?_ _)); refine blk_put (cs := #[.int .i64 0, .int .u64 0]) ?_ 0 _ rfl; (with_reducible repeat (first | refine zr ?_ _ | refine zw ?_ | refine za ?_ _)); exact BK797.out⟩; have n5_ : Aside0 (Below w.heap.size w ((w26.setCell ⟨gb797, 0, none⟩ (.int .i64 t794)).setCell ⟨gb797, 1, none⟩ (.int .u64 t795))) := ⟨ky HB⟩
 (try clear BK786); (try clear BK787); (try clear BK788); (try clear BK793); (try clear BK797); (try clear HB)
 generalize ((w26.setCell ⟨gb797, 0, none⟩ (.int .i64 t794)).setCell ⟨gb797, 1, none⟩ (.int .u64 t795)) = w32 at n0_ n1_ n2_ n3_ n4_ n5_ ⊢
 have BK786 := n0_; have BK787 := n1_; have BK788 := n2_; have BK793 := n3_; have BK797 := n4_; have HB := n5_; clear n0_ n1_ n2_ n3_ n4_ n5_; replace BK786 := Aside0.mk (blk_drew BK786.out); replace BK787 := Aside0.mk (blk_drew BK787.out); replace BK788 := Aside0.mk (blk_drew BK788.out); replace BK793 := Aside0.mk (blk_drew BK793.out); replace BK797 := Aside0.mk (blk_drew BK797.out); replace HB := Aside0.mk (below_drew1 HB.out); refine start_ (n := 7) (S := fun w' => w'.cell? ⟨gb793, 0, none⟩ = some (.int .i64 t790) ∧ w'.cell? ⟨gb793, 1, none⟩ = some (.int .u64 t791) ∧ w'.cell? ⟨gb797, 0, none⟩ = some (.int .i64 t794) ∧ w'.cell? ⟨gb797, 1, none⟩ = some (.int .u64 t795)) (ds := []) #[O, O, O, O, O, O, O] (by kernel_rfl) rfl rfl ⟨kc BK793 0, kc BK793 1, kc BK797 0, kc BK797 1⟩ (fun hHeld => ?_)
 generalize w32.drew = w33 at BK786 BK787 BK788 BK793 BK797 HB hHeld ⊢
 refine take_ (i := 0) (N := some 27) (v := ?_) (a' := ?_) #[T, O, O, O, O, O, O] rfl rfl (by kernel_rfl) (fun _ _ _ h => h) (Or.inl ⟨by rfl, ?_⟩) hHeld ?_ ?_; rotate_left; focus (rintro w' ⟨s0, s1, s2, s3⟩; go_simp; with_reducible rfl)
 rotate_left; focus (simp only [Act.put, s1, s2, s3, i64_w, i32_w]; rfl)
 refine take_ (i := 2) (N := some 29) (v := ?_) (a' := ?_) #[T, O, T, O, O, O, O] rfl rfl (by kernel_rfl) (fun _ _ _ h => h) (Or.inl ⟨by rfl, ?_⟩) hHeld ?_ ?_; rotate_left; focus (rintro w' ⟨s0, s1, s2, s3⟩; go_simp; with_reducible rfl)
 rotate_left; focus (simp only [Act.put, s1, s2, s3, i64_w, i32_w]; rfl)
 refine join_ (σ := Nat) 1 #[T, T, T, T, T, T, O] (fun s_ => [(28, .int .i64 t798), (30, .int .i64 t799), (12, .pointer (some ⟨s_, 0, none⟩)), (31, .agg #[.int .i64 t798, .int .i64 t799])]) (fun s_ w' => (w'.cell? ⟨gb793, 0, none⟩ = some (.int .i64 t790) ∧ w'.cell? ⟨gb793, 1, none⟩ = some (.int .u64 t791) ∧ w'.cell? ⟨gb797, 0, none⟩ = some (.int .i64 t794) ∧ w'.cell? ⟨gb797, 1, none⟩ = some (.int .u64 t795)) ∧ (w'.heap[gb786]? = some (.cells #[.int .i64 a0_0, .int .u64 a0_1, .int .i64 a0_2, .int .u64 a0_3] 26 (0, 0))) ∧ (w'.heap[gb787]? = some (.cells #[.int .i64 a1_0, .int .u64 a1_1, .int .i64 a1_2, .int .u64 a1_3] 26 (0, 0))) ∧ (w'.heap[gb788]? = some (.cells #[.int .i64 0, .int .i64 0] 60 (0, 0))) ∧ (w'.heap[gb793]? = some (.cells #[.int .i64 t790, .int .u64 t791] 24 (0, 0))) ∧ (w'.heap[gb797]? = some (.cells #[.int .i64 t794, .int .u64 t795] 24 (0, 0))) ∧ (w'.heap[s_]? = some (.cells #[.int .i64 0, .int .i64 0] 60 (0, 0))) ∧ (w.heap.size ≤ s_) ∧ (w.heap.size ≤ s_) ∧ (gb786 ≠ s_) ∧ (s_ ≠ gb786) ∧ (gb787 ≠ s_) ∧ (s_ ≠ gb787) ∧ (gb788 ≠ s_) ∧ (s_ ≠ gb788) ∧ (gb793 ≠ s_) ∧ (s_ ≠ gb793) ∧ (gb797 ≠ s_) ∧ (s_ ≠ gb797) ∧ (Below w.heap.size w w')) ?_ ?_; rotate_left
 ·intro hJ
  refine web_ #[T, T, T, T, T, T, O] [⟨1, 28, [], [], E0 [.int .i64 t798]⟩, ⟨3, 30, [(4, 31)], [1], E0 [.int .i64 t799, .agg #[.int .i64 t798, .int .i64 t799]]⟩, ⟨5, 12, [], [], EB 5 #[.int .i64 0, .int .i64 0] 60⟩] 1 (by kernel_rfl) rfl (fun _ t _ _ _ h => by cases t <;> exact h) hHeld (fun _ _ h hb => ⟨cB h.1 hb, cB h.2.1 hb, cB h.2.2.1 hb, cB h.2.2.2 hb⟩) (And.intro (oE0 _) (And.intro (oE0 _) (And.intro (oEB _ _) trivial))) (And.intro ?_ (And.intro ?_ (And.intro ?_ trivial))) ?_
  ·intro x wa lo hi a hb0 hS ha hd; clear hd
   simp only [stA, slots, Ev.sl, vca, vna, zc, zn, putAll, Act.put, s1, s2, s3] at ha; subst ha; refine ⟨_, rfl, fun K hK => ?_⟩
   refine gS Try.func68 #[.agg #[.int .i64 t790, .int .u64 t791]] ?_
   with_reducible refine (grid_small.calls t790 t791 t798 _ A7.out).mono ?_
   rintro e wb ⟨rfl, hb⟩; refine ⟨_, rfl, hK _ [] _ hb rfl trivial⟩
  ·rintro x wa lo hi a hb0 hS ha ⟨d1, -, -, _⟩
   have hv1 := d1 (.head _); have hv1 : x 1 = .int .i64 t798 := (List.cons.inj hv1).1; simp only [stA, slots, Ev.sl, vca, vna, zc, zn, putAll, Act.put, s1, s2, s3, hv1] at ha; subst ha; refine ⟨_, rfl, fun K hK => ?_⟩
   refine gS Try.func68 #[.agg #[.int .i64 t794, .int .u64 t795]] ?_
   with_reducible refine (grid_small.calls t794 t795 t799 _ A8.out).mono ?_
   rintro e wb ⟨rfl, hb⟩; refine ⟨_, rfl, hK _ [.agg #[.int .i64 t798, .int .i64 t799]] _ hb rfl ?_⟩
   refine ⟨⟨_, rfl, ?_⟩, ?_⟩
   ·simp only [Act.put, s1, s2, s3]; exact Or.inl ⟨by rfl, fun w' => by first | (go_simp; done) | (go_simp; with_reducible rfl)⟩
   exact trivial
  ·intro x wa lo hi a hb0 hS ha hd; refine ⟨_, rfl, fun K hK => ?_⟩; refine box_step ?hg (N := 12) ?hd (cs := #[.int .i64 0, .int .i64 0]) (t := 60) ?hr ?_; (case hd => rfl); (case hg => rfl); (case hr => first | (go_simp; done) | (go_simp; rfl)); intro g hg wb hbox hb; exact hK _ [] _ hb ⟨g, rfl, hbox, Nat.le_of_eq hg.symm, blk_lt hbox⟩ trivial
  ·rintro x wb lo hi hb0 hS ⟨⟨e1, r1⟩, ⟨e3, r3⟩, ⟨⟨gb5_, e5, K5, q5a, q5b⟩, r5⟩, _⟩ ⟨⟨p1_3, p1_5, _⟩, ⟨p3_5, _⟩, _⟩
   simp only [E0, Ev.ix, zc, zn, List.cons.injEq, and_true] at e1 e3 e5
   dsimp only at r1 r3 r5 p1_3 p1_5 p3_5
   have zb := below_size HB.out; have zBK786 := blk_lt BK786.out; have zBK787 := blk_lt BK787.out; have zBK788 := blk_lt BK788.out; have zBK793 := blk_lt BK793.out; have zBK797 := blk_lt BK797.out
   refine norm_ (by simp only [stA, slots, Ev.sl, vca, vna, zc, zn, putAll, Act.put, s1, s2, s3, e1, e3, e5]) (hJ gb5_ _ ?_); (try dsimp only); exact ⟨hS, (kb BK786 hb0).out, (kb BK787 hb0).out, (kb BK788 hb0).out, (kb BK793 hb0).out, (kb BK797 hb0).out, K5, by omega, by omega, by omega, by omega, by omega, by omega, by omega, by omega, by omega, by omega, by omega, by omega, (kB HB hb0).out⟩
 rintro gb800 w37 ⟨hS_, h0_, h1_, h2_, h3_, h4_, h5_, h6_, h7_, h8_, h9_, h10_, h11_, h12_, h13_, h14_, h15_, h16_, h17_, h18_⟩; clear BK786 BK787 BK788 BK793 BK797 HB; have BK786 := A0 h0_; have BK787 := A0 h1_; have BK788 := A0 h2_; have BK793 := A0 h3_; have BK797 := A0 h4_; have BK800 := A0 h5_; have GW800 := A0 h6_; have GE800 := A0 h7_; have NB786_800 := A0 h8_; have NB800_786 := A0 h9_; have NB787_800 := A0 h10_; have NB800_787 := A0 h11_; have NB788_800 := A0 h12_; have NB800_788 := A0 h13_; have NB793_800 := A0 h14_; have NB800_793 := A0 h15_; have NB797_800 := A0 h16_; have NB800_797 := A0 h17_; have HB := A0 h18_; clear h0_ h1_ h2_ h3_ h4_ h5_ h6_ h7_ h8_ h9_ h10_ h11_ h12_ h13_ h14_ h15_ h16_ h17_ h18_; have hHeld := hS_
 refine norm_ (a' := ?_) ?_ ?_; rotate_left; focus (simp only [putAll, Act.put, s1, s2, s3]; rfl)
 refine one_ (i := 6) (N := none) #[T, T, T, T, T, T, T] rfl rfl (by kernel_rfl) (by decide) (fun K hK => ?_); have hs38 : w37.cell? ⟨gb800, 0, none⟩ = some (.int .i64 0) := kc BK800 0; have hfs38 := blk_frozen BK800.out 0; have hns38_0 := NB786_800.out; have hns38_1 := NB787_800.out; have hns38_2 := NB788_800.out; have hns38_3 := NB793_800.out; have hns38_4 := NB797_800.out; have hms38_0 := NB800_786.out; have hms38_1 := NB800_787.out; have hms38_2 := NB800_788.out; have hms38_3 := NB800_793.out; have hms38_4 := NB800_797.out; have hs39 : w37.cell? ⟨gb800, 1, none⟩ = some (.int .i64 0) := kc BK800 1; have hfs39 := blk_frozen BK800.out 1; have hns39_0 := NB786_800.out; have hns39_1 := NB787_800.out; have hns39_2 := NB788_800.out; have hns39_3 := NB793_800.out; have hns39_4 := NB797_800.out; have hms39_0 := NB800_786.out; have hms39_1 := NB800_787.out; have hms39_2 := NB800_788.out; have hms39_3 := NB800_793.out; have hms39_4 := NB800_797.out; refine skip_ (w1 := ?_) (by rfl) rfl ?_ ?_; rotate_left
 ·go_simp
  rfl
 refine hK.out _ _ ⟨((cell_far (p := ⟨gb800, _, none⟩) NB793_800.out _).trans (((cell_far (p := ⟨gb800, _, none⟩) NB793_800.out _).trans (hHeld.1)))), ((cell_far (p := ⟨gb800, _, none⟩) NB793_800.out _).trans (((cell_far (p := ⟨gb800, _, none⟩) NB793_800.out _).trans (hHeld.2.1)))), ((cell_far (p := ⟨gb800, _, none⟩) NB797_800.out _).trans (((cell_far (p := ⟨gb800, _, none⟩) NB797_800.out _).trans (hHeld.2.2.1)))), ((cell_far (p := ⟨gb800, _, none⟩) NB797_800.out _).trans (((cell_far (p := ⟨gb800, _, none⟩) NB797_800.out _).trans (hHeld.2.2.2))))⟩ (fun hHeld => ?_); clear hK K; refine done_ (by kernel_rfl) ?_
 go_upto_region 5 with (fail)
 go_cut [43] (fun v43 wc => ∃ (kq : Nat) (x43_8 : Bool), v43 = .bool x43_8 ∧ Aside0 (grid_At.j0 kq x43_8 t798 t799 = some (r1, r2, r3)) ∧ Aside0 (kq ≤ k) ∧ Aside0 (wc.heap[gb786]? = some (.cells #[.int .i64 a0_0, .int .u64 a0_1, .int .i64 a0_2, .int .u64 a0_3] 26 (0, 0))) ∧ Aside0 (wc.heap[gb787]? = some (.cells #[.int .i64 a1_0, .int .u64 a1_1, .int .i64 a1_2, .int .u64 a1_3] 26 (0, 0))) ∧ Aside0 (wc.heap[gb788]? = some (.cells #[.int .i64 0, .int .i64 0] 60 (0, 0))) ∧ Aside0 (wc.heap[gb793]? = some (.cells #[.int .i64 t790, .int .u64 t791] 24 (0, 0))) ∧ Aside0 (wc.heap[gb797]? = some (.cells #[.int .i64 t794, .int .u64 t795] 24 (0, 0))) ∧ Aside0 (wc.heap[gb800]? = some (.cells #[.int .i64 t798, .int .i64 t799] 60 (0, 0))) ∧ Aside0 (Below w.heap.size w wc))
 case first =>
  have H := HC9.out; clear HC9
  by_cases c40 : t792 = true
  rotate_left
  ·replace c40 := Bool.eq_false_iff.mpr c40; subst c40
   rw [if_neg (show ¬ (false = true) by decide)] at H; have H' := Aside0.mk H; clear H
   go_wp2
   go_meet
   case rel => exact ⟨_, (true), (by first | rfl | (simp; done) | (simp [*]; done)), H', ⟨by first | omega | exact Nat.le_refl _⟩, ⟨kx BK786⟩, ⟨kx BK787⟩, ⟨kx BK788⟩, ⟨kx BK793⟩, ⟨kx BK797⟩, ⟨by (with_reducible repeat (first | refine zr ?_ _ | refine zw ?_ | refine za ?_ _)); refine blk_put (cs := #[.int .i64 t798, .int .i64 0]) ?_ 1 _ rfl; (with_reducible repeat (first | refine zr ?_ _ | refine zw ?_ | refine za ?_ _)); refine blk_put (cs := #[.int .i64 0, .int .i64 0]) ?_ 0 _ rfl; (with_reducible repeat (first | refine zr ?_ _ | refine zw ?_ | refine za ?_ _)); exact BK800.out⟩, ⟨ky HB⟩⟩
  subst c40
  rw [if_pos rfl] at H
  by_cases c41 : t796 = true
  rotate_left
  ·replace c41 := Bool.eq_false_iff.mpr c41; subst c41
   rw [if_neg (show ¬ (false = true) by decide)] at H; have H' := Aside0.mk H; clear H
   go_wp2
   go_meet
   case rel => exact ⟨_, (true), (by first | rfl | (simp; done) | (simp [*]; done)), H', ⟨by first | omega | exact Nat.le_refl _⟩, ⟨kx BK786⟩, ⟨kx BK787⟩, ⟨kx BK788⟩, ⟨kx BK793⟩, ⟨kx BK797⟩, ⟨by (with_reducible repeat (first | refine zr ?_ _ | refine zw ?_ | refine za ?_ _)); refine blk_put (cs := #[.int .i64 t798, .int .i64 0]) ?_ 1 _ rfl; (with_reducible repeat (first | refine zr ?_ _ | refine zw ?_ | refine za ?_ _)); refine blk_put (cs := #[.int .i64 0, .int .i64 0]) ?_ 0 _ rfl; (with_reducible repeat (first | refine zr ?_ _ | refine zw ?_ | refine za ?_ _)); exact BK800.out⟩, ⟨ky HB⟩⟩
  subst c41
  rw [if_pos rfl] at H; replace H := Option.bind_eq_some_iff.mp H; obtain ⟨t801, A420, H⟩ := H; (try dsimp only at H); have A42 := Aside0.mk A420; clear A420; have H' := Aside0.mk H; clear H; have hnb43 := NB800_786.out; have hnc43 := NB786_800.out; have hnb44 := NB800_787.out; have hnc44 := NB787_800.out; have hnb45 := NB800_788.out; have hnc45 := NB788_800.out; have hnb46 := NB800_793.out; have hnc46 := NB793_800.out; have hnb47 := NB800_797.out; have hnc47 := NB797_800.out; obtain ⟨hcz48_0, hcz48_1⟩ := kc2 BK800; obtain ⟨hfz48_0, hfz48_1⟩ := kf2 BK800
  go_wp2_with (first | (go_at_call 44; (with_reducible refine (grid_In.calls t798 t799 t789 t801 _ A42.out).mono ?_); rintro e w49 ⟨rfl, hb⟩; have n0_ := kb BK786 hb; have n1_ := kb BK787 hb; have n2_ := kb BK788 hb; have n3_ := kb BK793 hb; have n4_ := kb BK797 hb; have n5_ := Aside0.mk (blk_below (g := gb800) (o := .cells #[.int .i64 t798, .int .i64 t799] 60 (0, 0)) (by (with_reducible repeat (first | refine zr ?_ _ | refine zw ?_ | refine za ?_ _)); refine blk_put (cs := #[.int .i64 t798, .int .i64 0]) ?_ 1 _ rfl; (with_reducible repeat (first | refine zr ?_ _ | refine zw ?_ | refine za ?_ _)); refine blk_put (cs := #[.int .i64 0, .int .i64 0]) ?_ 0 _ rfl; (with_reducible repeat (first | refine zr ?_ _ | refine zw ?_ | refine za ?_ _)); exact BK800.out) hb); have n6_ := kB HB hb; clear BK786; clear BK787; clear BK788; clear BK793; clear BK797; clear BK800; clear HB; have BK786 := n0_; have BK787 := n1_; have BK788 := n2_; have BK793 := n3_; have BK797 := n4_; have BK800 := n5_; have HB := n6_; clear n0_ n1_ n2_ n3_ n4_ n5_ n6_; (try clear hb); (try clear hb2); (try clear hk); (try clear hi)))
  go_meet
  case rel => exact ⟨_, (!t801), (by first | rfl | (simp; done) | (simp [*]; done)), H', ⟨by first | omega | exact Nat.le_refl _⟩, ⟨kx BK786⟩, ⟨kx BK787⟩, ⟨kx BK788⟩, ⟨kx BK793⟩, ⟨kx BK797⟩, ⟨kx BK800⟩, ⟨ky HB⟩⟩
 case rest =>
  clear HC9; try clear c1; try clear c2; try clear p2; try clear c3; try clear c4; try clear c6; try clear c14; try clear c15; try clear c19; try clear c20; try clear c21; try clear c23; try clear c26; try clear c27; try clear c28; try clear c29; try clear c30; try clear c39; try clear c40; try clear c41; try clear c43; try clear c44; try clear c45; try clear c46; try clear c47; try clear hcz16_0; try clear hcz16_1; try clear hcz16_2; try clear hcz16_3; try clear hcz22_0; try clear hcz22_1; try clear hcz24_0; try clear hcz24_1; try clear hcz24_2; try clear hcz24_3; try clear hcz31_0; try clear hcz31_1; try clear hcz48_0; try clear hcz48_1; try clear hfz16_0; try clear hfz16_1; try clear hfz16_2; try clear hfz16_3; try clear hfz22_0; try clear hfz22_1; try clear hfz24_0; try clear hfz24_1; try clear hfz24_2; try clear hfz24_3; try clear hfz31_0; try clear hfz31_1; try clear hfz48_0; try clear hfz48_1
  obtain ⟨kq, x43_8, rfl, HA, HJ8, BK786, BK787, BK788, BK793, BK797, BK800, HB⟩ := hcut
  cases kq with
  | zero => exact absurd HA.out (by simp [grid_At.j0])
  | succ kj8 =>
   have H := HA.out; clear HA
   simp only [grid_At.j0] at H
   by_cases c50 : x43_8 = true
   ·subst c50
    rw [if_pos rfl] at H
    simp only [Option.some.injEq, Prod.mk.injEq] at H
    obtain ⟨rfl, rfl, rfl⟩ := H; have hnb51 := NB788_786.out; have hnc51 := NB786_788.out; have hnb52 := NB788_787.out; have hnc52 := NB787_788.out; have hnb53 := NB788_793.out; have hnc53 := NB793_788.out; have hnb54 := NB788_797.out; have hnc54 := NB797_788.out; have hnb55 := NB788_800.out; have hnc55 := NB800_788.out; obtain ⟨hcz56_0, hcz56_1⟩ := kc2 BK788; obtain ⟨hfz56_0, hfz56_1⟩ := kf2 BK788
    go_wp2
    refine bodyPost_ret (results_ct rfl _ _ gb788 60 #[.int .i64 0, .int .i64 0] (0, 0) _ rfl (by (with_reducible repeat (first | refine zr ?_ _ | refine zw ?_ | refine za ?_ _)); refine blk_put (cs := #[.int .i64 0, .int .i64 0]) ?_ 1 _ rfl; (with_reducible repeat (first | refine zr ?_ _ | refine zw ?_ | refine za ?_ _)); refine blk_put (cs := #[.int .i64 0, .int .i64 0]) ?_ 0 _ rfl; (with_reducible repeat (first | refine zr ?_ _ | refine zw ?_ | refine za ?_ _)); exact BK788.out) Try.underlying60 rfl (by kernel_rfl)) rfl ?_; exact ⟨by first | rfl | (simp [errW_none, errW_some] <;> rfl) | (simp [*, errW_none, errW_some] <;> rfl), ky HB⟩
   replace c50 := Bool.eq_false_iff.mpr c50; subst c50
   rw [if_neg (show ¬ (false = true) by decide)] at H
   simp only [Option.some.injEq, Prod.mk.injEq] at H
   obtain ⟨rfl, rfl, rfl⟩ := H; have hnb57 := NB800_786.out; have hnc57 := NB786_800.out; have hnb58 := NB800_787.out; have hnc58 := NB787_800.out; have hnb59 := NB800_788.out; have hnc59 := NB788_800.out; have hnb60 := NB800_793.out; have hnc60 := NB793_800.out; have hnb61 := NB800_797.out; have hnc61 := NB797_800.out; obtain ⟨hcz62_0, hcz62_1⟩ := kc2 BK800; obtain ⟨hfz62_0, hfz62_1⟩ := kf2 BK800; have hnb63 := NB788_786.out; have hnc63 := NB786_788.out; have hnb64 := NB788_787.out; have hnc64 := NB787_788.out; have hnb65 := NB788_793.out; have hnc65 := NB793_788.out; have hnb66 := NB788_797.out; have hnc66 := NB797_788.out; obtain ⟨hcz67_0, hcz67_1⟩ := kc2 BK788; obtain ⟨hfz67_0, hfz67_1⟩ := kf2 BK788
   go_wp2
   refine bodyPost_ret (results_ct rfl _ _ gb788 60 #[.int .i64 t798, .int .i64 t799] (0, 0) _ rfl (by (with_reducible repeat (first | refine zr ?_ _ | refine zw ?_ | refine za ?_ _)); refine blk_put (cs := #[.int .i64 t798, .int .i64 0]) ?_ 1 _ rfl; (with_reducible repeat (first | refine zr ?_ _ | refine zw ?_ | refine za ?_ _)); refine blk_put (cs := #[.int .i64 0, .int .i64 0]) ?_ 0 _ rfl; (with_reducible repeat (first | refine zr ?_ _ | refine zw ?_ | refine za ?_ _)); exact BK788.out) Try.underlying60 rfl (by kernel_rfl)) rfl ?_; exact ⟨by first | rfl | (simp [errW_none, errW_some] <;> rfl) | (simp [*, errW_none, errW_some] <;> rfl), ky HB⟩

/-! ### grid_Center: function 41 -/
def grid_Center.f (a0_0 : Int) (a0_1 : Int) (a1 : Int) : Option (Int × Int) := (grid_In.f a0_0 a0_1 a1).bind fun t804 => (if t804 = true then ((grid_rung.f a1).bind fun t805 => (if 0 ≤ t805 then ((grid_rung.f a1).bind fun t806 => (if 0 ≤ t806 then (some (shl .i64 a0_0 t805, shl .i64 a0_1 t806)) else (none))) else (none))) else (some (0, 0)))
def grid_Center.T3 : Bool × List (List Nat × List Nat) := (true, [([], []), ([0], [0]), ([], []), ([2], [2]), ([1, 3], [1, 3]), ([], []), ([5], [5]), ([], []), ([7, 3], [7]), ([6, 8], [6, 8]), ([4, 9], [4, 9]), ([10, 8, 0, 1, 2, 3, 4, 5, 6, 7, 8, 9, 10], [10])])
def grid_Center.B3 : List Nat := [0, 1, 0, 4, 15, 0, 32, 0, 140, 492, 1023, 2047]
theorem grid_Center.tab3 : rtab .any (opsOf Try.f41 3) = grid_Center.T3 := by kernel_rfl
theorem grid_Center.bits3 : waitsOk grid_Center.T3.2 grid_Center.B3 = true := by kernel_rfl
set_option maxHeartbeats 8000000 in
set_option maxRecDepth 100000 in
theorem grid_Center.calls (a0_0 : Int) (a0_1 : Int) (a1 : Int) (r1 : Int) (r2 : Int) (w : World) (h : grid_Center.f a0_0 a0_1 a1 = some (r1, r2)) :
  Calls Try.prog 41 #[.agg #[.int .i64 a0_0, .int .i64 a0_1], .int .i64 a1] w fun e w' => e = .returned (.agg #[.int .i64 r1, .int .i64 r2]) ∧ Below w.heap.size w w' := by
 have hu60 := Try.underlying60; have hu62 := Try.underlying62; have HB := Aside0.mk (Below.refl w.heap.size w); have H : ((grid_In.f a0_0 a0_1 a1).bind fun t804 => (if t804 = true then ((grid_rung.f a1).bind fun t805 => (if 0 ≤ t805 then ((grid_rung.f a1).bind fun t806 => (if 0 ≤ t806 then (some (shl .i64 a0_0 t805, shl .i64 a0_1 t806)) else (none))) else (none))) else (some (0, 0)))) = some (r1, r2) := h; clear h; replace H := Option.bind_eq_some_iff.mp H; obtain ⟨t804, A30, H⟩ := H; (try dsimp only at H); have A3 := Aside0.mk A30; clear A30
 by_cases c4 : t804 = true
 rotate_left
 ·replace c4 := Bool.eq_false_iff.mpr c4; subst c4
  rw [if_neg (show ¬ (false = true) by decide)] at H
  simp only [Option.some.injEq, Prod.mk.injEq] at H
  obtain ⟨rfl, rfl⟩ := H
  go_enter Try.func41, Try.ntmps41
  go_wp2_with (first | ((with_reducible refine gate_dst (N := 2) rfl ?_); refine box_event ?hg (N := 2) ?hd (cs := #[.int .i64 a0_0, .int .i64 a0_1]) (t := 60) ?hr ?_; (case hd => rfl); (case hg => rfl); (case hr => first | (go_simp; done) | (go_simp; rfl)); intro gb802 hg w21 hbox hb; have BK802 := Aside0.mk (hbox); have GW802 := kS HB hg; have GE802 := kS HB hg; replace HB := kB HB hb; clear hb hbox hg) | ((with_reducible refine gate_dst (N := 4) rfl ?_); refine box_event ?hg (N := 4) ?hd (cs := #[.int .i64 0, .int .i64 0]) (t := 62) ?hr ?_; (case hd => rfl); (case hg => rfl); (case hr => first | (go_simp; done) | (go_simp; rfl)); intro gb803 hg w22 hbox hb; have BK803 := Aside0.mk (hbox); have GW803 := kS HB hg; have GE803 := kS HB hg; have NB802_803 := kN BK802 hg; have NB803_802 := kM BK802 hg; replace BK802 := kb BK802 hb; replace HB := kB HB hb; clear hb hbox hg; have hnb23 := NB802_803.out; have hnc23 := NB803_802.out; have hcz24_0 : w22.cell? ⟨gb802, 0, none⟩ = some (.int .i64 a0_0) := kc BK802 0; have hcz24_1 : w22.cell? ⟨gb802, 1, none⟩ = some (.int .i64 a0_1) := kc BK802 1; have hfz24_0 := blk_frozen BK802.out 0; have hfz24_1 := blk_frozen BK802.out 1) | ((with_reducible refine gate_callee (f := 44) rfl ?_); refine gL 7 Try.func44 #[.agg #[.int .i64 a0_0, .int .i64 a0_1], .int .i64 a1] ?_; (with_reducible refine (grid_In.calls a0_0 a0_1 a1 false _ A3.out).mono ?_); rintro e w25 ⟨rfl, hb⟩; refine ⟨_, rfl, ?_⟩; replace BK802 := kb BK802 hb; replace BK803 := kb BK803 hb; replace HB := kB HB hb; (try clear hb); (try clear hb2); (try clear hk); (try clear hi); have hcz26_0 : w25.cell? ⟨gb803, 0, none⟩ = some (.int .i64 0) := kc BK803 0; have hcz26_1 : w25.cell? ⟨gb803, 1, none⟩ = some (.int .i64 0) := kc BK803 1; have hfz26_0 := blk_frozen BK803.out 0; have hfz26_1 := blk_frozen BK803.out 1))
  refine bodyPost_ret (results_cell_row rfl _ _ gb803 62 #[.int .i64 0, .int .i64 0] (0, 0) _ rfl (by (with_reducible repeat (first | refine zr ?_ _ | refine zw ?_ | refine za ?_ _)); refine blk_put (cs := #[.int .i64 0, .int .i64 0]) ?_ 1 _ rfl; (with_reducible repeat (first | refine zr ?_ _ | refine zw ?_ | refine za ?_ _)); refine blk_put (cs := #[.int .i64 0, .int .i64 0]) ?_ 0 _ rfl; (with_reducible repeat (first | refine zr ?_ _ | refine zw ?_ | refine za ?_ _)); exact BK803.out) Try.underlying62 rfl (by kernel_rfl)) rfl ?_; exact ⟨by first | rfl | (simp [errW_none, errW_some] <;> rfl) | (simp [*, errW_none, errW_some] <;> rfl), ky HB⟩

 subst c4
 rw [if_pos rfl] at H; replace H := Option.bind_eq_some_iff.mp H; obtain ⟨t805, A50, H⟩ := H; (try dsimp only at H); have A5 := Aside0.mk A50; clear A50
 by_cases c6 : 0 ≤ t805
 rotate_left
 ·rw [if_neg c6] at H
  exact absurd H (by simp)
 rw [if_pos c6] at H
 have c6b0 := eq_true c6; have c6b1 : decide (0 ≤ t805) = true := decide_eq_true c6; clear c6; obtain ⟨ji7, hji7⟩ : ∃ j_ : Int, (shl .i64 a0_0 t805) = j_ := ⟨_, rfl⟩
 replace H : ((grid_rung.f a1).bind fun t806 => (if 0 ≤ t806 then (some (ji7, shl .i64 a0_1 t806)) else (none))) = some (r1, r2) := by first | (rw [hji7] at H; exact H) | (simp only [hji7] at H ⊢; exact H)
 (try rw [hji7] at A3)
 (try rw [hji7] at A5)
 have hji7_ : (IntKind.i64.wrap (a0_0 * 2 ^ min t805.toNat 64)) = ji7 := hji7; have hji7z : t805 ≤ 64 → (IntKind.i64.wrap (a0_0 * 2 ^ t805.toNat)) = ji7 := shl_small hji7; have hji7y : (wrap64 (a0_0 * 2 ^ min t805.toNat 64)) = ji7 := (i64_w _).symm.trans hji7_
 have hji7x : t805 ≤ 64 → (wrap64 (a0_0 * 2 ^ t805.toNat)) = ji7 := fun h_ => (i64_w _).symm.trans (hji7z h_)
 replace H := Option.bind_eq_some_iff.mp H; obtain ⟨t806, A80, H⟩ := H; (try dsimp only at H); have A8 := Aside0.mk A80; clear A80
 by_cases c9 : 0 ≤ t806
 rotate_left
 ·rw [if_neg c9] at H
  exact absurd H (by simp)
 rw [if_pos c9] at H
 have c9b0 := eq_true c9; have c9b1 : decide (0 ≤ t806) = true := decide_eq_true c9; clear c9; obtain ⟨ji10, hji10⟩ : ∃ j_ : Int, (shl .i64 a0_1 t806) = j_ := ⟨_, rfl⟩
 replace H : (some (ji7, ji10)) = some (r1, r2) := by first | (rw [hji10] at H; exact H) | (simp only [hji10] at H ⊢; exact H)
 (try rw [hji10] at A3)
 (try rw [hji10] at A5)
 (try rw [hji10] at A8)
 have hji10_ : (IntKind.i64.wrap (a0_1 * 2 ^ min t806.toNat 64)) = ji10 := hji10; have hji10z : t806 ≤ 64 → (IntKind.i64.wrap (a0_1 * 2 ^ t806.toNat)) = ji10 := shl_small hji10; have hji10y : (wrap64 (a0_1 * 2 ^ min t806.toNat 64)) = ji10 := (i64_w _).symm.trans hji10_
 have hji10x : t806 ≤ 64 → (wrap64 (a0_1 * 2 ^ t806.toNat)) = ji10 := fun h_ => (i64_w _).symm.trans (hji10z h_)
 simp only [Option.some.injEq, Prod.mk.injEq] at H
 obtain ⟨rfl, rfl⟩ := H
 go_enter Try.func41, Try.ntmps41
 try go_wp2_with (first | ((with_reducible refine gate_dst (N := 2) rfl ?_); refine box_event ?hg (N := 2) ?hd (cs := #[.int .i64 a0_0, .int .i64 a0_1]) (t := 60) ?hr ?_; (case hd => rfl); (case hg => rfl); (case hr => first | (go_simp; done) | (go_simp; rfl)); intro gb802 hg w11 hbox hb; have BK802 := Aside0.mk (hbox); have GW802 := kS HB hg; have GE802 := kS HB hg; replace HB := kB HB hb; clear hb hbox hg) | ((with_reducible refine gate_dst (N := 4) rfl ?_); refine box_event ?hg (N := 4) ?hd (cs := #[.int .i64 0, .int .i64 0]) (t := 62) ?hr ?_; (case hd => rfl); (case hg => rfl); (case hr => first | (go_simp; done) | (go_simp; rfl)); intro gb803 hg w12 hbox hb; have BK803 := Aside0.mk (hbox); have GW803 := kS HB hg; have GE803 := kS HB hg; have NB802_803 := kN BK802 hg; have NB803_802 := kM BK802 hg; replace BK802 := kb BK802 hb; replace HB := kB HB hb; clear hb hbox hg; have hnb13 := NB802_803.out; have hnc13 := NB803_802.out; have hcz14_0 : w12.cell? ⟨gb802, 0, none⟩ = some (.int .i64 a0_0) := kc BK802 0; have hcz14_1 : w12.cell? ⟨gb802, 1, none⟩ = some (.int .i64 a0_1) := kc BK802 1; have hfz14_0 := blk_frozen BK802.out 0; have hfz14_1 := blk_frozen BK802.out 1) | ((with_reducible refine gate_callee (f := 44) rfl ?_); refine gL 7 Try.func44 #[.agg #[.int .i64 a0_0, .int .i64 a0_1], .int .i64 a1] ?_; (with_reducible refine (grid_In.calls a0_0 a0_1 a1 true _ A3.out).mono ?_); rintro e w15 ⟨rfl, hb⟩; refine ⟨_, rfl, ?_⟩; replace BK802 := kb BK802 hb; replace BK803 := kb BK803 hb; replace HB := kB HB hb; (try clear hb); (try clear hb2); (try clear hk); (try clear hi)))
 replace BK802 := Aside0.mk (blk_drew BK802.out); replace BK803 := Aside0.mk (blk_drew BK803.out); replace HB := Aside0.mk (below_drew1 HB.out); refine start_ (n := 12) (S := fun w' => w'.cell? ⟨gb802, 0, none⟩ = some (.int .i64 a0_0) ∧ w'.cell? ⟨gb802, 1, none⟩ = some (.int .i64 a0_1)) (ds := []) #[O, O, O, O, O, O, O, O, O, O, O, O] (by kernel_rfl) rfl rfl ⟨kc BK802 0, kc BK802 1⟩ (fun hHeld => ?_); refine with_tabW grid_Center.tab3 grid_Center.bits3 (fun HT_ HW_ => ?_)
 generalize w15.drew = w16 at BK802 BK803 HB hHeld ⊢
 refine pure_ (i := 0) (N := some 10) (v := ?_) (a' := ?_) #[T, O, O, O, O, O, O, O, O, O, O, O] rfl rfl (any_of HT_.out (by kernel_rfl)) (fun _ _ _ h => h) (Or.inl ⟨by rfl, ?_⟩) ?_ ?_; rotate_left; focus (intro w'; go_simp; with_reducible rfl)
 rotate_left; focus (simp only [Act.put, s1, s2, s3, i64_w, i32_w]; rfl)
 refine pure_ (i := 2) (N := some 12) (v := ?_) (a' := ?_) #[T, O, T, O, O, O, O, O, O, O, O, O] rfl rfl (any_of HT_.out (by kernel_rfl)) (fun _ _ _ h => h) (Or.inl ⟨by rfl, ?_⟩) ?_ ?_; rotate_left; focus (intro w'; go_simp; with_reducible rfl)
 rotate_left; focus (simp only [Act.put, s1, s2, s3, i64_w, i32_w]; rfl)
 refine pure_ (i := 5) (N := some 15) (v := ?_) (a' := ?_) #[T, O, T, O, O, T, O, O, O, O, O, O] rfl rfl (any_of HT_.out (by kernel_rfl)) (fun _ _ _ h => h) (Or.inl ⟨by rfl, ?_⟩) ?_ ?_; rotate_left; focus (intro w'; go_simp; with_reducible rfl)
 rotate_left; focus (simp only [Act.put, s1, s2, s3, i64_w, i32_w]; rfl)
 refine pure_ (i := 7) (N := some 17) (v := ?_) (a' := ?_) #[T, O, T, O, O, T, O, T, O, O, O, O] rfl rfl (any_of HT_.out (by kernel_rfl)) (fun _ _ _ h => h) (Or.inl ⟨by rfl, ?_⟩) ?_ ?_; rotate_left; focus (intro w'; go_simp; with_reducible rfl)
 rotate_left; focus (simp only [Act.put, s1, s2, s3, i64_w, i32_w]; rfl)
 refine take_ (i := 1) (N := some 11) (v := ?_) (a' := ?_) #[T, T, T, O, O, T, O, T, O, O, O, O] rfl rfl (take_ofW HT_.out HW_.out (by kernel_rfl)) (fun _ _ _ h => h) (Or.inl ⟨by rfl, ?_⟩) hHeld ?_ ?_; rotate_left; focus (rintro w' ⟨s0, s1⟩; go_simp; with_reducible rfl)
 rotate_left; focus (simp only [Act.put, s1, s2, s3, i64_w, i32_w]; rfl)
 refine take_ (i := 6) (N := some 16) (v := ?_) (a' := ?_) #[T, T, T, O, O, T, T, T, O, O, O, O] rfl rfl (take_ofW HT_.out HW_.out (by kernel_rfl)) (fun _ _ _ h => h) (Or.inl ⟨by rfl, ?_⟩) hHeld ?_ ?_; rotate_left; focus (rintro w' ⟨s0, s1⟩; go_simp; with_reducible rfl)
 rotate_left; focus (simp only [Act.put, s1, s2, s3, i64_w, i32_w]; rfl)
 refine one_ (i := 3) (N := some 13) #[T, T, T, T, O, T, T, T, O, O, O, O] rfl rfl (one_of HT_.out (by kernel_rfl)) (by decide) (fun K hK => ?_); refine gS Try.func67 #[.int .i64 a1] ?_
 with_reducible refine (grid_rung.calls a1 t805 _ A5.out).mono ?_
 rintro e w17 ⟨rfl, hb⟩; refine ⟨_, rfl, ?_⟩; replace BK802 := kb BK802 hb; replace BK803 := kb BK803 hb; replace HB := kB HB hb
 (try clear hb); (try clear hb2); (try clear hk); (try clear hi)
 refine hK.out _ _ ⟨kc BK802 0, kc BK802 1⟩ (fun hHeld => ?_); clear hK K
 refine norm_ (a' := ?_) ?_ ?_; rotate_left; focus (show Act.put _ (some 13) _ = _; simp only [Act.put, s1, s2, s3, i64_w, i32_w]; rfl)
 refine pure_ (i := 4) (N := some 14) (v := ?_) (a' := ?_) #[T, T, T, T, T, T, T, T, O, O, O, O] rfl rfl (any_of HT_.out (by kernel_rfl)) (fun _ _ _ h => h) (Or.inl ⟨by rfl, ?_⟩) ?_ ?_; rotate_left; focus (intro w'; go_simp; with_reducible rfl)
 rotate_left; focus (simp only [Act.put, s1, s2, s3, i64_w, i32_w]; rfl)
 refine one_ (i := 8) (N := some 18) #[T, T, T, T, T, T, T, T, T, O, O, O] rfl rfl (one_of HT_.out (by kernel_rfl)) (by decide) (fun K hK => ?_); refine gS Try.func67 #[.int .i64 a1] ?_
 with_reducible refine (grid_rung.calls a1 t806 _ A8.out).mono ?_
 rintro e w18 ⟨rfl, hb⟩; refine ⟨_, rfl, ?_⟩; replace BK802 := kb BK802 hb; replace BK803 := kb BK803 hb; replace HB := kB HB hb
 (try clear hb); (try clear hb2); (try clear hk); (try clear hi)
 refine hK.out _ _ ⟨kc BK802 0, kc BK802 1⟩ (fun hHeld => ?_); clear hK K
 refine norm_ (a' := ?_) ?_ ?_; rotate_left; focus (show Act.put _ (some 18) _ = _; simp only [Act.put, s1, s2, s3, i64_w, i32_w]; rfl)
 refine pure_ (i := 9) (N := some 19) (v := ?_) (a' := ?_) #[T, T, T, T, T, T, T, T, T, T, O, O] rfl rfl (any_of HT_.out (by kernel_rfl)) (fun _ _ _ h => h) (Or.inl ⟨by rfl, ?_⟩) ?_ ?_; rotate_left; focus (intro w'; go_simp; with_reducible rfl)
 rotate_left; focus (simp only [Act.put, s1, s2, s3, i64_w, i32_w]; rfl)
 refine pure_ (i := 10) (N := some 20) (v := ?_) (a' := ?_) #[T, T, T, T, T, T, T, T, T, T, T, O] rfl rfl (any_of HT_.out (by kernel_rfl)) (fun _ _ _ h => h) (Or.inl ⟨by rfl, ?_⟩) ?_ ?_; rotate_left; focus (intro w'; go_simp; with_reducible rfl)
 rotate_left; focus (simp only [Act.put, s1, s2, s3, i64_w, i32_w]; rfl)
 refine one_ (i := 11) (N := none) #[T, T, T, T, T, T, T, T, T, T, T, T] rfl rfl (one_of HT_.out (by kernel_rfl)) (by decide) (fun K hK => ?_); have hs19 : w18.cell? ⟨gb803, 0, none⟩ = some (.int .i64 0) := kc BK803 0; have hfs19 := blk_frozen BK803.out 0; have hns19_0 := NB802_803.out; have hms19_0 := NB803_802.out; have hs20 : w18.cell? ⟨gb803, 1, none⟩ = some (.int .i64 0) := kc BK803 1; have hfs20 := blk_frozen BK803.out 1; have hns20_0 := NB802_803.out; have hms20_0 := NB803_802.out; refine skip_ (w1 := ?_) (by rfl) rfl ?_ ?_; rotate_left
 ·go_simp
  rfl
 refine hK.out _ _ ⟨((cell_far (p := ⟨gb803, _, none⟩) NB802_803.out _).trans (((cell_far (p := ⟨gb803, _, none⟩) NB802_803.out _).trans (hHeld.1)))), ((cell_far (p := ⟨gb803, _, none⟩) NB802_803.out _).trans (((cell_far (p := ⟨gb803, _, none⟩) NB802_803.out _).trans (hHeld.2))))⟩ (fun hHeld => ?_); clear hK K; refine done_ (done_of HT_.out (by kernel_rfl)) ?_
 try go_wp2
 refine bodyPost_ret (results_cell_row rfl _ _ gb803 62 #[.int .i64 ji7, .int .i64 ji10] (0, 0) _ rfl (by (with_reducible repeat (first | refine zr ?_ _ | refine zw ?_ | refine za ?_ _)); refine blk_put (cs := #[.int .i64 ji7, .int .i64 0]) ?_ 1 _ rfl; (with_reducible repeat (first | refine zr ?_ _ | refine zw ?_ | refine za ?_ _)); refine blk_put (cs := #[.int .i64 0, .int .i64 0]) ?_ 0 _ rfl; (with_reducible repeat (first | refine zr ?_ _ | refine zw ?_ | refine za ?_ _)); exact BK803.out) Try.underlying62 rfl (by kernel_rfl)) rfl ?_; exact ⟨by first | rfl | (simp [errW_none, errW_some] <;> rfl) | (simp only [← hji7, ← hji10]; first | rfl | (simp [errW_none, errW_some] <;> rfl)) | (simp [*, errW_none, errW_some] <;> rfl), ky HB⟩
/-! ### grid_Sides: function 42 -/
def grid_Sides.f (a0_0 : Int) (a0_1 : Int) (a1 : Int) : Option (Int × Int × Int × Int) := (grid_In.f a0_0 a0_1 a1).bind fun t810 => (if t810 = true then ((grid_Center.f a0_0 a0_1 a1).bind fun bt811 => ((grid_rung.f a1).bind fun t813 => (if 0 ≤ t813 then (some (wrap64 ((wrap64 (2 * bt811.1)) - (shl .i64 1 t813)), wrap64 ((wrap64 (2 * bt811.2)) - (shl .i64 1 t813)), wrap64 ((wrap64 (2 * bt811.1)) + (shl .i64 1 t813)), wrap64 ((wrap64 (2 * bt811.2)) + (shl .i64 1 t813)))) else (none)))) else (some (0, 0, 0, 0)))
def grid_Sides.T3 : Bool × List (List Nat × List Nat) := (true, [([], []), ([], []), ([0, 1], [0, 1]), ([], []), ([3, 2], [3]), ([4], [4]), ([], []), ([6, 2, 4, 0, 1, 2, 6], [2, 6]), ([5, 7, 0, 1, 2, 3, 4, 5, 6, 7], [5])])
def grid_Sides.B3 : List Nat := [0, 0, 3, 0, 15, 31, 0, 95, 255]
theorem grid_Sides.tab3 : rtab .any (opsOf Try.f42 3) = grid_Sides.T3 := by kernel_rfl
theorem grid_Sides.bits3 : waitsOk grid_Sides.T3.2 grid_Sides.B3 = true := by kernel_rfl
def grid_Sides.T4 : Bool × List (List Nat × List Nat) := (true, [([], []), ([0], [0]), ([1], [1]), ([], []), ([2, 3], [2, 3]), ([], []), ([5], [5]), ([6], [6]), ([], []), ([7, 8], [7, 8]), ([4, 9], [4, 9]), ([], []), ([11], [11]), ([12], [12]), ([], []), ([13, 14], [13, 14]), ([], []), ([16], [16]), ([17], [17]), ([], []), ([18, 19], [18, 19]), ([15, 20], [15, 20]), ([10, 0, 1, 2, 3, 4, 5, 6, 7, 8, 9, 10], [10]), ([21, 22, 0, 1, 2, 3, 4, 5, 6, 7, 8, 9, 10, 11, 12, 13, 14, 15, 16, 17, 18, 19, 20, 21, 22], [21])])
def grid_Sides.B4 : List Nat := [0, 1, 3, 0, 15, 0, 32, 96, 0, 480, 1023, 0, 2048, 6144, 0, 30720, 0, 65536, 196608, 0, 983040, 2095104, 2047, 8388607]
theorem grid_Sides.tab4 : rtab .any (opsOf Try.f42 4) = grid_Sides.T4 := by kernel_rfl
theorem grid_Sides.bits4 : waitsOk grid_Sides.T4.2 grid_Sides.B4 = true := by kernel_rfl
set_option maxHeartbeats 8000000 in
set_option maxRecDepth 100000 in
theorem grid_Sides.calls (a0_0 : Int) (a0_1 : Int) (a1 : Int) (r1 : Int) (r2 : Int) (r3 : Int) (r4 : Int) (w : World) (h : grid_Sides.f a0_0 a0_1 a1 = some (r1, r2, r3, r4)) :
  Calls Try.prog 42 #[.agg #[.int .i64 a0_0, .int .i64 a0_1], .int .i64 a1] w fun e w' => e = .returned (.tuple #[.agg #[.int .i64 r1, .int .i64 r2], .agg #[.int .i64 r3, .int .i64 r4]]) ∧ Below w.heap.size w w' := by
 have hu60 := Try.underlying60; have hu62 := Try.underlying62; have HB := Aside0.mk (Below.refl w.heap.size w); have H : ((grid_In.f a0_0 a0_1 a1).bind fun t810 => (if t810 = true then ((grid_Center.f a0_0 a0_1 a1).bind fun bt811 => ((grid_rung.f a1).bind fun t813 => (if 0 ≤ t813 then (some (wrap64 ((wrap64 (2 * bt811.1)) - (shl .i64 1 t813)), wrap64 ((wrap64 (2 * bt811.2)) - (shl .i64 1 t813)), wrap64 ((wrap64 (2 * bt811.1)) + (shl .i64 1 t813)), wrap64 ((wrap64 (2 * bt811.2)) + (shl .i64 1 t813)))) else (none)))) else (some (0, 0, 0, 0)))) = some (r1, r2, r3, r4) := h; clear h; replace H := Option.bind_eq_some_iff.mp H; obtain ⟨t810, A30, H⟩ := H; (try dsimp only at H); have A3 := Aside0.mk A30; clear A30
 by_cases c4 : t810 = true
 rotate_left
 ·replace c4 := Bool.eq_false_iff.mpr c4; subst c4
  rw [if_neg (show ¬ (false = true) by decide)] at H
  simp only [Option.some.injEq, Prod.mk.injEq] at H
  obtain ⟨rfl, rfl, rfl, rfl⟩ := H
  go_enter Try.func42, Try.ntmps42
  go_wp2_with (first | ((with_reducible refine gate_dst (N := 2) rfl ?_); refine box_event ?hg (N := 2) ?hd (cs := #[.int .i64 a0_0, .int .i64 a0_1]) (t := 60) ?hr ?_; (case hd => rfl); (case hg => rfl); (case hr => first | (go_simp; done) | (go_simp; rfl)); intro gb807 hg w29 hbox hb; have BK807 := Aside0.mk (hbox); have GW807 := kS HB hg; have GE807 := kS HB hg; replace HB := kB HB hb; clear hb hbox hg) | ((with_reducible refine gate_dst (N := 4) rfl ?_); refine box_event ?hg (N := 4) ?hd (cs := #[.int .i64 0, .int .i64 0]) (t := 62) ?hr ?_; (case hd => rfl); (case hg => rfl); (case hr => first | (go_simp; done) | (go_simp; rfl)); intro gb808 hg w30 hbox hb; have BK808 := Aside0.mk (hbox); have GW808 := kS HB hg; have GE808 := kS HB hg; have NB807_808 := kN BK807 hg; have NB808_807 := kM BK807 hg; replace BK807 := kb BK807 hb; replace HB := kB HB hb; clear hb hbox hg) | ((with_reducible refine gate_dst (N := 5) rfl ?_); refine box_event ?hg (N := 5) ?hd (cs := #[.int .i64 0, .int .i64 0]) (t := 62) ?hr ?_; (case hd => rfl); (case hg => rfl); (case hr => first | (go_simp; done) | (go_simp; rfl)); intro gb809 hg w31 hbox hb; have BK809 := Aside0.mk (hbox); have GW809 := kS HB hg; have GE809 := kS HB hg; have NB807_809 := kN BK807 hg; have NB809_807 := kM BK807 hg; have NB808_809 := kN BK808 hg; have NB809_808 := kM BK808 hg; replace BK807 := kb BK807 hb; replace BK808 := kb BK808 hb; replace HB := kB HB hb; clear hb hbox hg; have hnb32 := NB807_808.out; have hnc32 := NB808_807.out; have hnb33 := NB807_809.out; have hnc33 := NB809_807.out; have hcz34_0 : w31.cell? ⟨gb807, 0, none⟩ = some (.int .i64 a0_0) := kc BK807 0; have hcz34_1 : w31.cell? ⟨gb807, 1, none⟩ = some (.int .i64 a0_1) := kc BK807 1; have hfz34_0 := blk_frozen BK807.out 0; have hfz34_1 := blk_frozen BK807.out 1) | ((with_reducible refine gate_callee (f := 44) rfl ?_); refine gL 10 Try.func44 #[.agg #[.int .i64 a0_0, .int .i64 a0_1], .int .i64 a1] ?_; (with_reducible refine (grid_In.calls a0_0 a0_1 a1 false _ A3.out).mono ?_); rintro e w35 ⟨rfl, hb⟩; refine ⟨_, rfl, ?_⟩; replace BK807 := kb BK807 hb; replace BK808 := kb BK808 hb; replace BK809 := kb BK809 hb; replace HB := kB HB hb; (try clear hb); (try clear hb2); (try clear hk); (try clear hi); have hnb36 := NB808_809.out; have hnc36 := NB809_808.out; have hcz37_0 : w35.cell? ⟨gb808, 0, none⟩ = some (.int .i64 0) := kc BK808 0; have hcz37_1 : w35.cell? ⟨gb808, 1, none⟩ = some (.int .i64 0) := kc BK808 1; have hfz37_0 := blk_frozen BK808.out 0; have hfz37_1 := blk_frozen BK808.out 1; have hcz38_0 : w35.cell? ⟨gb809, 0, none⟩ = some (.int .i64 0) := kc BK809 0; have hcz38_1 : w35.cell? ⟨gb809, 1, none⟩ = some (.int .i64 0) := kc BK809 1; have hfz38_0 := blk_frozen BK809.out 0; have hfz38_1 := blk_frozen BK809.out 1))
  refine bodyPost_ret (results_cc rfl _ _ gb808 gb809 62 62 #[.int .i64 0, .int .i64 0] #[.int .i64 0, .int .i64 0] (0, 0) (0, 0) _ _ rfl (by (with_reducible repeat (first | refine zr ?_ _ | refine zw ?_ | refine za ?_ _)); refine blk_far ?_ NB808_809.out _; (with_reducible repeat (first | refine zr ?_ _ | refine zw ?_ | refine za ?_ _)); refine blk_far ?_ NB808_809.out _; (with_reducible repeat (first | refine zr ?_ _ | refine zw ?_ | refine za ?_ _)); refine blk_put (cs := #[.int .i64 0, .int .i64 0]) ?_ 1 _ rfl; (with_reducible repeat (first | refine zr ?_ _ | refine zw ?_ | refine za ?_ _)); refine blk_put (cs := #[.int .i64 0, .int .i64 0]) ?_ 0 _ rfl; (with_reducible repeat (first | refine zr ?_ _ | refine zw ?_ | refine za ?_ _)); exact BK808.out) Try.underlying62 rfl (by kernel_rfl) rfl (by (with_reducible repeat (first | refine zr ?_ _ | refine zw ?_ | refine za ?_ _)); refine blk_put (cs := #[.int .i64 0, .int .i64 0]) ?_ 1 _ rfl; (with_reducible repeat (first | refine zr ?_ _ | refine zw ?_ | refine za ?_ _)); refine blk_put (cs := #[.int .i64 0, .int .i64 0]) ?_ 0 _ rfl; (with_reducible repeat (first | refine zr ?_ _ | refine zw ?_ | refine za ?_ _)); refine blk_far ?_ NB809_808.out _; (with_reducible repeat (first | refine zr ?_ _ | refine zw ?_ | refine za ?_ _)); refine blk_far ?_ NB809_808.out _; (with_reducible repeat (first | refine zr ?_ _ | refine zw ?_ | refine za ?_ _)); exact BK809.out) Try.underlying62 rfl (by kernel_rfl)) rfl ?_; exact ⟨by first | rfl | (simp [errW_none, errW_some] <;> rfl) | (simp [*, errW_none, errW_some] <;> rfl), ky HB⟩

 subst c4
 rw [if_pos rfl] at H; replace H := Option.bind_eq_some_iff.mp H; obtain ⟨⟨t811, t812⟩, A50, H⟩ := H; (try dsimp only at H); have A5 := Aside0.mk A50; clear A50; replace H := Option.bind_eq_some_iff.mp H; obtain ⟨t813, A60, H⟩ := H; (try dsimp only at H); have A6 := Aside0.mk A60; clear A60
 by_cases c7 : 0 ≤ t813
 rotate_left
 ·rw [if_neg c7] at H
  exact absurd H (by simp)
 rw [if_pos c7] at H
 have c7b0 := eq_true c7; have c7b1 : decide (0 ≤ t813) = true := decide_eq_true c7; clear c7; obtain ⟨ji8, hji8⟩ : ∃ j_ : Int, (shl .i64 1 t813) = j_ := ⟨_, rfl⟩
 replace H : (some (wrap64 ((wrap64 (2 * t811)) - (ji8)), wrap64 ((wrap64 (2 * t812)) - (ji8)), wrap64 ((wrap64 (2 * t811)) + (ji8)), wrap64 ((wrap64 (2 * t812)) + (ji8)))) = some (r1, r2, r3, r4) := by first | (rw [hji8] at H; exact H) | (simp only [hji8] at H ⊢; exact H)
 (try rw [hji8] at A3)
 (try rw [hji8] at A5)
 (try rw [hji8] at A6)
 have hji8_ : (IntKind.i64.wrap (1 * 2 ^ min t813.toNat 64)) = ji8 := hji8; have hji8z : t813 ≤ 64 → (IntKind.i64.wrap (1 * 2 ^ t813.toNat)) = ji8 := shl_small hji8
 have hji8u : (IntKind.i64.wrap (2 ^ min t813.toNat 64)) = ji8 := by have h_ := hji8_; rw [Int.one_mul] at h_; exact h_
 have hji8v : t813 ≤ 64 → (IntKind.i64.wrap (2 ^ t813.toNat)) = ji8 := fun hle_ => by have h_ := hji8z hle_; rw [Int.one_mul] at h_; exact h_
 have hji8y : (wrap64 (1 * 2 ^ min t813.toNat 64)) = ji8 := (i64_w _).symm.trans hji8_
 have hji8x : t813 ≤ 64 → (wrap64 (1 * 2 ^ t813.toNat)) = ji8 := fun h_ => (i64_w _).symm.trans (hji8z h_)
 simp only [Option.some.injEq, Prod.mk.injEq] at H
 obtain ⟨rfl, rfl, rfl, rfl⟩ := H
 go_enter Try.func42, Try.ntmps42
 try go_wp2_with (first | ((with_reducible refine gate_dst (N := 2) rfl ?_); refine box_event ?hg (N := 2) ?hd (cs := #[.int .i64 a0_0, .int .i64 a0_1]) (t := 60) ?hr ?_; (case hd => rfl); (case hg => rfl); (case hr => first | (go_simp; done) | (go_simp; rfl)); intro gb807 hg w9 hbox hb; have BK807 := Aside0.mk (hbox); have GW807 := kS HB hg; have GE807 := kS HB hg; replace HB := kB HB hb; clear hb hbox hg) | ((with_reducible refine gate_dst (N := 4) rfl ?_); refine box_event ?hg (N := 4) ?hd (cs := #[.int .i64 0, .int .i64 0]) (t := 62) ?hr ?_; (case hd => rfl); (case hg => rfl); (case hr => first | (go_simp; done) | (go_simp; rfl)); intro gb808 hg w10 hbox hb; have BK808 := Aside0.mk (hbox); have GW808 := kS HB hg; have GE808 := kS HB hg; have NB807_808 := kN BK807 hg; have NB808_807 := kM BK807 hg; replace BK807 := kb BK807 hb; replace HB := kB HB hb; clear hb hbox hg) | ((with_reducible refine gate_dst (N := 5) rfl ?_); refine box_event ?hg (N := 5) ?hd (cs := #[.int .i64 0, .int .i64 0]) (t := 62) ?hr ?_; (case hd => rfl); (case hg => rfl); (case hr => first | (go_simp; done) | (go_simp; rfl)); intro gb809 hg w11 hbox hb; have BK809 := Aside0.mk (hbox); have GW809 := kS HB hg; have GE809 := kS HB hg; have NB807_809 := kN BK807 hg; have NB809_807 := kM BK807 hg; have NB808_809 := kN BK808 hg; have NB809_808 := kM BK808 hg; replace BK807 := kb BK807 hb; replace BK808 := kb BK808 hb; replace HB := kB HB hb; clear hb hbox hg; have hnb12 := NB807_808.out; have hnc12 := NB808_807.out; have hnb13 := NB807_809.out; have hnc13 := NB809_807.out; have hcz14_0 : w11.cell? ⟨gb807, 0, none⟩ = some (.int .i64 a0_0) := kc BK807 0; have hcz14_1 : w11.cell? ⟨gb807, 1, none⟩ = some (.int .i64 a0_1) := kc BK807 1; have hfz14_0 := blk_frozen BK807.out 0; have hfz14_1 := blk_frozen BK807.out 1) | ((with_reducible refine gate_callee (f := 44) rfl ?_); refine gL 10 Try.func44 #[.agg #[.int .i64 a0_0, .int .i64 a0_1], .int .i64 a1] ?_; (with_reducible refine (grid_In.calls a0_0 a0_1 a1 true _ A3.out).mono ?_); rintro e w15 ⟨rfl, hb⟩; refine ⟨_, rfl, ?_⟩; replace BK807 := kb BK807 hb; replace BK808 := kb BK808 hb; replace BK809 := kb BK809 hb; replace HB := kB HB hb; (try clear hb); (try clear hb2); (try clear hk); (try clear hi)))
 replace BK807 := Aside0.mk (blk_drew BK807.out); replace BK808 := Aside0.mk (blk_drew BK808.out); replace BK809 := Aside0.mk (blk_drew BK809.out); replace HB := Aside0.mk (below_drew1 HB.out); refine start_ (n := 9) (S := fun w' => w'.cell? ⟨gb807, 0, none⟩ = some (.int .i64 a0_0) ∧ w'.cell? ⟨gb807, 1, none⟩ = some (.int .i64 a0_1)) (ds := []) #[O, O, O, O, O, O, O, O, O] (by kernel_rfl) rfl rfl ⟨kc BK807 0, kc BK807 1⟩ (fun hHeld => ?_); refine with_tabW grid_Sides.tab3 grid_Sides.bits3 (fun HT_ HW_ => ?_)
 generalize w15.drew = w16 at BK807 BK808 BK809 HB hHeld ⊢
 refine pure_ (i := 1) (N := some 15) (v := ?_) (a' := ?_) #[O, T, O, O, O, O, O, O, O] rfl rfl (any_of HT_.out (by kernel_rfl)) (fun _ _ _ h => h) (Or.inl ⟨by rfl, ?_⟩) ?_ ?_; rotate_left; focus (intro w'; go_simp; with_reducible rfl)
 rotate_left; focus (simp only [Act.put, s1, s2, s3, i64_w, i32_w]; rfl)
 refine pure_ (i := 3) (N := some 17) (v := ?_) (a' := ?_) #[O, T, O, T, O, O, O, O, O] rfl rfl (any_of HT_.out (by kernel_rfl)) (fun _ _ _ h => h) (Or.inl ⟨by rfl, ?_⟩) ?_ ?_; rotate_left; focus (intro w'; go_simp; with_reducible rfl)
 rotate_left; focus (simp only [Act.put, s1, s2, s3, i64_w, i32_w]; rfl)
 refine take_ (i := 0) (N := some 14) (v := ?_) (a' := ?_) #[T, T, O, T, O, O, O, O, O] rfl rfl (take_ofW HT_.out HW_.out (by kernel_rfl)) (fun _ _ _ h => h) (Or.inl ⟨by rfl, ?_⟩) hHeld ?_ ?_; rotate_left; focus (rintro w' ⟨s0, s1⟩; go_simp; with_reducible rfl)
 rotate_left; focus (simp only [Act.put, s1, s2, s3, i64_w, i32_w]; rfl)
 refine join_ (σ := Nat) 2 #[T, T, T, T, T, T, T, O, O] (fun s_ => [(16, .agg #[.int .i64 t811, .int .i64 t812]), (18, .int .i64 t813), (6, .pointer (some ⟨s_, 0, none⟩)), (19, .int .i64 ji8)]) (fun s_ w' => (w'.cell? ⟨gb807, 0, none⟩ = some (.int .i64 a0_0) ∧ w'.cell? ⟨gb807, 1, none⟩ = some (.int .i64 a0_1)) ∧ (w'.heap[gb807]? = some (.cells #[.int .i64 a0_0, .int .i64 a0_1] 60 (0, 0))) ∧ (w'.heap[gb808]? = some (.cells #[.int .i64 0, .int .i64 0] 62 (0, 0))) ∧ (w'.heap[gb809]? = some (.cells #[.int .i64 0, .int .i64 0] 62 (0, 0))) ∧ (w'.heap[s_]? = some (.cells #[.int .i64 0, .int .i64 0] 62 (0, 0))) ∧ (w.heap.size ≤ s_) ∧ (w.heap.size ≤ s_) ∧ (gb807 ≠ s_) ∧ (s_ ≠ gb807) ∧ (gb808 ≠ s_) ∧ (s_ ≠ gb808) ∧ (gb809 ≠ s_) ∧ (s_ ≠ gb809) ∧ (Below w.heap.size w w')) ?_ ?_; rotate_left
 ·intro hJ
  refine web_ #[T, T, T, T, T, T, T, O, O] [⟨2, 16, [], [], E0 [.agg #[.int .i64 t811, .int .i64 t812]]⟩, ⟨4, 18, [(5, 19)], [], E0 [.int .i64 t813, .int .i64 ji8]⟩, ⟨6, 6, [], [], EB 6 #[.int .i64 0, .int .i64 0] 62⟩] 2 (by kernel_rfl) rfl (fun _ t _ _ _ h => by cases t <;> exact h) hHeld (fun _ _ h hb => ⟨cB h.1 hb, cB h.2 hb⟩) (And.intro (oE0 _) (And.intro (oE0 _) (And.intro (oEB _ _) trivial))) (And.intro ?_ (And.intro ?_ (And.intro ?_ trivial))) ?_
  ·intro x wa lo hi a hb0 hS ha hd; clear hd
   simp only [stA, slots, Ev.sl, vca, vna, zc, zn, putAll, Act.put, s1, s2, s3] at ha; subst ha; refine ⟨_, rfl, fun K hK => ?_⟩
   refine gS Try.func41 #[.agg #[.int .i64 a0_0, .int .i64 a0_1], .int .i64 a1] ?_
   with_reducible refine (grid_Center.calls a0_0 a0_1 a1 t811 t812 _ A5.out).mono ?_
   rintro e wb ⟨rfl, hb⟩; refine ⟨_, rfl, hK _ [] _ hb rfl trivial⟩
  ·intro x wa lo hi a hb0 hS ha hd; clear hd
   simp only [stA, slots, Ev.sl, vca, vna, zc, zn, putAll, Act.put, s1, s2, s3] at ha; subst ha; refine ⟨_, rfl, fun K hK => ?_⟩
   refine gS Try.func67 #[.int .i64 a1] ?_
   with_reducible refine (grid_rung.calls a1 t813 _ A6.out).mono ?_
   rintro e wb ⟨rfl, hb⟩; refine ⟨_, rfl, hK _ [.int .i64 ji8] _ hb rfl ?_⟩
   refine ⟨⟨_, rfl, ?_⟩, ?_⟩
   ·simp only [Act.put, s1, s2, s3]; exact Or.inl ⟨by rfl, fun w' => by first | (go_simp; done) | (go_simp; with_reducible rfl)⟩
   exact trivial
  ·intro x wa lo hi a hb0 hS ha hd; refine ⟨_, rfl, fun K hK => ?_⟩; refine box_step ?hg (N := 6) ?hd (cs := #[.int .i64 0, .int .i64 0]) (t := 62) ?hr ?_; (case hd => rfl); (case hg => rfl); (case hr => first | (go_simp; done) | (go_simp; rfl)); intro g hg wb hbox hb; exact hK _ [] _ hb ⟨g, rfl, hbox, Nat.le_of_eq hg.symm, blk_lt hbox⟩ trivial
  ·rintro x wb lo hi hb0 hS ⟨⟨e2, r2⟩, ⟨e4, r4⟩, ⟨⟨gb6_, e6, K6, q6a, q6b⟩, r6⟩, _⟩ ⟨⟨p2_4, p2_6, _⟩, ⟨p4_6, _⟩, _⟩
   simp only [E0, Ev.ix, zc, zn, List.cons.injEq, and_true] at e2 e4 e6
   dsimp only at r2 r4 r6 p2_4 p2_6 p4_6
   have zb := below_size HB.out; have zBK807 := blk_lt BK807.out; have zBK808 := blk_lt BK808.out; have zBK809 := blk_lt BK809.out
   refine norm_ (by simp only [stA, slots, Ev.sl, vca, vna, zc, zn, putAll, Act.put, s1, s2, s3, e2, e4, e6]) (hJ gb6_ _ ?_); (try dsimp only); exact ⟨hS, (kb BK807 hb0).out, (kb BK808 hb0).out, (kb BK809 hb0).out, K6, by omega, by omega, by omega, by omega, by omega, by omega, by omega, by omega, (kB HB hb0).out⟩
 rintro gb814 w20 ⟨hS_, h0_, h1_, h2_, h3_, h4_, h5_, h6_, h7_, h8_, h9_, h10_, h11_, h12_⟩; clear BK807 BK808 BK809 HB; have BK807 := A0 h0_; have BK808 := A0 h1_; have BK809 := A0 h2_; have BK814 := A0 h3_; have GW814 := A0 h4_; have GE814 := A0 h5_; have NB807_814 := A0 h6_; have NB814_807 := A0 h7_; have NB808_814 := A0 h8_; have NB814_808 := A0 h9_; have NB809_814 := A0 h10_; have NB814_809 := A0 h11_; have HB := A0 h12_; clear h0_ h1_ h2_ h3_ h4_ h5_ h6_ h7_ h8_ h9_ h10_ h11_ h12_; have hHeld := hS_
 refine norm_ (a' := ?_) ?_ ?_; rotate_left; focus (simp only [putAll, Act.put, s1, s2, s3]; rfl)
 refine one_ (i := 7) (N := none) #[T, T, T, T, T, T, T, T, O] rfl rfl (one_of HT_.out (by kernel_rfl)) (by decide) (fun K hK => ?_); have hs21 : w20.cell? ⟨gb814, 0, none⟩ = some (.int .i64 0) := kc BK814 0; have hfs21 := blk_frozen BK814.out 0; have hns21_0 := NB807_814.out; have hns21_1 := NB808_814.out; have hns21_2 := NB809_814.out; have hms21_0 := NB814_807.out; have hms21_1 := NB814_808.out; have hms21_2 := NB814_809.out; have hs22 : w20.cell? ⟨gb814, 1, none⟩ = some (.int .i64 0) := kc BK814 1; have hfs22 := blk_frozen BK814.out 1; have hns22_0 := NB807_814.out; have hns22_1 := NB808_814.out; have hns22_2 := NB809_814.out; have hms22_0 := NB814_807.out; have hms22_1 := NB814_808.out; have hms22_2 := NB814_809.out; refine skip_ (w1 := ?_) (by rfl) rfl ?_ ?_; rotate_left
 ·go_simp
  rfl
 refine hK.out _ _ ⟨((cell_far (p := ⟨gb814, _, none⟩) NB807_814.out _).trans (((cell_far (p := ⟨gb814, _, none⟩) NB807_814.out _).trans (hHeld.1)))), ((cell_far (p := ⟨gb814, _, none⟩) NB807_814.out _).trans (((cell_far (p := ⟨gb814, _, none⟩) NB807_814.out _).trans (hHeld.2))))⟩ (fun hHeld => ?_); clear hK K
 refine pure_ (i := 8) (N := some 7) (v := ?_) (a' := ?_) #[T, T, T, T, T, T, T, T, T] rfl rfl (any_of HT_.out (by kernel_rfl)) (fun _ _ _ h => h) (Or.inl ⟨by rfl, ?_⟩) ?_ ?_; rotate_left; focus (intro w'; go_simp; with_reducible rfl)
 rotate_left; focus (simp only [Act.put, s1, s2, s3, i64_w, i32_w]; rfl)
 refine done_ (done_of HT_.out (by kernel_rfl)) ?_
 try go_wp2
 have n0_ : Aside0 (((w20.setCell ⟨gb814, 0, none⟩ (.int .i64 t811)).setCell ⟨gb814, 1, none⟩ (.int .i64 t812)).heap[gb807]? = some (.cells #[.int .i64 a0_0, .int .i64 a0_1] 60 (0, 0))) := ⟨kx BK807⟩; have n1_ : Aside0 (((w20.setCell ⟨gb814, 0, none⟩ (.int .i64 t811)).setCell ⟨gb814, 1, none⟩ (.int .i64 t812)).heap[gb808]? = some (.cells #[.int .i64 0, .int .i64 0] 62 (0, 0))) := ⟨kx BK808⟩; have n2_ : Aside0 (((w20.setCell ⟨gb814, 0, none⟩ (.int .i64 t811)).setCell ⟨gb814, 1, none⟩ (.int .i64 t812)).heap[gb809]? = some (.cells #[.int .i64 0, .int .i64 0] 62 (0, 0))) := ⟨kx BK809⟩; have n3_ : Aside0 (((w20.setCell ⟨gb814, 0, none⟩ (.int .i64 t811)).setCell ⟨gb814, 1, none⟩ (.int .i64 t812)).heap[gb814]? = some (.cells #[.int .i64 t811, .int .i64 t812] 62 (0, 0))) := ⟨by (with_reducible repeat (first | refine zr ?_ _ | refine zw ?_ | refine za ?_ _)); refine blk_put (cs := #[.int .i64 t811, .int .i64 0]) ?_ 1 _ rfl; (with_reducible repeat (first | refine zr ?_ _ | refine zw ?_ | refine za ?_ _)); refine blk_put (cs := #[.int .i64 0, .int .i64 0]) ?_ 0 _ rfl; (with_reducible repeat (first | refine zr ?_ _ | refine zw ?_ | refine za ?_ _)); exact BK814.out⟩; have n4_ : Aside0 (Below w.heap.size w ((w20.setCell ⟨gb814, 0, none⟩ (.int .i64 t811)).setCell ⟨gb814, 1, none⟩ (.int .i64 t812))) := ⟨ky HB⟩
 (try clear BK807); (try clear BK808); (try clear BK809); (try clear BK814); (try clear HB)
 generalize ((w20.setCell ⟨gb814, 0, none⟩ (.int .i64 t811)).setCell ⟨gb814, 1, none⟩ (.int .i64 t812)) = w23 at n0_ n1_ n2_ n3_ n4_ ⊢
 have BK807 := n0_; have BK808 := n1_; have BK809 := n2_; have BK814 := n3_; have HB := n4_; clear n0_ n1_ n2_ n3_ n4_; replace BK807 := Aside0.mk (blk_drew BK807.out); replace BK808 := Aside0.mk (blk_drew BK808.out); replace BK809 := Aside0.mk (blk_drew BK809.out); replace BK814 := Aside0.mk (blk_drew BK814.out); replace HB := Aside0.mk (below_drew1 HB.out); refine start_ (n := 24) (S := fun w' => w'.cell? ⟨gb814, 0, none⟩ = some (.int .i64 t811) ∧ w'.cell? ⟨gb814, 1, none⟩ = some (.int .i64 t812)) (ds := []) #[O, O, O, O, O, O, O, O, O, O, O, O, O, O, O, O, O, O, O, O, O, O, O, O] (by kernel_rfl) rfl rfl ⟨kc BK814 0, kc BK814 1⟩ (fun hHeld => ?_); refine with_tabW grid_Sides.tab4 grid_Sides.bits4 (fun HT_ HW_ => ?_)
 generalize w23.drew = w24 at BK807 BK808 BK809 BK814 HB hHeld ⊢
 refine pure_ (i := 0) (N := some 20) (v := ?_) (a' := ?_) #[T, O, O, O, O, O, O, O, O, O, O, O, O, O, O, O, O, O, O, O, O, O, O, O] rfl rfl (any_of HT_.out (by kernel_rfl)) (fun _ _ _ h => h) (Or.inl ⟨by rfl, ?_⟩) ?_ ?_; rotate_left; focus (intro w'; go_simp; with_reducible rfl)
 rotate_left; focus (simp only [Act.put, s1, s2, s3, i64_w, i32_w]; rfl)
 refine pure_ (i := 3) (N := some 23) (v := ?_) (a' := ?_) #[T, O, O, T, O, O, O, O, O, O, O, O, O, O, O, O, O, O, O, O, O, O, O, O] rfl rfl (any_of HT_.out (by kernel_rfl)) (fun _ _ _ h => h) (Or.inl ⟨by rfl, ?_⟩) ?_ ?_; rotate_left; focus (intro w'; go_simp; with_reducible rfl)
 rotate_left; focus (simp only [Act.put, s1, s2, s3, i64_w, i32_w]; rfl)
 refine pure_ (i := 5) (N := some 25) (v := ?_) (a' := ?_) #[T, O, O, T, O, T, O, O, O, O, O, O, O, O, O, O, O, O, O, O, O, O, O, O] rfl rfl (any_of HT_.out (by kernel_rfl)) (fun _ _ _ h => h) (Or.inl ⟨by rfl, ?_⟩) ?_ ?_; rotate_left; focus (intro w'; go_simp; with_reducible rfl)
 rotate_left; focus (simp only [Act.put, s1, s2, s3, i64_w, i32_w]; rfl)
 refine pure_ (i := 8) (N := some 28) (v := ?_) (a' := ?_) #[T, O, O, T, O, T, O, O, T, O, O, O, O, O, O, O, O, O, O, O, O, O, O, O] rfl rfl (any_of HT_.out (by kernel_rfl)) (fun _ _ _ h => h) (Or.inl ⟨by rfl, ?_⟩) ?_ ?_; rotate_left; focus (intro w'; go_simp; with_reducible rfl)
 rotate_left; focus (simp only [Act.put, s1, s2, s3, i64_w, i32_w]; rfl)
 refine pure_ (i := 11) (N := some 31) (v := ?_) (a' := ?_) #[T, O, O, T, O, T, O, O, T, O, O, T, O, O, O, O, O, O, O, O, O, O, O, O] rfl rfl (any_of HT_.out (by kernel_rfl)) (fun _ _ _ h => h) (Or.inl ⟨by rfl, ?_⟩) ?_ ?_; rotate_left; focus (intro w'; go_simp; with_reducible rfl)
 rotate_left; focus (simp only [Act.put, s1, s2, s3, i64_w, i32_w]; rfl)
 refine pure_ (i := 14) (N := some 34) (v := ?_) (a' := ?_) #[T, O, O, T, O, T, O, O, T, O, O, T, O, O, T, O, O, O, O, O, O, O, O, O] rfl rfl (any_of HT_.out (by kernel_rfl)) (fun _ _ _ h => h) (Or.inl ⟨by rfl, ?_⟩) ?_ ?_; rotate_left; focus (intro w'; go_simp; with_reducible rfl)
 rotate_left; focus (simp only [Act.put, s1, s2, s3, i64_w, i32_w]; rfl)
 refine pure_ (i := 16) (N := some 36) (v := ?_) (a' := ?_) #[T, O, O, T, O, T, O, O, T, O, O, T, O, O, T, O, T, O, O, O, O, O, O, O] rfl rfl (any_of HT_.out (by kernel_rfl)) (fun _ _ _ h => h) (Or.inl ⟨by rfl, ?_⟩) ?_ ?_; rotate_left; focus (intro w'; go_simp; with_reducible rfl)
 rotate_left; focus (simp only [Act.put, s1, s2, s3, i64_w, i32_w]; rfl)
 refine pure_ (i := 19) (N := some 39) (v := ?_) (a' := ?_) #[T, O, O, T, O, T, O, O, T, O, O, T, O, O, T, O, T, O, O, T, O, O, O, O] rfl rfl (any_of HT_.out (by kernel_rfl)) (fun _ _ _ h => h) (Or.inl ⟨by rfl, ?_⟩) ?_ ?_; rotate_left; focus (intro w'; go_simp; with_reducible rfl)
 rotate_left; focus (simp only [Act.put, s1, s2, s3, i64_w, i32_w]; rfl)
 refine take_ (i := 1) (N := some 21) (v := ?_) (a' := ?_) #[T, T, O, T, O, T, O, O, T, O, O, T, O, O, T, O, T, O, O, T, O, O, O, O] rfl rfl (take_ofW HT_.out HW_.out (by kernel_rfl)) (fun _ _ _ h => h) (Or.inl ⟨by rfl, ?_⟩) hHeld ?_ ?_; rotate_left; focus (rintro w' ⟨s0, s1⟩; go_simp; with_reducible rfl)
 rotate_left; focus (simp only [Act.put, s1, s2, s3, i64_w, i32_w]; rfl)
 refine pure_ (i := 2) (N := some 22) (v := ?_) (a' := ?_) #[T, T, T, T, O, T, O, O, T, O, O, T, O, O, T, O, T, O, O, T, O, O, O, O] rfl rfl (any_of HT_.out (by kernel_rfl)) (fun _ _ _ h => h) (Or.inl ⟨by rfl, ?_⟩) ?_ ?_; rotate_left; focus (intro w'; go_simp; with_reducible rfl)
 rotate_left; focus (simp only [Act.put, s1, s2, s3, i64_w, i32_w]; rfl)
 refine pure_ (i := 4) (N := some 24) (v := ?_) (a' := ?_) #[T, T, T, T, T, T, O, O, T, O, O, T, O, O, T, O, T, O, O, T, O, O, O, O] rfl rfl (any_of HT_.out (by kernel_rfl)) (fun _ _ _ h => h) (Or.inl ⟨by rfl, ?_⟩) ?_ ?_; rotate_left; focus (intro w'; go_simp; with_reducible rfl)
 rotate_left; focus (simp only [Act.put, s1, s2, s3, i64_w, i32_w]; rfl)
 refine take_ (i := 6) (N := some 26) (v := ?_) (a' := ?_) #[T, T, T, T, T, T, T, O, T, O, O, T, O, O, T, O, T, O, O, T, O, O, O, O] rfl rfl (take_ofW HT_.out HW_.out (by kernel_rfl)) (fun _ _ _ h => h) (Or.inl ⟨by rfl, ?_⟩) hHeld ?_ ?_; rotate_left; focus (rintro w' ⟨s0, s1⟩; go_simp; with_reducible rfl)
 rotate_left; focus (simp only [Act.put, s1, s2, s3, i64_w, i32_w]; rfl)
 refine pure_ (i := 7) (N := some 27) (v := ?_) (a' := ?_) #[T, T, T, T, T, T, T, T, T, O, O, T, O, O, T, O, T, O, O, T, O, O, O, O] rfl rfl (any_of HT_.out (by kernel_rfl)) (fun _ _ _ h => h) (Or.inl ⟨by rfl, ?_⟩) ?_ ?_; rotate_left; focus (intro w'; go_simp; with_reducible rfl)
 rotate_left; focus (simp only [Act.put, s1, s2, s3, i64_w, i32_w]; rfl)
 refine pure_ (i := 9) (N := some 29) (v := ?_) (a' := ?_) #[T, T, T, T, T, T, T, T, T, T, O, T, O, O, T, O, T, O, O, T, O, O, O, O] rfl rfl (any_of HT_.out (by kernel_rfl)) (fun _ _ _ h => h) (Or.inl ⟨by rfl, ?_⟩) ?_ ?_; rotate_left; focus (intro w'; go_simp; with_reducible rfl)
 rotate_left; focus (simp only [Act.put, s1, s2, s3, i64_w, i32_w]; rfl)
 refine pure_ (i := 10) (N := some 30) (v := ?_) (a' := ?_) #[T, T, T, T, T, T, T, T, T, T, T, T, O, O, T, O, T, O, O, T, O, O, O, O] rfl rfl (any_of HT_.out (by kernel_rfl)) (fun _ _ _ h => h) (Or.inl ⟨by rfl, ?_⟩) ?_ ?_; rotate_left; focus (intro w'; go_simp; with_reducible rfl)
 rotate_left; focus (simp only [Act.put, s1, s2, s3, i64_w, i32_w]; rfl)
 refine take_ (i := 12) (N := some 32) (v := ?_) (a' := ?_) #[T, T, T, T, T, T, T, T, T, T, T, T, T, O, T, O, T, O, O, T, O, O, O, O] rfl rfl (take_ofW HT_.out HW_.out (by kernel_rfl)) (fun _ _ _ h => h) (Or.inl ⟨by rfl, ?_⟩) hHeld ?_ ?_; rotate_left; focus (rintro w' ⟨s0, s1⟩; go_simp; with_reducible rfl)
 rotate_left; focus (simp only [Act.put, s1, s2, s3, i64_w, i32_w]; rfl)
 refine pure_ (i := 13) (N := some 33) (v := ?_) (a' := ?_) #[T, T, T, T, T, T, T, T, T, T, T, T, T, T, T, O, T, O, O, T, O, O, O, O] rfl rfl (any_of HT_.out (by kernel_rfl)) (fun _ _ _ h => h) (Or.inl ⟨by rfl, ?_⟩) ?_ ?_; rotate_left; focus (intro w'; go_simp; with_reducible rfl)
 rotate_left; focus (simp only [Act.put, s1, s2, s3, i64_w, i32_w]; rfl)
 refine pure_ (i := 15) (N := some 35) (v := ?_) (a' := ?_) #[T, T, T, T, T, T, T, T, T, T, T, T, T, T, T, T, T, O, O, T, O, O, O, O] rfl rfl (any_of HT_.out (by kernel_rfl)) (fun _ _ _ h => h) (Or.inl ⟨by rfl, ?_⟩) ?_ ?_; rotate_left; focus (intro w'; go_simp; with_reducible rfl)
 rotate_left; focus (simp only [Act.put, s1, s2, s3, i64_w, i32_w]; rfl)
 refine take_ (i := 17) (N := some 37) (v := ?_) (a' := ?_) #[T, T, T, T, T, T, T, T, T, T, T, T, T, T, T, T, T, T, O, T, O, O, O, O] rfl rfl (take_ofW HT_.out HW_.out (by kernel_rfl)) (fun _ _ _ h => h) (Or.inl ⟨by rfl, ?_⟩) hHeld ?_ ?_; rotate_left; focus (rintro w' ⟨s0, s1⟩; go_simp; with_reducible rfl)
 rotate_left; focus (simp only [Act.put, s1, s2, s3, i64_w, i32_w]; rfl)
 refine pure_ (i := 18) (N := some 38) (v := ?_) (a' := ?_) #[T, T, T, T, T, T, T, T, T, T, T, T, T, T, T, T, T, T, T, T, O, O, O, O] rfl rfl (any_of HT_.out (by kernel_rfl)) (fun _ _ _ h => h) (Or.inl ⟨by rfl, ?_⟩) ?_ ?_; rotate_left; focus (intro w'; go_simp; with_reducible rfl)
 rotate_left; focus (simp only [Act.put, s1, s2, s3, i64_w, i32_w]; rfl)
 refine pure_ (i := 20) (N := some 40) (v := ?_) (a' := ?_) #[T, T, T, T, T, T, T, T, T, T, T, T, T, T, T, T, T, T, T, T, T, O, O, O] rfl rfl (any_of HT_.out (by kernel_rfl)) (fun _ _ _ h => h) (Or.inl ⟨by rfl, ?_⟩) ?_ ?_; rotate_left; focus (intro w'; go_simp; with_reducible rfl)
 rotate_left; focus (simp only [Act.put, s1, s2, s3, i64_w, i32_w]; rfl)
 refine pure_ (i := 21) (N := some 41) (v := ?_) (a' := ?_) #[T, T, T, T, T, T, T, T, T, T, T, T, T, T, T, T, T, T, T, T, T, T, O, O] rfl rfl (any_of HT_.out (by kernel_rfl)) (fun _ _ _ h => h) (Or.inl ⟨by rfl, ?_⟩) ?_ ?_; rotate_left; focus (intro w'; go_simp; with_reducible rfl)
 rotate_left; focus (simp only [Act.put, s1, s2, s3, i64_w, i32_w]; rfl)
 refine one_ (i := 22) (N := none) #[T, T, T, T, T, T, T, T, T, T, T, T, T, T, T, T, T, T, T, T, T, T, T, O] rfl rfl (one_of HT_.out (by kernel_rfl)) (by decide) (fun K hK => ?_); have hs25 : w24.cell? ⟨gb808, 0, none⟩ = some (.int .i64 0) := kc BK808 0; have hfs25 := blk_frozen BK808.out 0; have hns25_0 := NB807_808.out; have hns25_2 := NB809_808.out; have hns25_3 := NB814_808.out; have hms25_0 := NB808_807.out; have hms25_2 := NB808_809.out; have hms25_3 := NB808_814.out; have hs26 : w24.cell? ⟨gb808, 1, none⟩ = some (.int .i64 0) := kc BK808 1; have hfs26 := blk_frozen BK808.out 1; have hns26_0 := NB807_808.out; have hns26_2 := NB809_808.out; have hns26_3 := NB814_808.out; have hms26_0 := NB808_807.out; have hms26_2 := NB808_809.out; have hms26_3 := NB808_814.out; refine skip_ (w1 := ?_) (by rfl) rfl ?_ ?_; rotate_left
 ·go_simp
  rfl
 refine hK.out _ _ ⟨((cell_far (p := ⟨gb808, _, none⟩) NB814_808.out _).trans (((cell_far (p := ⟨gb808, _, none⟩) NB814_808.out _).trans (hHeld.1)))), ((cell_far (p := ⟨gb808, _, none⟩) NB814_808.out _).trans (((cell_far (p := ⟨gb808, _, none⟩) NB814_808.out _).trans (hHeld.2))))⟩ (fun hHeld => ?_); clear hK K; refine one_ (i := 23) (N := none) #[T, T, T, T, T, T, T, T, T, T, T, T, T, T, T, T, T, T, T, T, T, T, T, T] rfl rfl (one_of HT_.out (by kernel_rfl)) (by decide) (fun K hK => ?_); have hs27 : w24.cell? ⟨gb809, 0, none⟩ = some (.int .i64 0) := kc BK809 0; have hfs27 := blk_frozen BK809.out 0; have hns27_0 := NB807_809.out; have hns27_1 := NB808_809.out; have hns27_3 := NB814_809.out; have hms27_0 := NB809_807.out; have hms27_1 := NB809_808.out; have hms27_3 := NB809_814.out; have hs28 : w24.cell? ⟨gb809, 1, none⟩ = some (.int .i64 0) := kc BK809 1; have hfs28 := blk_frozen BK809.out 1; have hns28_0 := NB807_809.out; have hns28_1 := NB808_809.out; have hns28_3 := NB814_809.out; have hms28_0 := NB809_807.out; have hms28_1 := NB809_808.out; have hms28_3 := NB809_814.out; refine skip_ (w1 := ?_) (by rfl) rfl ?_ ?_; rotate_left
 ·go_simp
  rfl
 refine hK.out _ _ ⟨((cell_far (p := ⟨gb809, _, none⟩) NB814_809.out _).trans (((cell_far (p := ⟨gb809, _, none⟩) NB814_809.out _).trans (hHeld.1)))), ((cell_far (p := ⟨gb809, _, none⟩) NB814_809.out _).trans (((cell_far (p := ⟨gb809, _, none⟩) NB814_809.out _).trans (hHeld.2))))⟩ (fun hHeld => ?_); clear hK K; refine done_ (done_of HT_.out (by kernel_rfl)) ?_
 try go_wp2
 refine bodyPost_ret (results_cc rfl _ _ gb808 gb809 62 62 #[.int .i64 (wrap64 ((wrap64 (2 * t811)) - (ji8))), .int .i64 (wrap64 ((wrap64 (2 * t812)) - (ji8)))] #[.int .i64 (wrap64 ((wrap64 (2 * t811)) + (ji8))), .int .i64 (wrap64 ((wrap64 (2 * t812)) + (ji8)))] (0, 0) (0, 0) _ _ rfl (by (with_reducible repeat (first | refine zr ?_ _ | refine zw ?_ | refine za ?_ _)); refine blk_far ?_ NB808_809.out _; (with_reducible repeat (first | refine zr ?_ _ | refine zw ?_ | refine za ?_ _)); refine blk_far ?_ NB808_809.out _; (with_reducible repeat (first | refine zr ?_ _ | refine zw ?_ | refine za ?_ _)); refine blk_put (cs := #[.int .i64 (wrap64 ((wrap64 (2 * t811)) - (ji8))), .int .i64 0]) ?_ 1 _ rfl; (with_reducible repeat (first | refine zr ?_ _ | refine zw ?_ | refine za ?_ _)); refine blk_put (cs := #[.int .i64 0, .int .i64 0]) ?_ 0 _ rfl; (with_reducible repeat (first | refine zr ?_ _ | refine zw ?_ | refine za ?_ _)); exact BK808.out) Try.underlying62 rfl (by kernel_rfl) rfl (by (with_reducible repeat (first | refine zr ?_ _ | refine zw ?_ | refine za ?_ _)); refine blk_put (cs := #[.int .i64 (wrap64 ((wrap64 (2 * t811)) + (ji8))), .int .i64 0]) ?_ 1 _ rfl; (with_reducible repeat (first | refine zr ?_ _ | refine zw ?_ | refine za ?_ _)); refine blk_put (cs := #[.int .i64 0, .int .i64 0]) ?_ 0 _ rfl; (with_reducible repeat (first | refine zr ?_ _ | refine zw ?_ | refine za ?_ _)); refine blk_far ?_ NB809_808.out _; (with_reducible repeat (first | refine zr ?_ _ | refine zw ?_ | refine za ?_ _)); refine blk_far ?_ NB809_808.out _; (with_reducible repeat (first | refine zr ?_ _ | refine zw ?_ | refine za ?_ _)); exact BK809.out) Try.underlying62 rfl (by kernel_rfl)) rfl ?_; exact ⟨by first | rfl | (simp [errW_none, errW_some] <;> rfl) | (simp only [← hji8]; first | rfl | (simp [errW_none, errW_some] <;> rfl)) | (simp [*, errW_none, errW_some] <;> rfl), ky HB⟩
/-! ### cmp_isNaN_int: function 84 -/
def cmp_isNaN_int.f (a0 : Int) : Option (Bool) := some (a0 != a0)
set_option maxHeartbeats 8000000 in
set_option maxRecDepth 100000 in
theorem cmp_isNaN_int.calls (a0 : Int) (r : Bool) (w : World) (h : cmp_isNaN_int.f a0 = some r) :
  Calls Try.prog 84 #[.int .i64 a0] w fun e w' => e = .returned (.bool r) ∧ Drawn0 w w' := by
 have H : (some (a0 != a0)) = some r := h; clear h; obtain rfl := Option.some.inj H
 go_enter Try.func84, Try.ntmps84
 go_wp2
 go_ret
 exact ⟨by first | rfl | (simp; done) | (simp [*]; done), by repeat (first | exact Drawn0.refl _ | apply Drawn0.step)⟩

/-! ### cmp_Compare_int: function 71 -/
def cmp_Compare_int.f (a0 : Int) (a1 : Int) : Option (Int) := (cmp_isNaN_int.f a0).bind fun t815 => ((cmp_isNaN_int.f a1).bind fun t816 => (if t815 = true then (if t816 = true then (some 0) else (some (-1))) else (if t816 = true then (some 1) else (if a0 < a1 then (some (-1)) else (if a0 > a1 then (some 1) else (some 0))))))
set_option maxHeartbeats 8000000 in
set_option maxRecDepth 100000 in
theorem cmp_Compare_int.calls (a0 : Int) (a1 : Int) (r : Int) (w : World) (h : cmp_Compare_int.f a0 a1 = some r) :
  Calls Try.prog 71 #[.int .i64 a0, .int .i64 a1] w fun e w' => e = .returned (.int .i64 r) ∧ Drawn0 w w' := by
 have H : ((cmp_isNaN_int.f a0).bind fun t815 => ((cmp_isNaN_int.f a1).bind fun t816 => (if t815 = true then (if t816 = true then (some 0) else (some (-1))) else (if t816 = true then (some 1) else (if a0 < a1 then (some (-1)) else (if a0 > a1 then (some 1) else (some 0))))))) = some r := h; clear h; replace H := Option.bind_eq_some_iff.mp H; obtain ⟨t815, A30, H⟩ := H; (try dsimp only at H); have A3 := Aside0.mk A30; clear A30; replace H := Option.bind_eq_some_iff.mp H; obtain ⟨t816, A40, H⟩ := H; (try dsimp only at H); have A4 := Aside0.mk A40; clear A40
 by_cases c5 : t815 = true
 ·subst c5
  rw [if_pos rfl] at H
  by_cases c6 : t816 = true
  ·subst c6
   rw [if_pos rfl] at H; obtain rfl := Option.some.inj H
   go_enter Try.func71, Try.ntmps71
   go_wp2_with (first | ((with_reducible refine gate_callee (f := 84) rfl ?_); refine gL 8 Try.func84 #[.int .i64 a0] ?_; (with_reducible refine (cmp_isNaN_int.calls a0 true _ A3.out).mono ?_); rintro e w' ⟨rfl, ⟨nd, rfl⟩⟩; refine ⟨_, rfl, ?_⟩) | ((with_reducible refine gate_callee (f := 84) rfl ?_); refine gL 10 Try.func84 #[.int .i64 a1] ?_; (with_reducible refine (cmp_isNaN_int.calls a1 true _ A4.out).mono ?_); rintro e w' ⟨rfl, ⟨nd, rfl⟩⟩; refine ⟨_, rfl, ?_⟩))
   go_ret
   exact ⟨by first | rfl | (simp; done) | (simp [*]; done), by repeat (first | exact Drawn0.refl _ | apply Drawn0.step)⟩
  replace c6 := Bool.eq_false_iff.mpr c6; subst c6
  rw [if_neg (show ¬ (false = true) by decide)] at H; obtain rfl := Option.some.inj H
  go_enter Try.func71, Try.ntmps71
  go_wp2_with (first | ((with_reducible refine gate_callee (f := 84) rfl ?_); refine gL 8 Try.func84 #[.int .i64 a0] ?_; (with_reducible refine (cmp_isNaN_int.calls a0 true _ A3.out).mono ?_); rintro e w' ⟨rfl, ⟨nd, rfl⟩⟩; refine ⟨_, rfl, ?_⟩) | ((with_reducible refine gate_callee (f := 84) rfl ?_); refine gL 10 Try.func84 #[.int .i64 a1] ?_; (with_reducible refine (cmp_isNaN_int.calls a1 false _ A4.out).mono ?_); rintro e w' ⟨rfl, ⟨nd, rfl⟩⟩; refine ⟨_, rfl, ?_⟩))
  go_ret
  exact ⟨by first | rfl | (simp; done) | (simp [*]; done), by repeat (first | exact Drawn0.refl _ | apply Drawn0.step)⟩
 replace c5 := Bool.eq_false_iff.mpr c5; subst c5
 rw [if_neg (show ¬ (false = true) by decide)] at H
 by_cases c7 : t816 = true
 ·subst c7
  rw [if_pos rfl] at H; obtain rfl := Option.some.inj H
  go_enter Try.func71, Try.ntmps71
  go_wp2_with (first | ((with_reducible refine gate_callee (f := 84) rfl ?_); refine gL 8 Try.func84 #[.int .i64 a0] ?_; (with_reducible refine (cmp_isNaN_int.calls a0 false _ A3.out).mono ?_); rintro e w' ⟨rfl, ⟨nd, rfl⟩⟩; refine ⟨_, rfl, ?_⟩) | ((with_reducible refine gate_callee (f := 84) rfl ?_); refine gL 10 Try.func84 #[.int .i64 a1] ?_; (with_reducible refine (cmp_isNaN_int.calls a1 true _ A4.out).mono ?_); rintro e w' ⟨rfl, ⟨nd, rfl⟩⟩; refine ⟨_, rfl, ?_⟩))
  go_ret
  exact ⟨by first | rfl | (simp; done) | (simp [*]; done), by repeat (first | exact Drawn0.refl _ | apply Drawn0.step)⟩
 replace c7 := Bool.eq_false_iff.mpr c7; subst c7
 rw [if_neg (show ¬ (false = true) by decide)] at H
 by_cases c8 : a0 < a1
 ·rw [if_pos c8] at H
  have c8b0 : decide (a0 < a1) = true := decide_eq_true c8; clear c8; obtain rfl := Option.some.inj H
  go_enter Try.func71, Try.ntmps71
  go_wp2_with (first | ((with_reducible refine gate_callee (f := 84) rfl ?_); refine gL 8 Try.func84 #[.int .i64 a0] ?_; (with_reducible refine (cmp_isNaN_int.calls a0 false _ A3.out).mono ?_); rintro e w' ⟨rfl, ⟨nd, rfl⟩⟩; refine ⟨_, rfl, ?_⟩) | ((with_reducible refine gate_callee (f := 84) rfl ?_); refine gL 10 Try.func84 #[.int .i64 a1] ?_; (with_reducible refine (cmp_isNaN_int.calls a1 false _ A4.out).mono ?_); rintro e w' ⟨rfl, ⟨nd, rfl⟩⟩; refine ⟨_, rfl, ?_⟩))
  go_ret
  exact ⟨by first | rfl | (simp; done) | (simp [*]; done), by repeat (first | exact Drawn0.refl _ | apply Drawn0.step)⟩
 rw [if_neg c8] at H
 have c8b0 : decide (a0 < a1) = false := decide_eq_false c8; clear c8
 by_cases c9 : a0 > a1
 ·rw [if_pos c9] at H
  have c9b0 : decide (a1 < a0) = true := decide_eq_true c9; clear c9; obtain rfl := Option.some.inj H
  go_enter Try.func71, Try.ntmps71
  go_wp2_with (first | ((with_reducible refine gate_callee (f := 84) rfl ?_); refine gL 8 Try.func84 #[.int .i64 a0] ?_; (with_reducible refine (cmp_isNaN_int.calls a0 false _ A3.out).mono ?_); rintro e w' ⟨rfl, ⟨nd, rfl⟩⟩; refine ⟨_, rfl, ?_⟩) | ((with_reducible refine gate_callee (f := 84) rfl ?_); refine gL 10 Try.func84 #[.int .i64 a1] ?_; (with_reducible refine (cmp_isNaN_int.calls a1 false _ A4.out).mono ?_); rintro e w' ⟨rfl, ⟨nd, rfl⟩⟩; refine ⟨_, rfl, ?_⟩))
  go_ret
  exact ⟨by first | rfl | (simp; done) | (simp [*]; done), by repeat (first | exact Drawn0.refl _ | apply Drawn0.step)⟩
 rw [if_neg c9] at H
 have c9b0 : decide (a1 < a0) = false := decide_eq_false c9; clear c9; obtain rfl := Option.some.inj H
 go_enter Try.func71, Try.ntmps71
 go_wp2_with (first | ((with_reducible refine gate_callee (f := 84) rfl ?_); refine gL 8 Try.func84 #[.int .i64 a0] ?_; (with_reducible refine (cmp_isNaN_int.calls a0 false _ A3.out).mono ?_); rintro e w' ⟨rfl, ⟨nd, rfl⟩⟩; refine ⟨_, rfl, ?_⟩) | ((with_reducible refine gate_callee (f := 84) rfl ?_); refine gL 10 Try.func84 #[.int .i64 a1] ?_; (with_reducible refine (cmp_isNaN_int.calls a1 false _ A4.out).mono ?_); rintro e w' ⟨rfl, ⟨nd, rfl⟩⟩; refine ⟨_, rfl, ?_⟩))
 go_ret
 exact ⟨by first | rfl | (simp; done) | (simp [*]; done), by repeat (first | exact Drawn0.refl _ | apply Drawn0.step)⟩

end Go.Proofs.Ytpjbniihdndlmab.Q
