-- Printed by wip/pp.sh (a session's own turning of the kit's print) for this seat.
import Derived.Test.YtpjbniihdndlmaaQx0
import Derived.Test.YtpjbniihdndlmaaQx1
import Derived.Test.YtpjbniihdndlmaaQx5
import Derived.Test.YtpjbniihdndlmaaQx9
namespace Go.Proofs.Ytpjbniihdndlmaa.Q
open Go.RowKit Go.Proofs.YtpjbniihdndlmaaW.PrintWords Go.Proofs.YtpjbniihdndlmaaW.PrintLast Go.Proofs.YtpjbniihdndlmaaW.PrintMore
open Go.Proofs.Ytpjbniihdndlmaa.H
attribute [local go_sem] hq_add64 hq_sub64 hq_not64 add64c_nn sub64c_nn sub64c_le
attribute [local go_sem] max2_int min2_int max_two min_two max_three min_three max_four min_four   -- for this text's walks alone
set_option linter.unusedVariables false
set_option linter.unusedSimpArgs false

attribute [local go_sem high] eqA24
/-! ### wide_Neg: function 44 -/
def wide_Neg.f (a0_0 : Int) (a0_1 : Int) : Option (Int × Int × Bool) := (wide_turn.f a0_0 a0_1).bind fun bt892 => ((wide_least.f).bind fun bt894 => ((wide_told.f bt892.1 bt892.2 (!(a0_0 == bt894.1) || (!(a0_1 == bt894.2)))).bind fun bt896 => (some (bt896.1, bt896.2.1, bt896.2.2))))
def wide_Neg.T1 : Bool × List (List Nat × List Nat) := (true, [([], []), ([0], [0]), ([], []), ([1], []), ([2, 3], [2, 3]), ([1, 4, 3], [1, 4]), ([5], [5]), ([5], [5]), ([6, 5, 0, 1, 2, 3, 4, 5, 6, 7], [6]), ([7, 8, 0, 1, 2, 3, 4, 5, 6, 7, 8], [7])])
def wide_Neg.B1 : List Nat := [0, 1, 0, 3, 15, 31, 63, 63, 255, 511]
theorem wide_Neg.tab1 : rtab .any (opsOf Try.f44 1) = wide_Neg.T1 := by kernel_rfl
theorem wide_Neg.bits1 : waitsOk wide_Neg.T1.2 wide_Neg.B1 = true := by kernel_rfl
set_option maxHeartbeats 8000000 in
set_option maxRecDepth 100000 in
theorem wide_Neg.calls (a0_0 : Int) (a0_1 : Int) (r1 : Int) (r2 : Int) (r3 : Bool) (w : World) (h : wide_Neg.f a0_0 a0_1 = some (r1, r2, r3)) :
    Calls Try.prog 44 #[.agg #[.int .i64 a0_0, .int .u64 a0_1]] w fun e w' => e = .returned (.tuple #[.agg #[.int .i64 r1, .int .u64 r2], .bool r3]) ∧ Below w.heap.size w w' := by
  have hu24 := Try.underlying24
  have HB := Aside0.mk (Below.refl w.heap.size w)
  have H : ((wide_turn.f a0_0 a0_1).bind fun bt892 => ((wide_least.f).bind fun bt894 => ((wide_told.f bt892.1 bt892.2 (!(a0_0 == bt894.1) || (!(a0_1 == bt894.2)))).bind fun bt896 => (some (bt896.1, bt896.2.1, bt896.2.2))))) = some (r1, r2, r3) := h
  clear h
  replace H := Option.bind_eq_some_iff.mp H
  obtain ⟨⟨t892, t893⟩, A20, H⟩ := H
  replace H : ((wide_least.f).bind fun bt894 => ((wide_told.f t892 t893 (!(a0_0 == bt894.1) || (!(a0_1 == bt894.2)))).bind fun bt896 => (some (bt896.1, bt896.2.1, bt896.2.2)))) = some (r1, r2, r3) := H
  have A2 := Aside0.mk A20
  clear A20
  replace H := Option.bind_eq_some_iff.mp H
  obtain ⟨⟨t894, t895⟩, A30, H⟩ := H
  replace H : ((wide_told.f t892 t893 (!(a0_0 == t894) || (!(a0_1 == t895)))).bind fun bt896 => (some (bt896.1, bt896.2.1, bt896.2.2))) = some (r1, r2, r3) := H
  have A3 := Aside0.mk A30
  clear A30
  replace H := Option.bind_eq_some_iff.mp H
  obtain ⟨⟨t896, t897, t898⟩, A40, H⟩ := H
  replace H : (some (t896, t897, t898)) = some (r1, r2, r3) := H
  have A4 := Aside0.mk A40
  clear A40
  simp only [Option.some.injEq, Prod.mk.injEq] at H
  obtain ⟨rfl, rfl, rfl⟩ := H
  go_enter Try.func44, Try.ntmps44
  try go_wp2_with (first | ((with_reducible refine gate_dst (N := 1) rfl ?_); refine box_event ?hg (N := 1) ?hd (cs := #[.int .i64 a0_0, .int .u64 a0_1]) (t := 24) ?hr ?_; (case hd => rfl); (case hg => rfl); (case hr => first | (go_simp; done) | (go_simp; rfl)); intro gb890 hg w5 hbox hb; have BK890 := Aside0.mk (hbox); have GW890 := kS HB hg; have GE890 := kS HB hg; replace HB := kB HB hb; clear hb hbox hg) | ((with_reducible refine gate_dst (N := 2) rfl ?_); refine box_event ?hg (N := 2) ?hd (cs := #[.int .i64 0, .int .u64 0]) (t := 24) ?hr ?_; (case hd => rfl); (case hg => rfl); (case hr => first | (go_simp; done) | (go_simp; rfl)); intro gb891 hg w6 hbox hb; have BK891 := Aside0.mk (hbox); have GW891 := kS HB hg; have GE891 := kS HB hg; have NB890_891 := kN BK890 hg; have NB891_890 := kM BK890 hg; replace BK890 := kb BK890 hb; replace HB := kB HB hb; clear hb hbox hg))
  replace BK890 := Aside0.mk (blk_drew BK890.out)
  replace BK891 := Aside0.mk (blk_drew BK891.out)
  replace HB := Aside0.mk (below_drew1 HB.out)
  refine start_ (n := 10) (S := fun w' => w'.cell? ⟨gb890, 0, none⟩ = some (.int .i64 a0_0) ∧ w'.cell? ⟨gb890, 1, none⟩ = some (.int .u64 a0_1)) (ds := []) #[O, O, O, O, O, O, O, O, O, O] (by kernel_rfl) rfl rfl ⟨kc BK890 0, kc BK890 1⟩ (fun hHeld => ?_); refine with_tabW wide_Neg.tab1 wide_Neg.bits1 (fun HT_ HW_ => ?_)
  generalize w6.drew = w7 at BK890 BK891 HB hHeld ⊢
  refine take_ (i := 0) (N := some 4) (v := ?_) (a' := ?_) #[T, O, O, O, O, O, O, O, O, O] rfl rfl (take_ofW HT_.out HW_.out (by kernel_rfl)) (fun _ _ _ h => h) (Or.inl ⟨by rfl, ?_⟩) hHeld ?_ ?_; rotate_left; focus (rintro w' ⟨s0, s1⟩; go_simp; with_reducible rfl)
  rotate_left; focus (simp only [Act.put, List.setIfInBounds_toArray, List.set_cons_zero, List.set_cons_succ, i64_w, i32_w]; rfl)
  refine take_ (i := 2) (N := some 6) (v := ?_) (a' := ?_) #[T, O, T, O, O, O, O, O, O, O] rfl rfl (take_ofW HT_.out HW_.out (by kernel_rfl)) (fun _ _ _ h => h) (Or.inl ⟨by rfl, ?_⟩) hHeld ?_ ?_; rotate_left; focus (rintro w' ⟨s0, s1⟩; go_simp; with_reducible rfl)
  rotate_left; focus (simp only [Act.put, List.setIfInBounds_toArray, List.set_cons_zero, List.set_cons_succ, i64_w, i32_w]; rfl)
  refine one_ (i := 1) (N := some 5) #[T, T, T, O, O, O, O, O, O, O] rfl rfl (one_of HT_.out (by kernel_rfl)) (by decide) (fun K hK => ?_)
  refine goes_ Try.func66 (by kernel_rfl) rfl #[.agg #[.int .i64 a0_0, .int .u64 a0_1]] (by rfl) rfl rfl (by (try simp only [List.map_toArray, List.map_cons, List.map_nil]); first | done | rfl | (simp only [List.length_drop, List.length_take]; rfl)) ?_
  with_reducible refine (wide_turn.calls a0_0 a0_1 t892 t893 _ A2.out).mono ?_
  rintro e w8 ⟨rfl, hb⟩
  refine ⟨_, rfl, ?_⟩
  replace BK890 := kb BK890 hb
  replace BK891 := kb BK891 hb
  replace HB := kB HB hb
  (try clear hb)
  (try clear hb2)
  (try clear hk)
  (try clear hi)
  refine hK.out _ _ ⟨kc BK890 0, kc BK890 1⟩ (fun hHeld => ?_)
  clear hK K
  refine norm_ (a' := ?_) ?_ ?_
  rotate_left
  · show Act.put _ (some 5) _ = _
    simp only [Act.put, List.setIfInBounds_toArray, List.set_cons_zero, List.set_cons_succ, i64_w, i32_w]
    rfl
  refine one_ (i := 3) (N := some 7) #[T, T, T, T, O, O, O, O, O, O] rfl rfl (one_of HT_.out (by kernel_rfl)) (by decide) (fun K hK => ?_)
  refine goes_ Try.func76 (by kernel_rfl) rfl #[] (by rfl) rfl rfl (by (try simp only [List.map_toArray, List.map_cons, List.map_nil]); first | done | rfl | (simp only [List.length_drop, List.length_take]; rfl)) ?_
  with_reducible refine (wide_least.calls  t894 t895 _ A3.out).mono ?_
  rintro e w9 ⟨rfl, hb⟩
  refine ⟨_, rfl, ?_⟩
  replace BK890 := kb BK890 hb
  replace BK891 := kb BK891 hb
  replace HB := kB HB hb
  (try clear hb)
  (try clear hb2)
  (try clear hk)
  (try clear hi)
  refine hK.out _ _ ⟨kc BK890 0, kc BK890 1⟩ (fun hHeld => ?_)
  clear hK K
  refine norm_ (a' := ?_) ?_ ?_
  rotate_left
  · show Act.put _ (some 7) _ = _
    simp only [Act.put, List.setIfInBounds_toArray, List.set_cons_zero, List.set_cons_succ, i64_w, i32_w]
    rfl
  refine pure_ (i := 4) (N := some 8) (v := ?_) (a' := ?_) #[T, T, T, T, T, O, O, O, O, O] rfl rfl (any_of HT_.out (by kernel_rfl)) (fun _ _ _ h => h) (Or.inl ⟨by rfl, ?_⟩) ?_ ?_; rotate_left; focus (intro w'; go_simp; with_reducible rfl)
  rotate_left; focus (simp only [Act.put, List.setIfInBounds_toArray, List.set_cons_zero, List.set_cons_succ, i64_w, i32_w]; rfl)
  refine one_ (i := 5) (N := some 9) #[T, T, T, T, T, T, O, O, O, O] rfl rfl (one_of HT_.out (by kernel_rfl)) (by decide) (fun K hK => ?_)
  refine goes_ Try.func59 (by kernel_rfl) rfl #[.agg #[.int .i64 t892, .int .u64 t893], .bool (!(a0_0 == t894) || (!(a0_1 == t895)))] (by rfl) rfl rfl (by (try simp only [List.map_toArray, List.map_cons, List.map_nil]); first | done | rfl | (simp only [List.length_drop, List.length_take]; rfl)) ?_
  with_reducible refine (wide_told.calls t892 t893 (!(a0_0 == t894) || (!(a0_1 == t895))) t896 t897 t898 _ A4.out).mono ?_
  rintro e w10 ⟨rfl, hb⟩
  refine ⟨_, rfl, ?_⟩
  replace BK890 := kb BK890 hb
  replace BK891 := kb BK891 hb
  replace HB := kB HB hb
  (try clear hb)
  (try clear hb2)
  (try clear hk)
  (try clear hi)
  refine hK.out _ _ ⟨kc BK890 0, kc BK890 1⟩ (fun hHeld => ?_)
  clear hK K
  refine norm_ (a' := ?_) ?_ ?_
  rotate_left
  · show Act.put _ (some 9) _ = _
    simp only [Act.put, List.setIfInBounds_toArray, List.set_cons_zero, List.set_cons_succ, i64_w, i32_w]
    rfl
  refine pure_ (i := 6) (N := some 10) (v := ?_) (a' := ?_) #[T, T, T, T, T, T, T, O, O, O] rfl rfl (any_of HT_.out (by kernel_rfl)) (fun _ _ _ h => h) (Or.inl ⟨by rfl, ?_⟩) ?_ ?_; rotate_left; focus (intro w'; go_simp; with_reducible rfl)
  rotate_left; focus (simp only [Act.put, List.setIfInBounds_toArray, List.set_cons_zero, List.set_cons_succ, i64_w, i32_w]; rfl)
  refine pure_ (i := 7) (N := some 11) (v := ?_) (a' := ?_) #[T, T, T, T, T, T, T, T, O, O] rfl rfl (any_of HT_.out (by kernel_rfl)) (fun _ _ _ h => h) (Or.inl ⟨by rfl, ?_⟩) ?_ ?_; rotate_left; focus (intro w'; go_simp; with_reducible rfl)
  rotate_left; focus (simp only [Act.put, List.setIfInBounds_toArray, List.set_cons_zero, List.set_cons_succ, i64_w, i32_w]; rfl)
  refine one_ (i := 8) (N := none) #[T, T, T, T, T, T, T, T, T, O] rfl rfl (one_of HT_.out (by kernel_rfl)) (by decide) (fun K hK => ?_)
  have hs11 : w10.cell? ⟨gb891, 0, none⟩ = some (.int .i64 0) := kc BK891 0
  have hfs11 := blk_frozen BK891.out 0
  have hns11_0 := NB890_891.out; have hms11_0 := NB891_890.out
  have hs12 : w10.cell? ⟨gb891, 1, none⟩ = some (.int .u64 0) := kc BK891 1
  have hfs12 := blk_frozen BK891.out 1
  have hns12_0 := NB890_891.out; have hms12_0 := NB891_890.out
  refine skip_ (w1 := ?_) (by rfl) rfl ?_ ?_
  rotate_left
  · go_simp
    rfl
  refine hK.out _ _ ⟨((cell_far (p := ⟨gb891, _, none⟩) NB890_891.out _).trans (((cell_far (p := ⟨gb891, _, none⟩) NB890_891.out _).trans (hHeld.1)))), ((cell_far (p := ⟨gb891, _, none⟩) NB890_891.out _).trans (((cell_far (p := ⟨gb891, _, none⟩) NB890_891.out _).trans (hHeld.2))))⟩ (fun hHeld => ?_)
  clear hK K
  refine pure_ (i := 9) (N := some 3) (v := ?_) (a' := ?_) #[T, T, T, T, T, T, T, T, T, T] rfl rfl (any_of HT_.out (by kernel_rfl)) (fun _ _ _ h => h) (Or.inl ⟨by rfl, ?_⟩) ?_ ?_; rotate_left; focus (intro w'; go_simp; with_reducible rfl)
  rotate_left; focus (simp only [Act.put, List.setIfInBounds_toArray, List.set_cons_zero, List.set_cons_succ, i64_w, i32_w]; rfl)
  refine done_ (done_of HT_.out (by kernel_rfl)) ?_
  try go_wp2
  refine bodyPost_ret (results_ct rfl _ _ gb891 24 #[.int .i64 t896, .int .u64 t897] (0, 0) _ rfl (by (with_reducible repeat (first | refine blk_drewN ?_ _ | refine blk_drew ?_ | refine blk_alloc ?_ _)); refine blk_put (cs := #[.int .i64 t896, .int .u64 0]) ?_ 1 _ rfl; (with_reducible repeat (first | refine blk_drewN ?_ _ | refine blk_drew ?_ | refine blk_alloc ?_ _)); refine blk_put (cs := #[.int .i64 0, .int .u64 0]) ?_ 0 _ rfl; (with_reducible repeat (first | refine blk_drewN ?_ _ | refine blk_drew ?_ | refine blk_alloc ?_ _)); exact BK891.out) Try.underlying24 rfl (by kernel_rfl)) rfl ?_
  exact ⟨by first | rfl | (simp [errW_none, errW_some] <;> rfl) | (simp [*, errW_none, errW_some] <;> rfl), ky HB⟩

/-! ### frac_Make: function 46 -/
def frac_Make.j0 : Nat → Bool → Int → Int → Int → Int → Option (Int × Int × Int × Int × Bool)
  | 0, _, _, _, _, _ => none
  | k + 1, x36, x907000, x907001, x911000, x911001 => if x36 = true then (some (0, 0, 0, 0, false)) else (some (x907000, x907001, x911000, x911001, true))
def frac_Make.f (k : Nat) (a0_0 : Int) (a0_1 : Int) (a1_0 : Int) (a1_1 : Int) : Option (Int × Int × Int × Int × Bool) := (wide_Sign.f a1_0 a1_1).bind fun t902 => (if t902 > 0 then (some (a0_0, a0_1, a1_0, a1_1, true)) else ((wide_Neg.f a0_0 a0_1).bind fun bt903 => ((wide_Neg.f a1_0 a1_1).bind fun bt907 => (if bt903.2.2 = true then (if bt907.2.2 = true then ((wide_Sign.f bt907.1 bt907.2.1).bind fun t911 => (frac_Make.j0 k (t911 == 0) bt903.1 bt903.2.1 bt907.1 bt907.2.1)) else (frac_Make.j0 k true bt903.1 bt903.2.1 bt907.1 bt907.2.1)) else (frac_Make.j0 k true bt903.1 bt903.2.1 bt907.1 bt907.2.1)))))
theorem frac_Make.mono_l : ∀ k, (∀ y0 y1 y2 y3 y4, LeO (frac_Make.j0 k y0 y1 y2 y3 y4) (frac_Make.j0 (k + 1) y0 y1 y2 y3 y4))
  | 0 => fun _ _ _ _ _ r h => by simp [frac_Make.j0] at h
  | k + 1 => by
    have ih0 := frac_Make.mono_l k
    · intro y0 y1 y2 y3 y4
      unfold frac_Make.j0
      repeat' first
      | (with_reducible exact ih0 _ _ _ _ _)
      | (with_reducible exact LeO.refl _)
      | (with_reducible exact LeO.none _)
      | (with_reducible refine LeO.ite ?_ ?_)
      | (with_reducible refine LeO.bind ?_ (fun _ => ?_))
      | exact ih0 _ _ _ _ _
      | exact LeO.none _
      | refine LeO.ite ?_ ?_
      | refine LeO.bind ?_ (fun _ => ?_)
theorem frac_Make.mono : ∀ a0 a1 a2 a3 k, LeO (frac_Make.f k a0 a1 a2 a3) (frac_Make.f (k + 1) a0 a1 a2 a3) := by
  intro a0 a1 a2 a3 k
  have ih0 := frac_Make.mono_l k
  unfold frac_Make.f
  repeat' first
      | (with_reducible exact ih0 _ _ _ _ _)
      | (with_reducible exact LeO.refl _)
      | (with_reducible exact LeO.none _)
      | (with_reducible refine LeO.ite ?_ ?_)
      | (with_reducible refine LeO.bind ?_ (fun _ => ?_))
      | exact ih0 _ _ _ _ _
      | exact LeO.none _
      | refine LeO.ite ?_ ?_
      | refine LeO.bind ?_ (fun _ => ?_)
set_option maxHeartbeats 8000000 in
set_option maxRecDepth 100000 in
theorem frac_Make.calls (k : Nat) (a0_0 : Int) (a0_1 : Int) (a1_0 : Int) (a1_1 : Int) (r1 : Int) (r2 : Int) (r3 : Int) (r4 : Int) (r5 : Bool) (w : World) (h : frac_Make.f k a0_0 a0_1 a1_0 a1_1 = some (r1, r2, r3, r4, r5)) :
    Calls Try.prog 46 #[.agg #[.int .i64 a0_0, .int .u64 a0_1], .agg #[.int .i64 a1_0, .int .u64 a1_1]] w fun e w' => e = .returned (.tuple #[.agg #[.int .i64 r1, .int .u64 r2, .int .i64 r3, .int .u64 r4], .bool r5]) ∧ Below w.heap.size w w' := by
  have hu24 := Try.underlying24
  have hu62 := Try.underlying62
  have HB := Aside0.mk (Below.refl w.heap.size w)
  have H : ((wide_Sign.f a1_0 a1_1).bind fun t902 => (if t902 > 0 then (some (a0_0, a0_1, a1_0, a1_1, true)) else ((wide_Neg.f a0_0 a0_1).bind fun bt903 => ((wide_Neg.f a1_0 a1_1).bind fun bt907 => (if bt903.2.2 = true then (if bt907.2.2 = true then ((wide_Sign.f bt907.1 bt907.2.1).bind fun t911 => (frac_Make.j0 k (t911 == 0) bt903.1 bt903.2.1 bt907.1 bt907.2.1)) else (frac_Make.j0 k true bt903.1 bt903.2.1 bt907.1 bt907.2.1)) else (frac_Make.j0 k true bt903.1 bt903.2.1 bt907.1 bt907.2.1)))))) = some (r1, r2, r3, r4, r5) := h
  clear h
  replace H := Option.bind_eq_some_iff.mp H
  obtain ⟨t902, A30, H⟩ := H
  replace H : (if t902 > 0 then (some (a0_0, a0_1, a1_0, a1_1, true)) else ((wide_Neg.f a0_0 a0_1).bind fun bt903 => ((wide_Neg.f a1_0 a1_1).bind fun bt907 => (if bt903.2.2 = true then (if bt907.2.2 = true then ((wide_Sign.f bt907.1 bt907.2.1).bind fun t911 => (frac_Make.j0 k (t911 == 0) bt903.1 bt903.2.1 bt907.1 bt907.2.1)) else (frac_Make.j0 k true bt903.1 bt903.2.1 bt907.1 bt907.2.1)) else (frac_Make.j0 k true bt903.1 bt903.2.1 bt907.1 bt907.2.1))))) = some (r1, r2, r3, r4, r5) := H
  have A3 := Aside0.mk A30
  clear A30
  by_cases c4 : t902 > 0
  · rw [if_pos c4] at H
    have c4b0 : decide (0 < t902) = true := decide_eq_true c4
    clear c4
    simp only [Option.some.injEq, Prod.mk.injEq] at H
    obtain ⟨rfl, rfl, rfl, rfl, rfl⟩ := H
    go_enter Try.func46, Try.ntmps46
    go_wp2_with (first | ((with_reducible refine gate_dst (N := 2) rfl ?_); refine box_event ?hg (N := 2) ?hd (cs := #[.int .i64 a0_0, .int .u64 a0_1]) (t := 24) ?hr ?_; (case hd => rfl); (case hg => rfl); (case hr => first | (go_simp; done) | (go_simp; rfl)); intro gb899 hg w5 hbox hb; have BK899 := Aside0.mk (hbox); have GW899 := kS HB hg; have GE899 := kS HB hg; replace HB := kB HB hb; clear hb hbox hg) | ((with_reducible refine gate_dst (N := 3) rfl ?_); refine box_event ?hg (N := 3) ?hd (cs := #[.int .i64 a1_0, .int .u64 a1_1]) (t := 24) ?hr ?_; (case hd => rfl); (case hg => rfl); (case hr => first | (go_simp; done) | (go_simp; rfl)); intro gb900 hg w6 hbox hb; have BK900 := Aside0.mk (hbox); have GW900 := kS HB hg; have GE900 := kS HB hg; have NB899_900 := kN BK899 hg; have NB900_899 := kM BK899 hg; replace BK899 := kb BK899 hb; replace HB := kB HB hb; clear hb hbox hg) | ((with_reducible refine gate_dst (N := 4) rfl ?_); refine box_event ?hg (N := 4) ?hd (cs := #[.int .i64 0, .int .u64 0, .int .i64 0, .int .u64 0]) (t := 62) ?hr ?_; (case hd => rfl); (case hg => rfl); (case hr => first | (go_simp; done) | (go_simp; rfl)); intro gb901 hg w7 hbox hb; have BK901 := Aside0.mk (hbox); have GW901 := kS HB hg; have GE901 := kS HB hg; have NB899_901 := kN BK899 hg; have NB901_899 := kM BK899 hg; have NB900_901 := kN BK900 hg; have NB901_900 := kM BK900 hg; replace BK899 := kb BK899 hb; replace BK900 := kb BK900 hb; replace HB := kB HB hb; clear hb hbox hg; have hnb8 := NB900_899.out; have hnc8 := NB899_900.out; have hnb9 := NB900_901.out; have hnc9 := NB901_900.out; have hcz10_0 : w7.cell? ⟨gb900, 0, none⟩ = some (.int .i64 a1_0) := kc BK900 0; have hcz10_1 : w7.cell? ⟨gb900, 1, none⟩ = some (.int .u64 a1_1) := kc BK900 1; have hfz10_0 := blk_frozen BK900.out 0; have hfz10_1 := blk_frozen BK900.out 1) | ((with_reducible refine gate_callee (f := 26) rfl ?_); refine goesL_ (some 11) rfl rfl Try.func26 (by kernel_rfl) rfl #[.agg #[.int .i64 a1_0, .int .u64 a1_1]] rfl (by (try simp only [List.map_toArray, List.map_cons, List.map_nil]); first | done | rfl | (simp only [List.length_drop, List.length_take]; rfl)) ?_; (with_reducible refine (wide_Sign.calls a1_0 a1_1 t902 _ A3.out).mono ?_); rintro e w11 ⟨rfl, hb⟩; refine ⟨_, rfl, ?_⟩; replace BK899 := kb BK899 hb; replace BK900 := kb BK900 hb; replace BK901 := kb BK901 hb; replace HB := kB HB hb; (try clear hb); (try clear hb2); (try clear hk); (try clear hi); have hnb12 := NB899_901.out; have hnc12 := NB901_899.out; have hcz13_0 : w11.cell? ⟨gb899, 0, none⟩ = some (.int .i64 a0_0) := kc BK899 0; have hcz13_1 : w11.cell? ⟨gb899, 1, none⟩ = some (.int .u64 a0_1) := kc BK899 1; have hfz13_0 := blk_frozen BK899.out 0; have hfz13_1 := blk_frozen BK899.out 1; have hcz14_0 : w11.cell? ⟨gb900, 0, none⟩ = some (.int .i64 a1_0) := kc BK900 0; have hcz14_1 : w11.cell? ⟨gb900, 1, none⟩ = some (.int .u64 a1_1) := kc BK900 1; have hfz14_0 := blk_frozen BK900.out 0; have hfz14_1 := blk_frozen BK900.out 1; have hcz15_0 : w11.cell? ⟨gb901, 0, none⟩ = some (.int .i64 0) := kc BK901 0; have hcz15_1 : w11.cell? ⟨gb901, 1, none⟩ = some (.int .u64 0) := kc BK901 1; have hcz15_2 : w11.cell? ⟨gb901, 2, none⟩ = some (.int .i64 0) := kc BK901 2; have hcz15_3 : w11.cell? ⟨gb901, 3, none⟩ = some (.int .u64 0) := kc BK901 3; have hfz15_0 := blk_frozen BK901.out 0; have hfz15_1 := blk_frozen BK901.out 1; have hfz15_2 := blk_frozen BK901.out 2; have hfz15_3 := blk_frozen BK901.out 3))
    refine bodyPost_ret (results_ct rfl _ _ gb901 62 #[.int .i64 a0_0, .int .u64 a0_1, .int .i64 a1_0, .int .u64 a1_1] (0, 0) _ rfl (by (with_reducible repeat (first | refine blk_drewN ?_ _ | refine blk_drew ?_ | refine blk_alloc ?_ _)); refine blk_put (cs := #[.int .i64 a0_0, .int .u64 a0_1, .int .i64 a1_0, .int .u64 0]) ?_ 3 _ rfl; (with_reducible repeat (first | refine blk_drewN ?_ _ | refine blk_drew ?_ | refine blk_alloc ?_ _)); refine blk_put (cs := #[.int .i64 a0_0, .int .u64 a0_1, .int .i64 0, .int .u64 0]) ?_ 2 _ rfl; (with_reducible repeat (first | refine blk_drewN ?_ _ | refine blk_drew ?_ | refine blk_alloc ?_ _)); refine blk_put (cs := #[.int .i64 a0_0, .int .u64 0, .int .i64 0, .int .u64 0]) ?_ 1 _ rfl; (with_reducible repeat (first | refine blk_drewN ?_ _ | refine blk_drew ?_ | refine blk_alloc ?_ _)); refine blk_put (cs := #[.int .i64 0, .int .u64 0, .int .i64 0, .int .u64 0]) ?_ 0 _ rfl; (with_reducible repeat (first | refine blk_drewN ?_ _ | refine blk_drew ?_ | refine blk_alloc ?_ _)); exact BK901.out) Try.underlying62 rfl (by kernel_rfl)) rfl ?_
    exact ⟨by first | rfl | (simp [errW_none, errW_some] <;> rfl) | (simp [*, errW_none, errW_some] <;> rfl), ky HB⟩
  rw [if_neg c4] at H
  have c4b0 : decide (0 < t902) = false := decide_eq_false c4
  clear c4
  replace H := Option.bind_eq_some_iff.mp H
  obtain ⟨⟨t903, t904, t905⟩, A160, H⟩ := H
  replace H : ((wide_Neg.f a1_0 a1_1).bind fun bt907 => (if t905 = true then (if bt907.2.2 = true then ((wide_Sign.f bt907.1 bt907.2.1).bind fun t911 => (frac_Make.j0 k (t911 == 0) t903 t904 bt907.1 bt907.2.1)) else (frac_Make.j0 k true t903 t904 bt907.1 bt907.2.1)) else (frac_Make.j0 k true t903 t904 bt907.1 bt907.2.1))) = some (r1, r2, r3, r4, r5) := H
  have A16 := Aside0.mk A160
  clear A160
  replace H := Option.bind_eq_some_iff.mp H
  obtain ⟨⟨t907, t908, t909⟩, A170, H⟩ := H
  replace H : (if t905 = true then (if t909 = true then ((wide_Sign.f t907 t908).bind fun t911 => (frac_Make.j0 k (t911 == 0) t903 t904 t907 t908)) else (frac_Make.j0 k true t903 t904 t907 t908)) else (frac_Make.j0 k true t903 t904 t907 t908)) = some (r1, r2, r3, r4, r5) := H
  have A17 := Aside0.mk A170
  clear A170
  have HC18 := Aside0.mk H
  clear H
  go_enter Try.func46, Try.ntmps46
  go_upto_region 5 with (first | ((with_reducible refine gate_dst (N := 2) rfl ?_); refine box_event ?hg (N := 2) ?hd (cs := #[.int .i64 a0_0, .int .u64 a0_1]) (t := 24) ?hr ?_; (case hd => rfl); (case hg => rfl); (case hr => first | (go_simp; done) | (go_simp; rfl)); intro gb899 hg w19 hbox hb; have BK899 := Aside0.mk (hbox); have GW899 := kS HB hg; have GE899 := kS HB hg; replace HB := kB HB hb; clear hb hbox hg) | ((with_reducible refine gate_dst (N := 3) rfl ?_); refine box_event ?hg (N := 3) ?hd (cs := #[.int .i64 a1_0, .int .u64 a1_1]) (t := 24) ?hr ?_; (case hd => rfl); (case hg => rfl); (case hr => first | (go_simp; done) | (go_simp; rfl)); intro gb900 hg w20 hbox hb; have BK900 := Aside0.mk (hbox); have GW900 := kS HB hg; have GE900 := kS HB hg; have NB899_900 := kN BK899 hg; have NB900_899 := kM BK899 hg; replace BK899 := kb BK899 hb; replace HB := kB HB hb; clear hb hbox hg) | ((with_reducible refine gate_dst (N := 4) rfl ?_); refine box_event ?hg (N := 4) ?hd (cs := #[.int .i64 0, .int .u64 0, .int .i64 0, .int .u64 0]) (t := 62) ?hr ?_; (case hd => rfl); (case hg => rfl); (case hr => first | (go_simp; done) | (go_simp; rfl)); intro gb901 hg w21 hbox hb; have BK901 := Aside0.mk (hbox); have GW901 := kS HB hg; have GE901 := kS HB hg; have NB899_901 := kN BK899 hg; have NB901_899 := kM BK899 hg; have NB900_901 := kN BK900 hg; have NB901_900 := kM BK900 hg; replace BK899 := kb BK899 hb; replace BK900 := kb BK900 hb; replace HB := kB HB hb; clear hb hbox hg; have hnb22 := NB900_899.out; have hnc22 := NB899_900.out; have hnb23 := NB900_901.out; have hnc23 := NB901_900.out; have hcz24_0 : w21.cell? ⟨gb900, 0, none⟩ = some (.int .i64 a1_0) := kc BK900 0; have hcz24_1 : w21.cell? ⟨gb900, 1, none⟩ = some (.int .u64 a1_1) := kc BK900 1; have hfz24_0 := blk_frozen BK900.out 0; have hfz24_1 := blk_frozen BK900.out 1) | ((with_reducible refine gate_callee (f := 26) rfl ?_); refine goesL_ (some 11) rfl rfl Try.func26 (by kernel_rfl) rfl #[.agg #[.int .i64 a1_0, .int .u64 a1_1]] rfl (by (try simp only [List.map_toArray, List.map_cons, List.map_nil]); first | done | rfl | (simp only [List.length_drop, List.length_take]; rfl)) ?_; (with_reducible refine (wide_Sign.calls a1_0 a1_1 t902 _ A3.out).mono ?_); rintro e w25 ⟨rfl, hb⟩; refine ⟨_, rfl, ?_⟩; replace BK899 := kb BK899 hb; replace BK900 := kb BK900 hb; replace BK901 := kb BK901 hb; replace HB := kB HB hb; (try clear hb); (try clear hb2); (try clear hk); (try clear hi); have hnb26 := NB899_901.out; have hnc26 := NB901_899.out; have hcz27_0 : w25.cell? ⟨gb899, 0, none⟩ = some (.int .i64 a0_0) := kc BK899 0; have hcz27_1 : w25.cell? ⟨gb899, 1, none⟩ = some (.int .u64 a0_1) := kc BK899 1; have hfz27_0 := blk_frozen BK899.out 0; have hfz27_1 := blk_frozen BK899.out 1) | ((with_reducible refine gate_callee (f := 44) rfl ?_); refine goesL_ (some 18) rfl rfl Try.func44 (by kernel_rfl) rfl #[.agg #[.int .i64 a0_0, .int .u64 a0_1]] rfl (by (try simp only [List.map_toArray, List.map_cons, List.map_nil]); first | done | rfl | (simp only [List.length_drop, List.length_take]; rfl)) ?_; (with_reducible refine (wide_Neg.calls a0_0 a0_1 t903 t904 t905 _ A16.out).mono ?_); rintro e w28 ⟨rfl, hb⟩; refine ⟨_, rfl, ?_⟩; replace BK899 := kb BK899 hb; replace BK900 := kb BK900 hb; replace BK901 := kb BK901 hb; replace HB := kB HB hb; (try clear hb); (try clear hb2); (try clear hk); (try clear hi)) | ((with_reducible refine gate_dst (N := 6) rfl ?_); refine box_event ?hg (N := 6) ?hd (cs := #[.int .i64 0, .int .u64 0]) (t := 24) ?hr ?_; (case hd => rfl); (case hg => rfl); (case hr => first | (go_simp; done) | (go_simp; rfl)); intro gb906 hg w29 hbox hb; have BK906 := Aside0.mk (hbox); have GW906 := kS HB hg; have GE906 := kS HB hg; have NB899_906 := kN BK899 hg; have NB906_899 := kM BK899 hg; have NB900_906 := kN BK900 hg; have NB906_900 := kM BK900 hg; have NB901_906 := kN BK901 hg; have NB906_901 := kM BK901 hg; replace BK899 := kb BK899 hb; replace BK900 := kb BK900 hb; replace BK901 := kb BK901 hb; replace HB := kB HB hb; clear hb hbox hg; have hnb30 := NB906_899.out; have hnc30 := NB899_906.out; have hnb31 := NB906_900.out; have hnc31 := NB900_906.out; have hnb32 := NB906_901.out; have hnc32 := NB901_906.out; have hcz33_0 : w29.cell? ⟨gb906, 0, none⟩ = some (.int .i64 0) := kc BK906 0; have hcz33_1 : w29.cell? ⟨gb906, 1, none⟩ = some (.int .u64 0) := kc BK906 1; have hfz33_0 := blk_frozen BK906.out 0; have hfz33_1 := blk_frozen BK906.out 1; have hcz34_0 : w29.cell? ⟨gb900, 0, none⟩ = some (.int .i64 a1_0) := kc BK900 0; have hcz34_1 : w29.cell? ⟨gb900, 1, none⟩ = some (.int .u64 a1_1) := kc BK900 1; have hfz34_0 := blk_frozen BK900.out 0; have hfz34_1 := blk_frozen BK900.out 1) | ((with_reducible refine gate_callee (f := 44) rfl ?_); refine goesL_ (some 23) rfl rfl Try.func44 (by kernel_rfl) rfl #[.agg #[.int .i64 a1_0, .int .u64 a1_1]] rfl (by (try simp only [List.map_toArray, List.map_cons, List.map_nil]); first | done | rfl | (simp only [List.length_drop, List.length_take]; rfl)) ?_; (with_reducible refine (wide_Neg.calls a1_0 a1_1 t907 t908 t909 _ A17.out).mono ?_); rintro e w35 ⟨rfl, hb⟩; refine ⟨_, rfl, ?_⟩; have n0_ := kb BK899 hb; have n1_ := kb BK900 hb; have n2_ := kb BK901 hb; have n3_ := Aside0.mk (blk_below (g := gb906) (o := .cells #[.int .i64 t903, .int .u64 t904] 24 (0, 0)) (by (with_reducible repeat (first | refine blk_drewN ?_ _ | refine blk_drew ?_ | refine blk_alloc ?_ _)); refine blk_put (cs := #[.int .i64 t903, .int .u64 0]) ?_ 1 _ rfl; (with_reducible repeat (first | refine blk_drewN ?_ _ | refine blk_drew ?_ | refine blk_alloc ?_ _)); refine blk_put (cs := #[.int .i64 0, .int .u64 0]) ?_ 0 _ rfl; (with_reducible repeat (first | refine blk_drewN ?_ _ | refine blk_drew ?_ | refine blk_alloc ?_ _)); exact BK906.out) hb); have n4_ := kB HB hb; clear BK899; clear BK900; clear BK901; clear BK906; clear HB; have BK899 := n0_; have BK900 := n1_; have BK901 := n2_; have BK906 := n3_; have HB := n4_; clear n0_ n1_ n2_ n3_ n4_; (try clear hb); (try clear hb2); (try clear hk); (try clear hi)) | ((with_reducible refine gate_dst (N := 8) rfl ?_); refine box_event ?hg (N := 8) ?hd (cs := #[.int .i64 0, .int .u64 0]) (t := 24) ?hr ?_; (case hd => rfl); (case hg => rfl); (case hr => first | (go_simp; done) | (go_simp; rfl)); intro gb910 hg w36 hbox hb; have BK910 := Aside0.mk (hbox); have GW910 := kS HB hg; have GE910 := kS HB hg; have NB899_910 := kN BK899 hg; have NB910_899 := kM BK899 hg; have NB900_910 := kN BK900 hg; have NB910_900 := kM BK900 hg; have NB901_910 := kN BK901 hg; have NB910_901 := kM BK901 hg; have NB906_910 := kN BK906 hg; have NB910_906 := kM BK906 hg; replace BK899 := kb BK899 hb; replace BK900 := kb BK900 hb; replace BK901 := kb BK901 hb; replace BK906 := kb BK906 hb; replace HB := kB HB hb; clear hb hbox hg; have hnb37 := NB910_899.out; have hnc37 := NB899_910.out; have hnb38 := NB910_900.out; have hnc38 := NB900_910.out; have hnb39 := NB910_901.out; have hnc39 := NB901_910.out; have hnb40 := NB910_906.out; have hnc40 := NB906_910.out; have hcz41_0 : w36.cell? ⟨gb910, 0, none⟩ = some (.int .i64 0) := kc BK910 0; have hcz41_1 : w36.cell? ⟨gb910, 1, none⟩ = some (.int .u64 0) := kc BK910 1; have hfz41_0 := blk_frozen BK910.out 0; have hfz41_1 := blk_frozen BK910.out 1))
  (try simp only [Act.put, List.setIfInBounds_toArray, List.set_cons_zero, List.set_cons_succ])
  go_cut [36] (fun v36 wc => ∃ (kq : Nat) (x36_17 : Bool), v36 = .bool x36_17 ∧ Aside0 (frac_Make.j0 kq x36_17 t903 t904 t907 t908 = some (r1, r2, r3, r4, r5)) ∧ Aside0 (kq ≤ k) ∧ Aside0 (wc.heap[gb899]? = some (.cells #[.int .i64 a0_0, .int .u64 a0_1] 24 (0, 0))) ∧ Aside0 (wc.heap[gb900]? = some (.cells #[.int .i64 a1_0, .int .u64 a1_1] 24 (0, 0))) ∧ Aside0 (wc.heap[gb901]? = some (.cells #[.int .i64 0, .int .u64 0, .int .i64 0, .int .u64 0] 62 (0, 0))) ∧ Aside0 (wc.heap[gb906]? = some (.cells #[.int .i64 t903, .int .u64 t904] 24 (0, 0))) ∧ Aside0 (wc.heap[gb910]? = some (.cells #[.int .i64 t907, .int .u64 t908] 24 (0, 0))) ∧ Aside0 (Below w.heap.size w wc))
  case first =>
    have H := HC18.out; clear HC18
    by_cases c42 : t905 = true
    rotate_left
    · replace c42 := Bool.eq_false_iff.mpr c42
      subst c42
      have H1 : (frac_Make.j0 k true t903 t904 t907 t908) = some (r1, r2, r3, r4, r5) := by rw [if_neg (show ¬ (false = true) by decide)] at H; exact H
      clear H; have H := H1; clear H1
      have H' := Aside0.mk H
      clear H
      go_wp2
      go_meet
      case rel => exact ⟨_, (true), (by first | rfl | (simp; done) | (simp [*]; done)), H', ⟨by first | omega | exact Nat.le_refl _⟩, ⟨kx BK899⟩, ⟨kx BK900⟩, ⟨kx BK901⟩, ⟨kx BK906⟩, ⟨by (with_reducible repeat (first | refine blk_drewN ?_ _ | refine blk_drew ?_ | refine blk_alloc ?_ _)); refine blk_put (cs := #[.int .i64 t907, .int .u64 0]) ?_ 1 _ rfl; (with_reducible repeat (first | refine blk_drewN ?_ _ | refine blk_drew ?_ | refine blk_alloc ?_ _)); refine blk_put (cs := #[.int .i64 0, .int .u64 0]) ?_ 0 _ rfl; (with_reducible repeat (first | refine blk_drewN ?_ _ | refine blk_drew ?_ | refine blk_alloc ?_ _)); exact BK910.out⟩, ⟨ky HB⟩⟩
    subst c42
    have H1 : (if t909 = true then ((wide_Sign.f t907 t908).bind fun t911 => (frac_Make.j0 k (t911 == 0) t903 t904 t907 t908)) else (frac_Make.j0 k true t903 t904 t907 t908)) = some (r1, r2, r3, r4, r5) := by rw [if_pos rfl] at H; exact H
    clear H; have H := H1; clear H1
    by_cases c43 : t909 = true
    rotate_left
    · replace c43 := Bool.eq_false_iff.mpr c43
      subst c43
      have H1 : (frac_Make.j0 k true t903 t904 t907 t908) = some (r1, r2, r3, r4, r5) := by rw [if_neg (show ¬ (false = true) by decide)] at H; exact H
      clear H; have H := H1; clear H1
      have H' := Aside0.mk H
      clear H
      go_wp2
      go_meet
      case rel => exact ⟨_, (true), (by first | rfl | (simp; done) | (simp [*]; done)), H', ⟨by first | omega | exact Nat.le_refl _⟩, ⟨kx BK899⟩, ⟨kx BK900⟩, ⟨kx BK901⟩, ⟨kx BK906⟩, ⟨by (with_reducible repeat (first | refine blk_drewN ?_ _ | refine blk_drew ?_ | refine blk_alloc ?_ _)); refine blk_put (cs := #[.int .i64 t907, .int .u64 0]) ?_ 1 _ rfl; (with_reducible repeat (first | refine blk_drewN ?_ _ | refine blk_drew ?_ | refine blk_alloc ?_ _)); refine blk_put (cs := #[.int .i64 0, .int .u64 0]) ?_ 0 _ rfl; (with_reducible repeat (first | refine blk_drewN ?_ _ | refine blk_drew ?_ | refine blk_alloc ?_ _)); exact BK910.out⟩, ⟨ky HB⟩⟩
    subst c43
    have H1 : ((wide_Sign.f t907 t908).bind fun t911 => (frac_Make.j0 k (t911 == 0) t903 t904 t907 t908)) = some (r1, r2, r3, r4, r5) := by rw [if_pos rfl] at H; exact H
    clear H; have H := H1; clear H1
    replace H := Option.bind_eq_some_iff.mp H
    obtain ⟨t911, A440, H⟩ := H
    replace H : (frac_Make.j0 k (t911 == 0) t903 t904 t907 t908) = some (r1, r2, r3, r4, r5) := H
    have A44 := Aside0.mk A440
    clear A440
    have H' := Aside0.mk H
    clear H; have hnb45 := NB910_899.out; have hnc45 := NB899_910.out; have hnb46 := NB910_900.out; have hnc46 := NB900_910.out; have hnb47 := NB910_901.out; have hnc47 := NB901_910.out; have hnb48 := NB910_906.out; have hnc48 := NB906_910.out
    have hcz49_0 : w36.cell? ⟨gb910, 0, none⟩ = some (.int .i64 0) := kc BK910 0
    have hcz49_1 : w36.cell? ⟨gb910, 1, none⟩ = some (.int .u64 0) := kc BK910 1
    have hfz49_0 := blk_frozen BK910.out 0
    have hfz49_1 := blk_frozen BK910.out 1
    go_wp2_with (first | (go_at_call 26; (with_reducible refine (wide_Sign.calls t907 t908 t911 _ A44.out).mono ?_); rintro e w50 ⟨rfl, hb⟩; have n0_ := kb BK899 hb; have n1_ := kb BK900 hb; have n2_ := kb BK901 hb; have n3_ := kb BK906 hb; have n4_ := Aside0.mk (blk_below (g := gb910) (o := .cells #[.int .i64 t907, .int .u64 t908] 24 (0, 0)) (by (with_reducible repeat (first | refine blk_drewN ?_ _ | refine blk_drew ?_ | refine blk_alloc ?_ _)); refine blk_put (cs := #[.int .i64 t907, .int .u64 0]) ?_ 1 _ rfl; (with_reducible repeat (first | refine blk_drewN ?_ _ | refine blk_drew ?_ | refine blk_alloc ?_ _)); refine blk_put (cs := #[.int .i64 0, .int .u64 0]) ?_ 0 _ rfl; (with_reducible repeat (first | refine blk_drewN ?_ _ | refine blk_drew ?_ | refine blk_alloc ?_ _)); exact BK910.out) hb); have n5_ := kB HB hb; clear BK899; clear BK900; clear BK901; clear BK906; clear BK910; clear HB; have BK899 := n0_; have BK900 := n1_; have BK901 := n2_; have BK906 := n3_; have BK910 := n4_; have HB := n5_; clear n0_ n1_ n2_ n3_ n4_ n5_; (try clear hb); (try clear hb2); (try clear hk); (try clear hi)))
    go_meet
    case rel => exact ⟨_, ((t911 == 0)), (by first | rfl | (simp; done) | (simp [*]; done)), H', ⟨by first | omega | exact Nat.le_refl _⟩, ⟨kx BK899⟩, ⟨kx BK900⟩, ⟨kx BK901⟩, ⟨kx BK906⟩, ⟨kx BK910⟩, ⟨ky HB⟩⟩
  case rest =>
    clear HC18; try clear c1; try clear c2; try clear p2; try clear c3; try clear c4; try clear c4b0; try clear c8; try clear c9; try clear c12; try clear c22; try clear c23; try clear c26; try clear c30; try clear c31; try clear c32; try clear c37; try clear c38; try clear c39; try clear c40; try clear c42; try clear c43; try clear c44; try clear c45; try clear c46; try clear c47; try clear c48; try clear hcz10_0; try clear hcz10_1; try clear hcz13_0; try clear hcz13_1; try clear hcz14_0; try clear hcz14_1; try clear hcz15_0; try clear hcz15_1; try clear hcz15_2; try clear hcz15_3; try clear hcz24_0; try clear hcz24_1; try clear hcz27_0; try clear hcz27_1; try clear hcz33_0; try clear hcz33_1; try clear hcz34_0; try clear hcz34_1; try clear hcz41_0; try clear hcz41_1; try clear hcz49_0; try clear hcz49_1; try clear hfz10_0; try clear hfz10_1; try clear hfz13_0; try clear hfz13_1; try clear hfz14_0; try clear hfz14_1; try clear hfz15_0; try clear hfz15_1; try clear hfz15_2; try clear hfz15_3; try clear hfz24_0; try clear hfz24_1; try clear hfz27_0; try clear hfz27_1; try clear hfz33_0; try clear hfz33_1; try clear hfz34_0; try clear hfz34_1; try clear hfz41_0; try clear hfz41_1; try clear hfz49_0; try clear hfz49_1
    obtain ⟨kq, x36_17, rfl, HA, HJ17, BK899, BK900, BK901, BK906, BK910, HB⟩ := hcut
    cases kq with
    | zero => exact absurd HA.out (by simp [frac_Make.j0])
    | succ kj17 =>
      have H := HA.out; clear HA
      simp only [frac_Make.j0] at H
      by_cases c51 : x36_17 = true
      · subst c51
        have H1 : (some (0, 0, 0, 0, false)) = some (r1, r2, r3, r4, r5) := by rw [if_pos rfl] at H; exact H
        clear H; have H := H1; clear H1
        simp only [Option.some.injEq, Prod.mk.injEq] at H
        obtain ⟨rfl, rfl, rfl, rfl, rfl⟩ := H
        have hnb52 := NB901_899.out; have hnc52 := NB899_901.out; have hnb53 := NB901_900.out; have hnc53 := NB900_901.out; have hnb54 := NB901_906.out; have hnc54 := NB906_901.out; have hnb55 := NB901_910.out; have hnc55 := NB910_901.out
        have hcz56_0 : wc.cell? ⟨gb901, 0, none⟩ = some (.int .i64 0) := kc BK901 0
        have hcz56_1 : wc.cell? ⟨gb901, 1, none⟩ = some (.int .u64 0) := kc BK901 1
        have hcz56_2 : wc.cell? ⟨gb901, 2, none⟩ = some (.int .i64 0) := kc BK901 2
        have hcz56_3 : wc.cell? ⟨gb901, 3, none⟩ = some (.int .u64 0) := kc BK901 3
        have hfz56_0 := blk_frozen BK901.out 0
        have hfz56_1 := blk_frozen BK901.out 1
        have hfz56_2 := blk_frozen BK901.out 2
        have hfz56_3 := blk_frozen BK901.out 3
        go_wp2
        refine bodyPost_ret (results_ct rfl _ _ gb901 62 #[.int .i64 0, .int .u64 0, .int .i64 0, .int .u64 0] (0, 0) _ rfl (by (with_reducible repeat (first | refine blk_drewN ?_ _ | refine blk_drew ?_ | refine blk_alloc ?_ _)); refine blk_put (cs := #[.int .i64 0, .int .u64 0, .int .i64 0, .int .u64 0]) ?_ 3 _ rfl; (with_reducible repeat (first | refine blk_drewN ?_ _ | refine blk_drew ?_ | refine blk_alloc ?_ _)); refine blk_put (cs := #[.int .i64 0, .int .u64 0, .int .i64 0, .int .u64 0]) ?_ 2 _ rfl; (with_reducible repeat (first | refine blk_drewN ?_ _ | refine blk_drew ?_ | refine blk_alloc ?_ _)); refine blk_put (cs := #[.int .i64 0, .int .u64 0, .int .i64 0, .int .u64 0]) ?_ 1 _ rfl; (with_reducible repeat (first | refine blk_drewN ?_ _ | refine blk_drew ?_ | refine blk_alloc ?_ _)); refine blk_put (cs := #[.int .i64 0, .int .u64 0, .int .i64 0, .int .u64 0]) ?_ 0 _ rfl; (with_reducible repeat (first | refine blk_drewN ?_ _ | refine blk_drew ?_ | refine blk_alloc ?_ _)); exact BK901.out) Try.underlying62 rfl (by kernel_rfl)) rfl ?_
        exact ⟨by first | rfl | (simp [errW_none, errW_some] <;> rfl) | (simp [*, errW_none, errW_some] <;> rfl), ky HB⟩
      replace c51 := Bool.eq_false_iff.mpr c51
      subst c51
      have H1 : (some (t903, t904, t907, t908, true)) = some (r1, r2, r3, r4, r5) := by rw [if_neg (show ¬ (false = true) by decide)] at H; exact H
      clear H; have H := H1; clear H1
      simp only [Option.some.injEq, Prod.mk.injEq] at H
      obtain ⟨rfl, rfl, rfl, rfl, rfl⟩ := H
      have hnb57 := NB906_899.out; have hnc57 := NB899_906.out; have hnb58 := NB906_900.out; have hnc58 := NB900_906.out; have hnb59 := NB906_901.out; have hnc59 := NB901_906.out; have hnb60 := NB906_910.out; have hnc60 := NB910_906.out
      have hcz61_0 : wc.cell? ⟨gb906, 0, none⟩ = some (.int .i64 t903) := kc BK906 0
      have hcz61_1 : wc.cell? ⟨gb906, 1, none⟩ = some (.int .u64 t904) := kc BK906 1
      have hfz61_0 := blk_frozen BK906.out 0
      have hfz61_1 := blk_frozen BK906.out 1
      have hnb62 := NB910_899.out; have hnc62 := NB899_910.out; have hnb63 := NB910_900.out; have hnc63 := NB900_910.out; have hnb64 := NB910_901.out; have hnc64 := NB901_910.out
      have hcz65_0 : wc.cell? ⟨gb910, 0, none⟩ = some (.int .i64 t907) := kc BK910 0
      have hcz65_1 : wc.cell? ⟨gb910, 1, none⟩ = some (.int .u64 t908) := kc BK910 1
      have hfz65_0 := blk_frozen BK910.out 0
      have hfz65_1 := blk_frozen BK910.out 1
      have hnb66 := NB901_899.out; have hnc66 := NB899_901.out; have hnb67 := NB901_900.out; have hnc67 := NB900_901.out
      have hcz68_0 : wc.cell? ⟨gb901, 0, none⟩ = some (.int .i64 0) := kc BK901 0
      have hcz68_1 : wc.cell? ⟨gb901, 1, none⟩ = some (.int .u64 0) := kc BK901 1
      have hcz68_2 : wc.cell? ⟨gb901, 2, none⟩ = some (.int .i64 0) := kc BK901 2
      have hcz68_3 : wc.cell? ⟨gb901, 3, none⟩ = some (.int .u64 0) := kc BK901 3
      have hfz68_0 := blk_frozen BK901.out 0
      have hfz68_1 := blk_frozen BK901.out 1
      have hfz68_2 := blk_frozen BK901.out 2
      have hfz68_3 := blk_frozen BK901.out 3
      go_wp2
      refine bodyPost_ret (results_ct rfl _ _ gb901 62 #[.int .i64 t903, .int .u64 t904, .int .i64 t907, .int .u64 t908] (0, 0) _ rfl (by (with_reducible repeat (first | refine blk_drewN ?_ _ | refine blk_drew ?_ | refine blk_alloc ?_ _)); refine blk_put (cs := #[.int .i64 t903, .int .u64 t904, .int .i64 t907, .int .u64 0]) ?_ 3 _ rfl; (with_reducible repeat (first | refine blk_drewN ?_ _ | refine blk_drew ?_ | refine blk_alloc ?_ _)); refine blk_put (cs := #[.int .i64 t903, .int .u64 t904, .int .i64 0, .int .u64 0]) ?_ 2 _ rfl; (with_reducible repeat (first | refine blk_drewN ?_ _ | refine blk_drew ?_ | refine blk_alloc ?_ _)); refine blk_put (cs := #[.int .i64 t903, .int .u64 0, .int .i64 0, .int .u64 0]) ?_ 1 _ rfl; (with_reducible repeat (first | refine blk_drewN ?_ _ | refine blk_drew ?_ | refine blk_alloc ?_ _)); refine blk_put (cs := #[.int .i64 0, .int .u64 0, .int .i64 0, .int .u64 0]) ?_ 0 _ rfl; (with_reducible repeat (first | refine blk_drewN ?_ _ | refine blk_drew ?_ | refine blk_alloc ?_ _)); exact BK901.out) Try.underlying62 rfl (by kernel_rfl)) rfl ?_
      exact ⟨by first | rfl | (simp [errW_none, errW_some] <;> rfl) | (simp [*, errW_none, errW_some] <;> rfl), ky HB⟩

end Go.Proofs.Ytpjbniihdndlmaa.Q
