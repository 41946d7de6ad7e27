-- Printed by wip/pp.sh (a session's own turning of the kit's print) for this seat.
import Derived.Test.YtpjbniihdndlmaaQx0
import Derived.Test.YtpjbniihdndlmaaQx1
import Derived.Test.YtpjbniihdndlmaaQx6
namespace Go.Proofs.Ytpjbniihdndlmaa.Q
open Go.RowKit Go.Proofs.YtpjbniihdndlmaaW.PrintWords Go.Proofs.YtpjbniihdndlmaaW.PrintLast Go.Proofs.YtpjbniihdndlmaaW.PrintMore
open Go.Proofs.Ytpjbniihdndlmaa.H
attribute [local go_sem] hq_add64 hq_sub64 hq_not64 add64c_nn sub64c_nn sub64c_le
attribute [local go_sem] max2_int min2_int max_two min_two max_three min_three max_four min_four   -- for this text's walks alone
set_option linter.unusedVariables false
set_option linter.unusedSimpArgs false

attribute [local go_sem high] eqA24
/-! ### wide_Neg: function 44 -/
def wide_Neg.f (a0_0 : Int) (a0_1 : Int) : Option (Int × Int × Bool) := (wide_turn.f a0_0 a0_1).bind fun bt892 => ((wide_least.f).bind fun bt894 => ((wide_told.f bt892.1 bt892.2 (!(a0_0 == bt894.1) || (!(a0_1 == bt894.2)))).bind fun bt896 => (some (bt896.1, bt896.2.1, bt896.2.2))))
def wide_Neg.T1 : Bool × List (List Nat × List Nat) := (true, [([], []), ([0], [0]), ([], []), ([1], []), ([2, 3], [2, 3]), ([1, 4, 3], [1, 4]), ([5], [5]), ([5], [5]), ([6, 5, 0, 1, 2, 3, 4, 5, 6, 7], [6]), ([7, 8, 0, 1, 2, 3, 4, 5, 6, 7, 8], [7])])
def wide_Neg.B1 : List Nat := [0, 1, 0, 3, 15, 31, 63, 63, 255, 511]
theorem wide_Neg.tab1 : rtab .any (opsOf Try.f44 1) = wide_Neg.T1 := by kernel_rfl
theorem wide_Neg.bits1 : waitsOk wide_Neg.T1.2 wide_Neg.B1 = true := by kernel_rfl
set_option maxHeartbeats 8000000 in
set_option maxRecDepth 100000 in
theorem wide_Neg.calls (a0_0 : Int) (a0_1 : Int) (r1 : Int) (r2 : Int) (r3 : Bool) (w : World) (h : wide_Neg.f a0_0 a0_1 = some (r1, r2, r3)) :
  Calls Try.prog 44 #[.agg #[.int .i64 a0_0, .int .u64 a0_1]] w fun e w' => e = .returned (.tuple #[.agg #[.int .i64 r1, .int .u64 r2], .bool r3]) ∧ Below w.heap.size w w' := by
 have hu24 := Try.underlying24; have HB := Aside0.mk (Below.refl w.heap.size w); have H : ((wide_turn.f a0_0 a0_1).bind fun bt892 => ((wide_least.f).bind fun bt894 => ((wide_told.f bt892.1 bt892.2 (!(a0_0 == bt894.1) || (!(a0_1 == bt894.2)))).bind fun bt896 => (some (bt896.1, bt896.2.1, bt896.2.2))))) = some (r1, r2, r3) := h; clear h; replace H := Option.bind_eq_some_iff.mp H; obtain ⟨⟨t892, t893⟩, A20, H⟩ := H; replace H : ((wide_least.f).bind fun bt894 => ((wide_told.f t892 t893 (!(a0_0 == bt894.1) || (!(a0_1 == bt894.2)))).bind fun bt896 => (some (bt896.1, bt896.2.1, bt896.2.2)))) = some (r1, r2, r3) := H; have A2 := Aside0.mk A20; clear A20; replace H := Option.bind_eq_some_iff.mp H; obtain ⟨⟨t894, t895⟩, A30, H⟩ := H; replace H : ((wide_told.f t892 t893 (!(a0_0 == t894) || (!(a0_1 == t895)))).bind fun bt896 => (some (bt896.1, bt896.2.1, bt896.2.2))) = some (r1, r2, r3) := H; have A3 := Aside0.mk A30; clear A30; replace H := Option.bind_eq_some_iff.mp H; obtain ⟨⟨t896, t897, t898⟩, A40, H⟩ := H; replace H : (some (t896, t897, t898)) = some (r1, r2, r3) := H; have A4 := Aside0.mk A40; clear A40
 simp only [Option.some.injEq, Prod.mk.injEq] at H
 obtain ⟨rfl, rfl, rfl⟩ := H
 go_enter Try.func44, Try.ntmps44
 try go_wp2_with (first | ((with_reducible refine gate_dst (N := 1) rfl ?_); refine box_event ?hg (N := 1) ?hd (cs := #[.int .i64 a0_0, .int .u64 a0_1]) (t := 24) ?hr ?_; (case hd => rfl); (case hg => rfl); (case hr => first | (go_simp; done) | (go_simp; rfl)); intro gb890 hg w5 hbox hb; have BK890 := Aside0.mk (hbox); have GW890 := kS HB hg; have GE890 := kS HB hg; replace HB := kB HB hb; clear hb hbox hg) | ((with_reducible refine gate_dst (N := 2) rfl ?_); refine box_event ?hg (N := 2) ?hd (cs := #[.int .i64 0, .int .u64 0]) (t := 24) ?hr ?_; (case hd => rfl); (case hg => rfl); (case hr => first | (go_simp; done) | (go_simp; rfl)); intro gb891 hg w6 hbox hb; have BK891 := Aside0.mk (hbox); have GW891 := kS HB hg; have GE891 := kS HB hg; have NB890_891 := kN BK890 hg; have NB891_890 := kM BK890 hg; replace BK890 := kb BK890 hb; replace HB := kB HB hb; clear hb hbox hg))
 replace BK890 := Aside0.mk (blk_drew BK890.out); replace BK891 := Aside0.mk (blk_drew BK891.out); replace HB := Aside0.mk (below_drew1 HB.out); refine start_ (n := 10) (S := fun w' => w'.cell? ⟨gb890, 0, none⟩ = some (.int .i64 a0_0) ∧ w'.cell? ⟨gb890, 1, none⟩ = some (.int .u64 a0_1)) (ds := []) #[O, O, O, O, O, O, O, O, O, O] (by kernel_rfl) rfl rfl ⟨kc BK890 0, kc BK890 1⟩ (fun hHeld => ?_); refine with_tabW wide_Neg.tab1 wide_Neg.bits1 (fun HT_ HW_ => ?_)
 generalize w6.drew = w7 at BK890 BK891 HB hHeld ⊢
 refine take_ (i := 0) (N := some 4) (v := ?_) (a' := ?_) #[T, O, O, O, O, O, O, O, O, O] rfl rfl (take_ofW HT_.out HW_.out (by kernel_rfl)) (fun _ _ _ h => h) (Or.inl ⟨by rfl, ?_⟩) hHeld ?_ ?_; rotate_left; focus (rintro w' ⟨s0, s1⟩; go_simp; with_reducible rfl)
 rotate_left; focus (simp only [Act.put, s1, s2, s3, i64_w, i32_w]; rfl)
 refine take_ (i := 2) (N := some 6) (v := ?_) (a' := ?_) #[T, O, T, O, O, O, O, O, O, O] rfl rfl (take_ofW HT_.out HW_.out (by kernel_rfl)) (fun _ _ _ h => h) (Or.inl ⟨by rfl, ?_⟩) hHeld ?_ ?_; rotate_left; focus (rintro w' ⟨s0, s1⟩; go_simp; with_reducible rfl)
 rotate_left; focus (simp only [Act.put, s1, s2, s3, i64_w, i32_w]; rfl)
 refine one_ (i := 1) (N := some 5) #[T, T, T, O, O, O, O, O, O, O] rfl rfl (one_of HT_.out (by kernel_rfl)) (by decide) (fun K hK => ?_); refine goes_ Try.func66 (by kernel_rfl) rfl #[.agg #[.int .i64 a0_0, .int .u64 a0_1]] (by rfl) rfl rfl (by (try simp only [zm, zc, zn]); first | done | rfl | (simp only [zd, zt]; rfl)) ?_
 with_reducible refine (wide_turn.calls a0_0 a0_1 t892 t893 _ A2.out).mono ?_
 rintro e w8 ⟨rfl, hb⟩; refine ⟨_, rfl, ?_⟩; replace BK890 := kb BK890 hb; replace BK891 := kb BK891 hb; replace HB := kB HB hb
 (try clear hb); (try clear hb2); (try clear hk); (try clear hi)
 refine hK.out _ _ ⟨kc BK890 0, kc BK890 1⟩ (fun hHeld => ?_); clear hK K
 refine norm_ (a' := ?_) ?_ ?_; rotate_left; focus (show Act.put _ (some 5) _ = _; simp only [Act.put, s1, s2, s3, i64_w, i32_w]; rfl)
 refine one_ (i := 3) (N := some 7) #[T, T, T, T, O, O, O, O, O, O] rfl rfl (one_of HT_.out (by kernel_rfl)) (by decide) (fun K hK => ?_); refine goes_ Try.func76 (by kernel_rfl) rfl #[] (by rfl) rfl rfl (by (try simp only [zm, zc, zn]); first | done | rfl | (simp only [zd, zt]; rfl)) ?_
 with_reducible refine (wide_least.calls  t894 t895 _ A3.out).mono ?_
 rintro e w9 ⟨rfl, hb⟩; refine ⟨_, rfl, ?_⟩; replace BK890 := kb BK890 hb; replace BK891 := kb BK891 hb; replace HB := kB HB hb
 (try clear hb); (try clear hb2); (try clear hk); (try clear hi)
 refine hK.out _ _ ⟨kc BK890 0, kc BK890 1⟩ (fun hHeld => ?_); clear hK K
 refine norm_ (a' := ?_) ?_ ?_; rotate_left; focus (show Act.put _ (some 7) _ = _; simp only [Act.put, s1, s2, s3, i64_w, i32_w]; rfl)
 refine pure_ (i := 4) (N := some 8) (v := ?_) (a' := ?_) #[T, T, T, T, T, O, O, O, O, O] rfl rfl (any_of HT_.out (by kernel_rfl)) (fun _ _ _ h => h) (Or.inl ⟨by rfl, ?_⟩) ?_ ?_; rotate_left; focus (intro w'; go_simp; with_reducible rfl)
 rotate_left; focus (simp only [Act.put, s1, s2, s3, i64_w, i32_w]; rfl)
 refine one_ (i := 5) (N := some 9) #[T, T, T, T, T, T, O, O, O, O] rfl rfl (one_of HT_.out (by kernel_rfl)) (by decide) (fun K hK => ?_); refine goes_ Try.func59 (by kernel_rfl) rfl #[.agg #[.int .i64 t892, .int .u64 t893], .bool (!(a0_0 == t894) || (!(a0_1 == t895)))] (by rfl) rfl rfl (by (try simp only [zm, zc, zn]); first | done | rfl | (simp only [zd, zt]; rfl)) ?_
 with_reducible refine (wide_told.calls t892 t893 (!(a0_0 == t894) || (!(a0_1 == t895))) t896 t897 t898 _ A4.out).mono ?_
 rintro e w10 ⟨rfl, hb⟩; refine ⟨_, rfl, ?_⟩; replace BK890 := kb BK890 hb; replace BK891 := kb BK891 hb; replace HB := kB HB hb
 (try clear hb); (try clear hb2); (try clear hk); (try clear hi)
 refine hK.out _ _ ⟨kc BK890 0, kc BK890 1⟩ (fun hHeld => ?_); clear hK K
 refine norm_ (a' := ?_) ?_ ?_; rotate_left; focus (show Act.put _ (some 9) _ = _; simp only [Act.put, s1, s2, s3, i64_w, i32_w]; rfl)
 refine pure_ (i := 6) (N := some 10) (v := ?_) (a' := ?_) #[T, T, T, T, T, T, T, O, O, O] rfl rfl (any_of HT_.out (by kernel_rfl)) (fun _ _ _ h => h) (Or.inl ⟨by rfl, ?_⟩) ?_ ?_; rotate_left; focus (intro w'; go_simp; with_reducible rfl)
 rotate_left; focus (simp only [Act.put, s1, s2, s3, i64_w, i32_w]; rfl)
 refine pure_ (i := 7) (N := some 11) (v := ?_) (a' := ?_) #[T, T, T, T, T, T, T, T, O, O] rfl rfl (any_of HT_.out (by kernel_rfl)) (fun _ _ _ h => h) (Or.inl ⟨by rfl, ?_⟩) ?_ ?_; rotate_left; focus (intro w'; go_simp; with_reducible rfl)
 rotate_left; focus (simp only [Act.put, s1, s2, s3, i64_w, i32_w]; rfl)
 refine one_ (i := 8) (N := none) #[T, T, T, T, T, T, T, T, T, O] rfl rfl (one_of HT_.out (by kernel_rfl)) (by decide) (fun K hK => ?_); have hs11 : w10.cell? ⟨gb891, 0, none⟩ = some (.int .i64 0) := kc BK891 0; have hfs11 := blk_frozen BK891.out 0; have hns11_0 := NB890_891.out; have hms11_0 := NB891_890.out; have hs12 : w10.cell? ⟨gb891, 1, none⟩ = some (.int .u64 0) := kc BK891 1; have hfs12 := blk_frozen BK891.out 1; have hns12_0 := NB890_891.out; have hms12_0 := NB891_890.out; refine skip_ (w1 := ?_) (by rfl) rfl ?_ ?_; rotate_left
 ·go_simp
  rfl
 refine hK.out _ _ ⟨((cell_far (p := ⟨gb891, _, none⟩) NB890_891.out _).trans (((cell_far (p := ⟨gb891, _, none⟩) NB890_891.out _).trans (hHeld.1)))), ((cell_far (p := ⟨gb891, _, none⟩) NB890_891.out _).trans (((cell_far (p := ⟨gb891, _, none⟩) NB890_891.out _).trans (hHeld.2))))⟩ (fun hHeld => ?_); clear hK K
 refine pure_ (i := 9) (N := some 3) (v := ?_) (a' := ?_) #[T, T, T, T, T, T, T, T, T, T] rfl rfl (any_of HT_.out (by kernel_rfl)) (fun _ _ _ h => h) (Or.inl ⟨by rfl, ?_⟩) ?_ ?_; rotate_left; focus (intro w'; go_simp; with_reducible rfl)
 rotate_left; focus (simp only [Act.put, s1, s2, s3, i64_w, i32_w]; rfl)
 refine done_ (done_of HT_.out (by kernel_rfl)) ?_
 try go_wp2
 refine bodyPost_ret (results_ct rfl _ _ gb891 24 #[.int .i64 t896, .int .u64 t897] (0, 0) _ rfl (by (with_reducible repeat (first | refine zr ?_ _ | refine zw ?_ | refine za ?_ _)); refine blk_put (cs := #[.int .i64 t896, .int .u64 0]) ?_ 1 _ rfl; (with_reducible repeat (first | refine zr ?_ _ | refine zw ?_ | refine za ?_ _)); refine blk_put (cs := #[.int .i64 0, .int .u64 0]) ?_ 0 _ rfl; (with_reducible repeat (first | refine zr ?_ _ | refine zw ?_ | refine za ?_ _)); exact BK891.out) Try.underlying24 rfl (by kernel_rfl)) rfl ?_; exact ⟨by first | rfl | (simp [errW_none, errW_some] <;> rfl) | (simp [*, errW_none, errW_some] <;> rfl), ky HB⟩

end Go.Proofs.Ytpjbniihdndlmaa.Q
