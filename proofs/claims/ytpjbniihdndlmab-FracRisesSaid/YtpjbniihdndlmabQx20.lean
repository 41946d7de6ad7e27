-- Printed by wip/pp.sh (a session's own turning of the kit's print) for this seat.
import Derived.Test.YtpjbniihdndlmabQx0
import Derived.Test.YtpjbniihdndlmabQx1
import Derived.Test.YtpjbniihdndlmabQx16
import Derived.Test.YtpjbniihdndlmabQx18
import Derived.Test.YtpjbniihdndlmabQx19
namespace Go.Proofs.Ytpjbniihdndlmab.Q
open Go.RowKit Go.Proofs.YtpjbniihdndlmabW.PrintWords Go.Proofs.YtpjbniihdndlmabW.PrintLast Go.Proofs.YtpjbniihdndlmabW.PrintMore
open Go.Proofs.Ytpjbniihdndlmab.H
attribute [local go_sem] hq_add64 hq_sub64 hq_not64 add64c_nn sub64c_nn sub64c_le
attribute [local go_sem] max2_int min2_int max_two min_two max_three min_three max_four min_four   -- for this text's walks alone
set_option linter.unusedVariables false
set_option linter.unusedSimpArgs false

attribute [local go_sem high] eqA24
/-! ### wide_signed: function 61 -/
def wide_signed.f (a0 : Int) (a1 : Int) (a2 : Bool) : Option (Int × Int × Bool) := if a2 = true then ((wide_turn.f (wrap64 (a0)) a1).bind fun bt133 => (if (a0 / 9223372036854775808) = 0 then ((wide_told.f bt133.1 bt133.2 true).bind fun bt135 => (some (bt135.1, bt135.2.1, bt135.2.2))) else ((wide_least.f).bind fun bt138 => ((wide_told.f bt133.1 bt133.2 (bt133.1 == bt138.1 && (bt133.2 == bt138.2))).bind fun bt140 => (some (bt140.1, bt140.2.1, bt140.2.2)))))) else (if (a0 / 9223372036854775808) = 0 then ((wide_told.f (wrap64 (a0)) a1 true).bind fun bt143 => (some (bt143.1, bt143.2.1, bt143.2.2))) else ((wide_told.f (wrap64 (a0)) a1 false).bind fun bt146 => (some (bt146.1, bt146.2.1, bt146.2.2))))
def wide_signed.T4 : Bool × List (List Nat × List Nat) := (true, [([], []), ([], []), ([1], [1]), ([2], [2]), ([3], [3]), ([4], [4]), ([5, 4, 4], [4, 5]), ([6], [6]), ([6, 6], [6]), ([7, 8, 6], [6, 7, 8]), ([6, 9, 4], [4, 6, 9]), ([4, 10], [4, 10]), ([0, 11, 8], [0, 11]), ([12], [12]), ([12], [12]), ([13, 12, 0, 1, 2, 3, 4, 5, 6, 7, 8, 9, 10, 11, 12, 13, 14], [13]), ([14, 15, 0, 1, 2, 3, 4, 5, 6, 7, 8, 9, 10, 11, 12, 13, 14, 15], [14])])
def wide_signed.B4 : List Nat := [0, 0, 2, 6, 14, 30, 62, 126, 126, 510, 1022, 2046, 4095, 8191, 8191, 32767, 65535]
theorem wide_signed.tab4 : rtab .any (opsOf Try.f61 4) = wide_signed.T4 := by kernel_rfl
theorem wide_signed.bits4 : waitsOk wide_signed.T4.2 wide_signed.B4 = true := by kernel_rfl
set_option maxHeartbeats 8000000 in
set_option maxRecDepth 100000 in
theorem wide_signed.calls (a0 : Int) (a1 : Int) (a2 : Bool) (r1 : Int) (r2 : Int) (r3 : Bool) (w : World) (h : wide_signed.f a0 a1 a2 = some (r1, r2, r3)) :
    Calls Try.prog 61 #[.int .u64 a0, .int .u64 a1, .bool a2] w fun e w' => e = .returned (.tuple #[.agg #[.int .i64 r1, .int .u64 r2], .bool r3]) ∧ Below w.heap.size w w' := by
  have hu24 := Try.underlying24
  have HB := Aside0.mk (Below.refl w.heap.size w)
  have H : (if a2 = true then ((wide_turn.f (wrap64 (a0)) a1).bind fun bt133 => (if (a0 / 9223372036854775808) = 0 then ((wide_told.f bt133.1 bt133.2 true).bind fun bt135 => (some (bt135.1, bt135.2.1, bt135.2.2))) else ((wide_least.f).bind fun bt138 => ((wide_told.f bt133.1 bt133.2 (bt133.1 == bt138.1 && (bt133.2 == bt138.2))).bind fun bt140 => (some (bt140.1, bt140.2.1, bt140.2.2)))))) else (if (a0 / 9223372036854775808) = 0 then ((wide_told.f (wrap64 (a0)) a1 true).bind fun bt143 => (some (bt143.1, bt143.2.1, bt143.2.2))) else ((wide_told.f (wrap64 (a0)) a1 false).bind fun bt146 => (some (bt146.1, bt146.2.1, bt146.2.2))))) = some (r1, r2, r3) := h
  clear h
  by_cases c4 : a2 = true
  rotate_left
  · replace c4 := Bool.eq_false_iff.mpr c4
    subst c4
    have H1 : (if (a0 / 9223372036854775808) = 0 then ((wide_told.f (wrap64 (a0)) a1 true).bind fun bt143 => (some (bt143.1, bt143.2.1, bt143.2.2))) else ((wide_told.f (wrap64 (a0)) a1 false).bind fun bt146 => (some (bt146.1, bt146.2.1, bt146.2.2)))) = some (r1, r2, r3) := by rw [if_neg (show ¬ (false = true) by decide)] at H; exact H
    clear H; have H := H1; clear H1
    by_cases c33 : (a0 / 9223372036854775808) = 0
    · rw [if_pos c33] at H
      have c33b0 : ((a0 / 9223372036854775808) == 0) = true := beq_iff_eq.mpr c33
      have c33b1 : ((a0 / 9223372036854775808) != 0) = false := bne_eq_false_iff_eq.mpr c33
      clear c33
      replace H := Option.bind_eq_some_iff.mp H
      obtain ⟨⟨t143, t144, t145⟩, A340, H⟩ := H
      replace H : (some (t143, t144, t145)) = some (r1, r2, r3) := H
      have A34 := Aside0.mk A340
      clear A340
      simp only [Option.some.injEq, Prod.mk.injEq] at H
      obtain ⟨rfl, rfl, rfl⟩ := H
      go_enter Try.func61, Try.ntmps61
      try go_wp2_with (first | ((with_reducible refine gate_dst (N := 6) rfl ?_); refine box_event ?hg (N := 6) ?hd (cs := #[.int .i64 0, .int .u64 0]) (t := 24) ?hr ?_; (case hd => rfl); (case hg => rfl); (case hr => first | (go_simp; done) | (go_simp; rfl)); intro gb131 hg w35 hbox hb; have BK131 := Aside0.mk (hbox); have GW131 := kS HB hg; have GE131 := kS HB hg; replace HB := kB HB hb; clear hb hbox hg) | ((with_reducible refine gate_dst (N := 8) rfl ?_); refine box_event ?hg (N := 8) ?hd (cs := #[.int .i64 0, .int .u64 0]) (t := 24) ?hr ?_; (case hd => rfl); (case hg => rfl); (case hr => first | (go_simp; done) | (go_simp; rfl)); intro gb132 hg w36 hbox hb; have BK132 := Aside0.mk (hbox); have GW132 := kS HB hg; have GE132 := kS HB hg; have NB131_132 := kN BK131 hg; have NB132_131 := kM BK131 hg; replace BK131 := kb BK131 hb; replace HB := kB HB hb; clear hb hbox hg; have hnb37 := NB132_131.out; have hnc37 := NB131_132.out; have hcz38_0 : w36.cell? ⟨gb132, 0, none⟩ = some (.int .i64 0) := kc BK132 0; have hcz38_1 : w36.cell? ⟨gb132, 1, none⟩ = some (.int .u64 0) := kc BK132 1; have hfz38_0 := blk_frozen BK132.out 0; have hfz38_1 := blk_frozen BK132.out 1))
      have n0_ : Aside0 (((w36.setCell ⟨gb132, 0, none⟩ (.int .i64 (wrap64 (a0)))).setCell ⟨gb132, 1, none⟩ (.int .u64 a1)).heap[gb131]? = some (.cells #[.int .i64 0, .int .u64 0] 24 (0, 0))) := ⟨kx BK131⟩
      have n1_ : Aside0 (((w36.setCell ⟨gb132, 0, none⟩ (.int .i64 (wrap64 (a0)))).setCell ⟨gb132, 1, none⟩ (.int .u64 a1)).heap[gb132]? = some (.cells #[.int .i64 (wrap64 (a0)), .int .u64 a1] 24 (0, 0))) := ⟨by (with_reducible repeat (first | refine blk_drewN ?_ _ | refine blk_drew ?_ | refine blk_alloc ?_ _)); refine blk_put (cs := #[.int .i64 (wrap64 (a0)), .int .u64 0]) ?_ 1 _ rfl; (with_reducible repeat (first | refine blk_drewN ?_ _ | refine blk_drew ?_ | refine blk_alloc ?_ _)); refine blk_put (cs := #[.int .i64 0, .int .u64 0]) ?_ 0 _ rfl; (with_reducible repeat (first | refine blk_drewN ?_ _ | refine blk_drew ?_ | refine blk_alloc ?_ _)); exact BK132.out⟩
      have n2_ : Aside0 (Below w.heap.size w ((w36.setCell ⟨gb132, 0, none⟩ (.int .i64 (wrap64 (a0)))).setCell ⟨gb132, 1, none⟩ (.int .u64 a1))) := ⟨ky HB⟩
      (try clear BK131); (try clear BK132); (try clear HB)
      generalize ((w36.setCell ⟨gb132, 0, none⟩ (.int .i64 (wrap64 (a0)))).setCell ⟨gb132, 1, none⟩ (.int .u64 a1)) = w39 at n0_ n1_ n2_ ⊢
      have BK131 := n0_; have BK132 := n1_; have HB := n2_
      clear n0_ n1_ n2_
      replace BK131 := Aside0.mk (blk_drew BK131.out)
      replace BK132 := Aside0.mk (blk_drew BK132.out)
      replace HB := Aside0.mk (below_drew1 HB.out)
      refine start_ (n := 17) (S := fun w' => w'.cell? ⟨gb132, 0, none⟩ = some (.int .i64 (wrap64 (a0))) ∧ w'.cell? ⟨gb132, 1, none⟩ = some (.int .u64 a1)) (ds := []) #[O, O, O, O, O, O, O, O, O, O, O, O, O, O, O, O, O] (by kernel_rfl) rfl rfl ⟨kc BK132 0, kc BK132 1⟩ (fun hHeld => ?_); refine with_tabW wide_signed.tab4 wide_signed.bits4 (fun HT_ HW_ => ?_)
      generalize w39.drew = w40 at BK131 BK132 HB hHeld ⊢
      refine pure_ (i := 1) (N := some 17) (v := ?_) (a' := ?_) #[O, T, O, O, O, O, O, O, O, O, O, O, O, O, O, O, O] rfl rfl (any_of HT_.out (by kernel_rfl)) (fun _ _ _ h => h) (Or.inl ⟨by rfl, ?_⟩) ?_ ?_; rotate_left; focus (intro w'; go_simp; with_reducible rfl)
      rotate_left; focus (simp only [Act.put, s1, s2, s3, i64_w, i32_w]; rfl)
      refine pure_ (i := 2) (N := some 18) (v := ?_) (a' := ?_) #[O, T, T, O, O, O, O, O, O, O, O, O, O, O, O, O, O] rfl rfl (any_of HT_.out (by kernel_rfl)) (fun _ _ _ h => h) (Or.inl ⟨by rfl, ?_⟩) ?_ ?_; rotate_left; focus (intro w'; go_simp; with_reducible rfl)
      rotate_left; focus (simp only [Act.put, s1, s2, s3, i64_w, i32_w]; rfl)
      refine pure_ (i := 3) (N := some 19) (v := ?_) (a' := ?_) #[O, T, T, T, O, O, O, O, O, O, O, O, O, O, O, O, O] rfl rfl (any_of HT_.out (by kernel_rfl)) (fun _ _ _ h => h) (Or.inl ⟨by rfl, ?_⟩) ?_ ?_; rotate_left; focus (intro w'; go_simp; with_reducible rfl)
      rotate_left; focus (simp only [Act.put, s1, s2, s3, i64_w, i32_w]; rfl)
      refine pure_ (i := 4) (N := some 20) (v := ?_) (a' := ?_) #[O, T, T, T, T, O, O, O, O, O, O, O, O, O, O, O, O] rfl rfl (any_of HT_.out (by kernel_rfl)) (fun _ _ _ h => h) (Or.inl ⟨by rfl, ?_⟩) ?_ ?_; rotate_left; focus (intro w'; go_simp; with_reducible rfl)
      rotate_left; focus (simp only [Act.put, s1, s2, s3, i64_w, i32_w]; rfl)
      refine pure_ (i := 5) (N := some 21) (v := undef) (a' := ?_) #[O, T, T, T, T, T, O, O, O, O, O, O, O, O, O, O, O] rfl rfl (any_of HT_.out (by kernel_rfl)) (fun _ _ _ h => h) (Or.inr ⟨by rfl, rfl⟩) ?_ ?_; rotate_left; focus (simp only [Act.put, s1, s2, s3, i64_w, i32_w]; rfl)
      refine pure_ (i := 6) (N := some 22) (v := undef) (a' := ?_) #[O, T, T, T, T, T, T, O, O, O, O, O, O, O, O, O, O] rfl rfl (any_of HT_.out (by kernel_rfl)) (fun _ _ _ h => h) (Or.inr ⟨by rfl, rfl⟩) ?_ ?_; rotate_left; focus (simp only [Act.put, s1, s2, s3, i64_w, i32_w]; rfl)
      refine pure_ (i := 7) (N := some 23) (v := undef) (a' := ?_) #[O, T, T, T, T, T, T, T, O, O, O, O, O, O, O, O, O] rfl rfl (any_of HT_.out (by kernel_rfl)) (fun _ _ _ h => h) (Or.inr ⟨by rfl, rfl⟩) ?_ ?_; rotate_left; focus (simp only [Act.put, s1, s2, s3, i64_w, i32_w]; rfl)
      refine pure_ (i := 8) (N := some 24) (v := undef) (a' := ?_) #[O, T, T, T, T, T, T, T, T, O, O, O, O, O, O, O, O] rfl rfl (any_of HT_.out (by kernel_rfl)) (fun _ _ _ h => h) (Or.inr ⟨by rfl, rfl⟩) ?_ ?_; rotate_left; focus (simp only [Act.put, s1, s2, s3, i64_w, i32_w]; rfl)
      refine pure_ (i := 9) (N := some 25) (v := undef) (a' := ?_) #[O, T, T, T, T, T, T, T, T, T, O, O, O, O, O, O, O] rfl rfl (any_of HT_.out (by kernel_rfl)) (fun _ _ _ h => h) (Or.inr ⟨by rfl, rfl⟩) ?_ ?_; rotate_left; focus (simp only [Act.put, s1, s2, s3, i64_w, i32_w]; rfl)
      refine pure_ (i := 10) (N := some 26) (v := undef) (a' := ?_) #[O, T, T, T, T, T, T, T, T, T, T, O, O, O, O, O, O] rfl rfl (any_of HT_.out (by kernel_rfl)) (fun _ _ _ h => h) (Or.inr ⟨by rfl, rfl⟩) ?_ ?_; rotate_left; focus (simp only [Act.put, s1, s2, s3, i64_w, i32_w]; rfl)
      refine pure_ (i := 11) (N := some 27) (v := ?_) (a' := ?_) #[O, T, T, T, T, T, T, T, T, T, T, T, O, O, O, O, O] rfl rfl (any_of HT_.out (by kernel_rfl)) (fun _ _ _ h => h) (Or.inl ⟨by rfl, ?_⟩) ?_ ?_; rotate_left; focus (intro w'; go_simp; with_reducible rfl)
      rotate_left; focus (simp only [Act.put, s1, s2, s3, i64_w, i32_w]; rfl)
      refine take_ (i := 0) (N := some 16) (v := ?_) (a' := ?_) #[T, T, T, T, T, T, T, T, T, T, T, T, O, O, O, O, O] rfl rfl (take_ofW HT_.out HW_.out (by kernel_rfl)) (fun _ _ _ h => h) (Or.inl ⟨by rfl, ?_⟩) hHeld ?_ ?_; rotate_left; focus (rintro w' ⟨s0, s1⟩; go_simp; with_reducible rfl)
      rotate_left; focus (simp only [Act.put, s1, s2, s3, i64_w, i32_w]; rfl)
      refine one_ (i := 12) (N := some 28) #[T, T, T, T, T, T, T, T, T, T, T, T, T, O, O, O, O] rfl rfl (one_of HT_.out (by kernel_rfl)) (by decide) (fun K hK => ?_)
      refine goes_ Try.func56 (by kernel_rfl) rfl #[.agg #[.int .i64 (wrap64 (a0)), .int .u64 a1], .bool true] (by rfl) rfl rfl (by (try simp only [List.map_toArray, List.map_cons, List.map_nil]); first | done | rfl | (simp only [List.length_drop, List.length_take]; rfl)) ?_
      with_reducible refine (wide_told.calls (wrap64 (a0)) a1 true t143 t144 t145 _ A34.out).mono ?_
      rintro e w41 ⟨rfl, hb⟩
      refine ⟨_, rfl, ?_⟩
      replace BK131 := kb BK131 hb
      replace BK132 := kb BK132 hb
      replace HB := kB HB hb
      (try clear hb); (try clear hb2); (try clear hk); (try clear hi)
      refine hK.out _ _ ⟨kc BK132 0, kc BK132 1⟩ (fun hHeld => ?_)
      clear hK K
      refine norm_ (a' := ?_) ?_ ?_; rotate_left; focus (show Act.put _ (some 28) _ = _; simp only [Act.put, s1, s2, s3, i64_w, i32_w]; rfl)
      refine pure_ (i := 13) (N := some 29) (v := ?_) (a' := ?_) #[T, T, T, T, T, T, T, T, T, T, T, T, T, T, O, O, O] rfl rfl (any_of HT_.out (by kernel_rfl)) (fun _ _ _ h => h) (Or.inl ⟨by rfl, ?_⟩) ?_ ?_; rotate_left; focus (intro w'; go_simp; with_reducible rfl)
      rotate_left; focus (simp only [Act.put, s1, s2, s3, i64_w, i32_w]; rfl)
      refine pure_ (i := 14) (N := some 30) (v := ?_) (a' := ?_) #[T, T, T, T, T, T, T, T, T, T, T, T, T, T, T, O, O] rfl rfl (any_of HT_.out (by kernel_rfl)) (fun _ _ _ h => h) (Or.inl ⟨by rfl, ?_⟩) ?_ ?_; rotate_left; focus (intro w'; go_simp; with_reducible rfl)
      rotate_left; focus (simp only [Act.put, s1, s2, s3, i64_w, i32_w]; rfl)
      refine one_ (i := 15) (N := none) #[T, T, T, T, T, T, T, T, T, T, T, T, T, T, T, T, O] rfl rfl (one_of HT_.out (by kernel_rfl)) (by decide) (fun K hK => ?_)
      have hs42 : w41.cell? ⟨gb131, 0, none⟩ = some (.int .i64 0) := kc BK131 0
      have hfs42 := blk_frozen BK131.out 0
      have hns42_1 := NB132_131.out; have hms42_1 := NB131_132.out
      have hs43 : w41.cell? ⟨gb131, 1, none⟩ = some (.int .u64 0) := kc BK131 1
      have hfs43 := blk_frozen BK131.out 1
      have hns43_1 := NB132_131.out; have hms43_1 := NB131_132.out
      refine skip_ (w1 := ?_) (by rfl) rfl ?_ ?_
      rotate_left
      · go_simp
        rfl
      refine hK.out _ _ ⟨((cell_far (p := ⟨gb131, _, none⟩) NB132_131.out _).trans (((cell_far (p := ⟨gb131, _, none⟩) NB132_131.out _).trans (hHeld.1)))), ((cell_far (p := ⟨gb131, _, none⟩) NB132_131.out _).trans (((cell_far (p := ⟨gb131, _, none⟩) NB132_131.out _).trans (hHeld.2))))⟩ (fun hHeld => ?_)
      clear hK K
      refine pure_ (i := 16) (N := some 7) (v := ?_) (a' := ?_) #[T, T, T, T, T, T, T, T, T, T, T, T, T, T, T, T, T] rfl rfl (any_of HT_.out (by kernel_rfl)) (fun _ _ _ h => h) (Or.inl ⟨by rfl, ?_⟩) ?_ ?_; rotate_left; focus (intro w'; go_simp; with_reducible rfl)
      rotate_left; focus (simp only [Act.put, s1, s2, s3, i64_w, i32_w]; rfl)
      refine done_ (done_of HT_.out (by kernel_rfl)) ?_
      try go_wp2
      refine bodyPost_ret (results_ct rfl _ _ gb131 24 #[.int .i64 t143, .int .u64 t144] (0, 0) _ rfl (by (with_reducible repeat (first | refine blk_drewN ?_ _ | refine blk_drew ?_ | refine blk_alloc ?_ _)); refine blk_put (cs := #[.int .i64 t143, .int .u64 0]) ?_ 1 _ rfl; (with_reducible repeat (first | refine blk_drewN ?_ _ | refine blk_drew ?_ | refine blk_alloc ?_ _)); refine blk_put (cs := #[.int .i64 0, .int .u64 0]) ?_ 0 _ rfl; (with_reducible repeat (first | refine blk_drewN ?_ _ | refine blk_drew ?_ | refine blk_alloc ?_ _)); exact BK131.out) Try.underlying24 rfl (by kernel_rfl)) rfl ?_
      exact ⟨by first | rfl | (simp [errW_none, errW_some] <;> rfl) | (simp [*, errW_none, errW_some] <;> rfl), ky HB⟩
    rw [if_neg c33] at H
    have c33b0 : ((a0 / 9223372036854775808) == 0) = false := beq_eq_false_iff_ne.mpr c33
    have c33b1 : ((a0 / 9223372036854775808) != 0) = true := bne_iff_ne.mpr c33
    replace H := Option.bind_eq_some_iff.mp H
    obtain ⟨⟨t146, t147, t148⟩, A440, H⟩ := H
    replace H : (some (t146, t147, t148)) = some (r1, r2, r3) := H
    have A44 := Aside0.mk A440
    clear A440
    simp only [Option.some.injEq, Prod.mk.injEq] at H
    obtain ⟨rfl, rfl, rfl⟩ := H
    go_enter Try.func61, Try.ntmps61
    try go_wp2_with (first | ((with_reducible refine gate_dst (N := 6) rfl ?_); refine box_event ?hg (N := 6) ?hd (cs := #[.int .i64 0, .int .u64 0]) (t := 24) ?hr ?_; (case hd => rfl); (case hg => rfl); (case hr => first | (go_simp; done) | (go_simp; rfl)); intro gb131 hg w45 hbox hb; have BK131 := Aside0.mk (hbox); have GW131 := kS HB hg; have GE131 := kS HB hg; replace HB := kB HB hb; clear hb hbox hg) | ((with_reducible refine gate_dst (N := 8) rfl ?_); refine box_event ?hg (N := 8) ?hd (cs := #[.int .i64 0, .int .u64 0]) (t := 24) ?hr ?_; (case hd => rfl); (case hg => rfl); (case hr => first | (go_simp; done) | (go_simp; rfl)); intro gb132 hg w46 hbox hb; have BK132 := Aside0.mk (hbox); have GW132 := kS HB hg; have GE132 := kS HB hg; have NB131_132 := kN BK131 hg; have NB132_131 := kM BK131 hg; replace BK131 := kb BK131 hb; replace HB := kB HB hb; clear hb hbox hg; have hnb47 := NB132_131.out; have hnc47 := NB131_132.out; have hcz48_0 : w46.cell? ⟨gb132, 0, none⟩ = some (.int .i64 0) := kc BK132 0; have hcz48_1 : w46.cell? ⟨gb132, 1, none⟩ = some (.int .u64 0) := kc BK132 1; have hfz48_0 := blk_frozen BK132.out 0; have hfz48_1 := blk_frozen BK132.out 1))
    have n0_ : Aside0 (((w46.setCell ⟨gb132, 0, none⟩ (.int .i64 (wrap64 (a0)))).setCell ⟨gb132, 1, none⟩ (.int .u64 a1)).heap[gb131]? = some (.cells #[.int .i64 0, .int .u64 0] 24 (0, 0))) := ⟨kx BK131⟩
    have n1_ : Aside0 (((w46.setCell ⟨gb132, 0, none⟩ (.int .i64 (wrap64 (a0)))).setCell ⟨gb132, 1, none⟩ (.int .u64 a1)).heap[gb132]? = some (.cells #[.int .i64 (wrap64 (a0)), .int .u64 a1] 24 (0, 0))) := ⟨by (with_reducible repeat (first | refine blk_drewN ?_ _ | refine blk_drew ?_ | refine blk_alloc ?_ _)); refine blk_put (cs := #[.int .i64 (wrap64 (a0)), .int .u64 0]) ?_ 1 _ rfl; (with_reducible repeat (first | refine blk_drewN ?_ _ | refine blk_drew ?_ | refine blk_alloc ?_ _)); refine blk_put (cs := #[.int .i64 0, .int .u64 0]) ?_ 0 _ rfl; (with_reducible repeat (first | refine blk_drewN ?_ _ | refine blk_drew ?_ | refine blk_alloc ?_ _)); exact BK132.out⟩
    have n2_ : Aside0 (Below w.heap.size w ((w46.setCell ⟨gb132, 0, none⟩ (.int .i64 (wrap64 (a0)))).setCell ⟨gb132, 1, none⟩ (.int .u64 a1))) := ⟨ky HB⟩
    (try clear BK131); (try clear BK132); (try clear HB)
    generalize ((w46.setCell ⟨gb132, 0, none⟩ (.int .i64 (wrap64 (a0)))).setCell ⟨gb132, 1, none⟩ (.int .u64 a1)) = w49 at n0_ n1_ n2_ ⊢
    have BK131 := n0_; have BK132 := n1_; have HB := n2_
    clear n0_ n1_ n2_
    replace BK131 := Aside0.mk (blk_drew BK131.out)
    replace BK132 := Aside0.mk (blk_drew BK132.out)
    replace HB := Aside0.mk (below_drew1 HB.out)
    refine start_ (n := 17) (S := fun w' => w'.cell? ⟨gb132, 0, none⟩ = some (.int .i64 (wrap64 (a0))) ∧ w'.cell? ⟨gb132, 1, none⟩ = some (.int .u64 a1)) (ds := []) #[O, O, O, O, O, O, O, O, O, O, O, O, O, O, O, O, O] (by kernel_rfl) rfl rfl ⟨kc BK132 0, kc BK132 1⟩ (fun hHeld => ?_); refine with_tabW wide_signed.tab4 wide_signed.bits4 (fun HT_ HW_ => ?_)
    generalize w49.drew = w50 at BK131 BK132 HB hHeld ⊢
    refine pure_ (i := 1) (N := some 17) (v := ?_) (a' := ?_) #[O, T, O, O, O, O, O, O, O, O, O, O, O, O, O, O, O] rfl rfl (any_of HT_.out (by kernel_rfl)) (fun _ _ _ h => h) (Or.inl ⟨by rfl, ?_⟩) ?_ ?_; rotate_left; focus (intro w'; go_simp; with_reducible rfl)
    rotate_left; focus (simp only [Act.put, s1, s2, s3, i64_w, i32_w]; rfl)
    refine pure_ (i := 2) (N := some 18) (v := ?_) (a' := ?_) #[O, T, T, O, O, O, O, O, O, O, O, O, O, O, O, O, O] rfl rfl (any_of HT_.out (by kernel_rfl)) (fun _ _ _ h => h) (Or.inl ⟨by rfl, ?_⟩) ?_ ?_; rotate_left; focus (intro w'; go_simp; with_reducible rfl)
    rotate_left; focus (simp only [Act.put, s1, s2, s3, i64_w, i32_w]; rfl)
    refine pure_ (i := 3) (N := some 19) (v := ?_) (a' := ?_) #[O, T, T, T, O, O, O, O, O, O, O, O, O, O, O, O, O] rfl rfl (any_of HT_.out (by kernel_rfl)) (fun _ _ _ h => h) (Or.inl ⟨by rfl, ?_⟩) ?_ ?_; rotate_left; focus (intro w'; go_simp; with_reducible rfl)
    rotate_left; focus (simp only [Act.put, s1, s2, s3, i64_w, i32_w]; rfl)
    refine pure_ (i := 4) (N := some 20) (v := ?_) (a' := ?_) #[O, T, T, T, T, O, O, O, O, O, O, O, O, O, O, O, O] rfl rfl (any_of HT_.out (by kernel_rfl)) (fun _ _ _ h => h) (Or.inl ⟨by rfl, ?_⟩) ?_ ?_; rotate_left; focus (intro w'; go_simp; with_reducible rfl)
    rotate_left; focus (simp only [Act.put, s1, s2, s3, i64_w, i32_w]; rfl)
    refine pure_ (i := 5) (N := some 21) (v := ?_) (a' := ?_) #[O, T, T, T, T, T, O, O, O, O, O, O, O, O, O, O, O] rfl rfl (any_of HT_.out (by kernel_rfl)) (fun _ _ _ h => h) (Or.inl ⟨by rfl, ?_⟩) ?_ ?_; rotate_left; focus (intro w'; go_simp; with_reducible rfl)
    rotate_left; focus (simp only [Act.put, s1, s2, s3, i64_w, i32_w]; rfl)
    refine pure_ (i := 6) (N := some 22) (v := ?_) (a' := ?_) #[O, T, T, T, T, T, T, O, O, O, O, O, O, O, O, O, O] rfl rfl (any_of HT_.out (by kernel_rfl)) (fun _ _ _ h => h) (Or.inl ⟨by rfl, ?_⟩) ?_ ?_; rotate_left; focus (intro w'; go_simp; with_reducible rfl)
    rotate_left; focus (simp only [Act.put, s1, s2, s3, i64_w, i32_w]; rfl)
    refine pure_ (i := 7) (N := some 23) (v := undef) (a' := ?_) #[O, T, T, T, T, T, T, T, O, O, O, O, O, O, O, O, O] rfl rfl (any_of HT_.out (by kernel_rfl)) (fun _ _ _ h => h) (Or.inr ⟨by rfl, rfl⟩) ?_ ?_; rotate_left; focus (simp only [Act.put, s1, s2, s3, i64_w, i32_w]; rfl)
    refine pure_ (i := 8) (N := some 24) (v := undef) (a' := ?_) #[O, T, T, T, T, T, T, T, T, O, O, O, O, O, O, O, O] rfl rfl (any_of HT_.out (by kernel_rfl)) (fun _ _ _ h => h) (Or.inr ⟨by rfl, rfl⟩) ?_ ?_; rotate_left; focus (simp only [Act.put, s1, s2, s3, i64_w, i32_w]; rfl)
    refine pure_ (i := 9) (N := some 25) (v := undef) (a' := ?_) #[O, T, T, T, T, T, T, T, T, T, O, O, O, O, O, O, O] rfl rfl (any_of HT_.out (by kernel_rfl)) (fun _ _ _ h => h) (Or.inr ⟨by rfl, rfl⟩) ?_ ?_; rotate_left; focus (simp only [Act.put, s1, s2, s3, i64_w, i32_w]; rfl)
    refine pure_ (i := 10) (N := some 26) (v := ?_) (a' := ?_) #[O, T, T, T, T, T, T, T, T, T, T, O, O, O, O, O, O] rfl rfl (any_of HT_.out (by kernel_rfl)) (fun _ _ _ h => h) (Or.inl ⟨by rfl, ?_⟩) ?_ ?_; rotate_left; focus (intro w'; go_simp; with_reducible rfl)
    rotate_left; focus (simp only [Act.put, s1, s2, s3, i64_w, i32_w]; rfl)
    refine pure_ (i := 11) (N := some 27) (v := ?_) (a' := ?_) #[O, T, T, T, T, T, T, T, T, T, T, T, O, O, O, O, O] rfl rfl (any_of HT_.out (by kernel_rfl)) (fun _ _ _ h => h) (Or.inl ⟨by rfl, ?_⟩) ?_ ?_; rotate_left; focus (intro w'; go_simp; with_reducible rfl)
    rotate_left; focus (simp only [Act.put, s1, s2, s3, i64_w, i32_w]; rfl)
    refine take_ (i := 0) (N := some 16) (v := ?_) (a' := ?_) #[T, T, T, T, T, T, T, T, T, T, T, T, O, O, O, O, O] rfl rfl (take_ofW HT_.out HW_.out (by kernel_rfl)) (fun _ _ _ h => h) (Or.inl ⟨by rfl, ?_⟩) hHeld ?_ ?_; rotate_left; focus (rintro w' ⟨s0, s1⟩; go_simp; with_reducible rfl)
    rotate_left; focus (simp only [Act.put, s1, s2, s3, i64_w, i32_w]; rfl)
    refine one_ (i := 12) (N := some 28) #[T, T, T, T, T, T, T, T, T, T, T, T, T, O, O, O, O] rfl rfl (one_of HT_.out (by kernel_rfl)) (by decide) (fun K hK => ?_)
    refine goes_ Try.func56 (by kernel_rfl) rfl #[.agg #[.int .i64 (wrap64 (a0)), .int .u64 a1], .bool false] (by rfl) rfl rfl (by (try simp only [List.map_toArray, List.map_cons, List.map_nil]); first | done | rfl | (simp only [List.length_drop, List.length_take]; rfl)) ?_
    with_reducible refine (wide_told.calls (wrap64 (a0)) a1 false t146 t147 t148 _ A44.out).mono ?_
    rintro e w51 ⟨rfl, hb⟩
    refine ⟨_, rfl, ?_⟩
    replace BK131 := kb BK131 hb
    replace BK132 := kb BK132 hb
    replace HB := kB HB hb
    (try clear hb); (try clear hb2); (try clear hk); (try clear hi)
    refine hK.out _ _ ⟨kc BK132 0, kc BK132 1⟩ (fun hHeld => ?_)
    clear hK K
    refine norm_ (a' := ?_) ?_ ?_; rotate_left; focus (show Act.put _ (some 28) _ = _; simp only [Act.put, s1, s2, s3, i64_w, i32_w]; rfl)
    refine pure_ (i := 13) (N := some 29) (v := ?_) (a' := ?_) #[T, T, T, T, T, T, T, T, T, T, T, T, T, T, O, O, O] rfl rfl (any_of HT_.out (by kernel_rfl)) (fun _ _ _ h => h) (Or.inl ⟨by rfl, ?_⟩) ?_ ?_; rotate_left; focus (intro w'; go_simp; with_reducible rfl)
    rotate_left; focus (simp only [Act.put, s1, s2, s3, i64_w, i32_w]; rfl)
    refine pure_ (i := 14) (N := some 30) (v := ?_) (a' := ?_) #[T, T, T, T, T, T, T, T, T, T, T, T, T, T, T, O, O] rfl rfl (any_of HT_.out (by kernel_rfl)) (fun _ _ _ h => h) (Or.inl ⟨by rfl, ?_⟩) ?_ ?_; rotate_left; focus (intro w'; go_simp; with_reducible rfl)
    rotate_left; focus (simp only [Act.put, s1, s2, s3, i64_w, i32_w]; rfl)
    refine one_ (i := 15) (N := none) #[T, T, T, T, T, T, T, T, T, T, T, T, T, T, T, T, O] rfl rfl (one_of HT_.out (by kernel_rfl)) (by decide) (fun K hK => ?_)
    have hs52 : w51.cell? ⟨gb131, 0, none⟩ = some (.int .i64 0) := kc BK131 0
    have hfs52 := blk_frozen BK131.out 0
    have hns52_1 := NB132_131.out; have hms52_1 := NB131_132.out
    have hs53 : w51.cell? ⟨gb131, 1, none⟩ = some (.int .u64 0) := kc BK131 1
    have hfs53 := blk_frozen BK131.out 1
    have hns53_1 := NB132_131.out; have hms53_1 := NB131_132.out
    refine skip_ (w1 := ?_) (by rfl) rfl ?_ ?_
    rotate_left
    · go_simp
      rfl
    refine hK.out _ _ ⟨((cell_far (p := ⟨gb131, _, none⟩) NB132_131.out _).trans (((cell_far (p := ⟨gb131, _, none⟩) NB132_131.out _).trans (hHeld.1)))), ((cell_far (p := ⟨gb131, _, none⟩) NB132_131.out _).trans (((cell_far (p := ⟨gb131, _, none⟩) NB132_131.out _).trans (hHeld.2))))⟩ (fun hHeld => ?_)
    clear hK K
    refine pure_ (i := 16) (N := some 7) (v := ?_) (a' := ?_) #[T, T, T, T, T, T, T, T, T, T, T, T, T, T, T, T, T] rfl rfl (any_of HT_.out (by kernel_rfl)) (fun _ _ _ h => h) (Or.inl ⟨by rfl, ?_⟩) ?_ ?_; rotate_left; focus (intro w'; go_simp; with_reducible rfl)
    rotate_left; focus (simp only [Act.put, s1, s2, s3, i64_w, i32_w]; rfl)
    refine done_ (done_of HT_.out (by kernel_rfl)) ?_
    try go_wp2
    refine bodyPost_ret (results_ct rfl _ _ gb131 24 #[.int .i64 t146, .int .u64 t147] (0, 0) _ rfl (by (with_reducible repeat (first | refine blk_drewN ?_ _ | refine blk_drew ?_ | refine blk_alloc ?_ _)); refine blk_put (cs := #[.int .i64 t146, .int .u64 0]) ?_ 1 _ rfl; (with_reducible repeat (first | refine blk_drewN ?_ _ | refine blk_drew ?_ | refine blk_alloc ?_ _)); refine blk_put (cs := #[.int .i64 0, .int .u64 0]) ?_ 0 _ rfl; (with_reducible repeat (first | refine blk_drewN ?_ _ | refine blk_drew ?_ | refine blk_alloc ?_ _)); exact BK131.out) Try.underlying24 rfl (by kernel_rfl)) rfl ?_
    exact ⟨by first | rfl | (simp [errW_none, errW_some] <;> rfl) | (simp [*, errW_none, errW_some] <;> rfl), ky HB⟩

  subst c4
  have H1 : ((wide_turn.f (wrap64 (a0)) a1).bind fun bt133 => (if (a0 / 9223372036854775808) = 0 then ((wide_told.f bt133.1 bt133.2 true).bind fun bt135 => (some (bt135.1, bt135.2.1, bt135.2.2))) else ((wide_least.f).bind fun bt138 => ((wide_told.f bt133.1 bt133.2 (bt133.1 == bt138.1 && (bt133.2 == bt138.2))).bind fun bt140 => (some (bt140.1, bt140.2.1, bt140.2.2)))))) = some (r1, r2, r3) := by rw [if_pos rfl] at H; exact H
  clear H; have H := H1; clear H1
  replace H := Option.bind_eq_some_iff.mp H
  obtain ⟨⟨t133, t134⟩, A50, H⟩ := H
  replace H : (if (a0 / 9223372036854775808) = 0 then ((wide_told.f t133 t134 true).bind fun bt135 => (some (bt135.1, bt135.2.1, bt135.2.2))) else ((wide_least.f).bind fun bt138 => ((wide_told.f t133 t134 (t133 == bt138.1 && (t134 == bt138.2))).bind fun bt140 => (some (bt140.1, bt140.2.1, bt140.2.2))))) = some (r1, r2, r3) := H
  have A5 := Aside0.mk A50
  clear A50
  by_cases c6 : (a0 / 9223372036854775808) = 0
  · rw [if_pos c6] at H
    have c6b0 : ((a0 / 9223372036854775808) == 0) = true := beq_iff_eq.mpr c6
    have c6b1 : ((a0 / 9223372036854775808) != 0) = false := bne_eq_false_iff_eq.mpr c6
    clear c6
    replace H := Option.bind_eq_some_iff.mp H
    obtain ⟨⟨t135, t136, t137⟩, A70, H⟩ := H
    replace H : (some (t135, t136, t137)) = some (r1, r2, r3) := H
    have A7 := Aside0.mk A70
    clear A70
    simp only [Option.some.injEq, Prod.mk.injEq] at H
    obtain ⟨rfl, rfl, rfl⟩ := H
    go_enter Try.func61, Try.ntmps61
    try go_wp2_with (first | ((with_reducible refine gate_dst (N := 6) rfl ?_); refine box_event ?hg (N := 6) ?hd (cs := #[.int .i64 0, .int .u64 0]) (t := 24) ?hr ?_; (case hd => rfl); (case hg => rfl); (case hr => first | (go_simp; done) | (go_simp; rfl)); intro gb131 hg w8 hbox hb; have BK131 := Aside0.mk (hbox); have GW131 := kS HB hg; have GE131 := kS HB hg; replace HB := kB HB hb; clear hb hbox hg) | ((with_reducible refine gate_dst (N := 8) rfl ?_); refine box_event ?hg (N := 8) ?hd (cs := #[.int .i64 0, .int .u64 0]) (t := 24) ?hr ?_; (case hd => rfl); (case hg => rfl); (case hr => first | (go_simp; done) | (go_simp; rfl)); intro gb132 hg w9 hbox hb; have BK132 := Aside0.mk (hbox); have GW132 := kS HB hg; have GE132 := kS HB hg; have NB131_132 := kN BK131 hg; have NB132_131 := kM BK131 hg; replace BK131 := kb BK131 hb; replace HB := kB HB hb; clear hb hbox hg; have hnb10 := NB132_131.out; have hnc10 := NB131_132.out; have hcz11_0 : w9.cell? ⟨gb132, 0, none⟩ = some (.int .i64 0) := kc BK132 0; have hcz11_1 : w9.cell? ⟨gb132, 1, none⟩ = some (.int .u64 0) := kc BK132 1; have hfz11_0 := blk_frozen BK132.out 0; have hfz11_1 := blk_frozen BK132.out 1) | ((with_reducible refine gate_callee (f := 65) rfl ?_); refine goesL_ (some 15) rfl rfl Try.func65 (by kernel_rfl) rfl #[.agg #[.int .i64 (wrap64 (a0)), .int .u64 a1]] rfl (by (try simp only [List.map_toArray, List.map_cons, List.map_nil]); first | done | rfl | (simp only [List.length_drop, List.length_take]; rfl)) ?_; (with_reducible refine (wide_turn.calls (wrap64 (a0)) a1 t133 t134 _ A5.out).mono ?_); rintro e w12 ⟨rfl, hb⟩; refine ⟨_, rfl, ?_⟩; have n0_ := kb BK131 hb; have n1_ := Aside0.mk (blk_below (g := gb132) (o := .cells #[.int .i64 (wrap64 (a0)), .int .u64 a1] 24 (0, 0)) (by (with_reducible repeat (first | refine blk_drewN ?_ _ | refine blk_drew ?_ | refine blk_alloc ?_ _)); refine blk_put (cs := #[.int .i64 (wrap64 (a0)), .int .u64 0]) ?_ 1 _ rfl; (with_reducible repeat (first | refine blk_drewN ?_ _ | refine blk_drew ?_ | refine blk_alloc ?_ _)); refine blk_put (cs := #[.int .i64 0, .int .u64 0]) ?_ 0 _ rfl; (with_reducible repeat (first | refine blk_drewN ?_ _ | refine blk_drew ?_ | refine blk_alloc ?_ _)); exact BK132.out) hb); have n2_ := kB HB hb; clear BK131; clear BK132; clear HB; have BK131 := n0_; have BK132 := n1_; have HB := n2_; clear n0_ n1_ n2_; (try clear hb); (try clear hb2); (try clear hk); (try clear hi); have hcz13_0 : w12.cell? ⟨gb132, 0, none⟩ = some (.int .i64 (wrap64 (a0))) := kc BK132 0; have hcz13_1 : w12.cell? ⟨gb132, 1, none⟩ = some (.int .u64 a1) := kc BK132 1; have hfz13_0 := blk_frozen BK132.out 0; have hfz13_1 := blk_frozen BK132.out 1))
    have n0_ : Aside0 (((w12.setCell ⟨gb132, 0, none⟩ (.int .i64 t133)).setCell ⟨gb132, 1, none⟩ (.int .u64 t134)).heap[gb131]? = some (.cells #[.int .i64 0, .int .u64 0] 24 (0, 0))) := ⟨kx BK131⟩
    have n1_ : Aside0 (((w12.setCell ⟨gb132, 0, none⟩ (.int .i64 t133)).setCell ⟨gb132, 1, none⟩ (.int .u64 t134)).heap[gb132]? = some (.cells #[.int .i64 t133, .int .u64 t134] 24 (0, 0))) := ⟨by (with_reducible repeat (first | refine blk_drewN ?_ _ | refine blk_drew ?_ | refine blk_alloc ?_ _)); refine blk_put (cs := #[.int .i64 t133, .int .u64 a1]) ?_ 1 _ rfl; (with_reducible repeat (first | refine blk_drewN ?_ _ | refine blk_drew ?_ | refine blk_alloc ?_ _)); refine blk_put (cs := #[.int .i64 (wrap64 (a0)), .int .u64 a1]) ?_ 0 _ rfl; (with_reducible repeat (first | refine blk_drewN ?_ _ | refine blk_drew ?_ | refine blk_alloc ?_ _)); exact BK132.out⟩
    have n2_ : Aside0 (Below w.heap.size w ((w12.setCell ⟨gb132, 0, none⟩ (.int .i64 t133)).setCell ⟨gb132, 1, none⟩ (.int .u64 t134))) := ⟨ky HB⟩
    (try clear BK131); (try clear BK132); (try clear HB)
    generalize ((w12.setCell ⟨gb132, 0, none⟩ (.int .i64 t133)).setCell ⟨gb132, 1, none⟩ (.int .u64 t134)) = w14 at n0_ n1_ n2_ ⊢
    have BK131 := n0_; have BK132 := n1_; have HB := n2_
    clear n0_ n1_ n2_
    replace BK131 := Aside0.mk (blk_drew BK131.out)
    replace BK132 := Aside0.mk (blk_drew BK132.out)
    replace HB := Aside0.mk (below_drew1 HB.out)
    refine start_ (n := 17) (S := fun w' => w'.cell? ⟨gb132, 0, none⟩ = some (.int .i64 t133) ∧ w'.cell? ⟨gb132, 1, none⟩ = some (.int .u64 t134)) (ds := []) #[O, O, O, O, O, O, O, O, O, O, O, O, O, O, O, O, O] (by kernel_rfl) rfl rfl ⟨kc BK132 0, kc BK132 1⟩ (fun hHeld => ?_); refine with_tabW wide_signed.tab4 wide_signed.bits4 (fun HT_ HW_ => ?_)
    generalize w14.drew = w15 at BK131 BK132 HB hHeld ⊢
    refine pure_ (i := 1) (N := some 17) (v := ?_) (a' := ?_) #[O, T, O, O, O, O, O, O, O, O, O, O, O, O, O, O, O] rfl rfl (any_of HT_.out (by kernel_rfl)) (fun _ _ _ h => h) (Or.inl ⟨by rfl, ?_⟩) ?_ ?_; rotate_left; focus (intro w'; go_simp; with_reducible rfl)
    rotate_left; focus (simp only [Act.put, s1, s2, s3, i64_w, i32_w]; rfl)
    refine pure_ (i := 2) (N := some 18) (v := ?_) (a' := ?_) #[O, T, T, O, O, O, O, O, O, O, O, O, O, O, O, O, O] rfl rfl (any_of HT_.out (by kernel_rfl)) (fun _ _ _ h => h) (Or.inl ⟨by rfl, ?_⟩) ?_ ?_; rotate_left; focus (intro w'; go_simp; with_reducible rfl)
    rotate_left; focus (simp only [Act.put, s1, s2, s3, i64_w, i32_w]; rfl)
    refine pure_ (i := 3) (N := some 19) (v := ?_) (a' := ?_) #[O, T, T, T, O, O, O, O, O, O, O, O, O, O, O, O, O] rfl rfl (any_of HT_.out (by kernel_rfl)) (fun _ _ _ h => h) (Or.inl ⟨by rfl, ?_⟩) ?_ ?_; rotate_left; focus (intro w'; go_simp; with_reducible rfl)
    rotate_left; focus (simp only [Act.put, s1, s2, s3, i64_w, i32_w]; rfl)
    refine pure_ (i := 4) (N := some 20) (v := ?_) (a' := ?_) #[O, T, T, T, T, O, O, O, O, O, O, O, O, O, O, O, O] rfl rfl (any_of HT_.out (by kernel_rfl)) (fun _ _ _ h => h) (Or.inl ⟨by rfl, ?_⟩) ?_ ?_; rotate_left; focus (intro w'; go_simp; with_reducible rfl)
    rotate_left; focus (simp only [Act.put, s1, s2, s3, i64_w, i32_w]; rfl)
    refine pure_ (i := 5) (N := some 21) (v := undef) (a' := ?_) #[O, T, T, T, T, T, O, O, O, O, O, O, O, O, O, O, O] rfl rfl (any_of HT_.out (by kernel_rfl)) (fun _ _ _ h => h) (Or.inr ⟨by rfl, rfl⟩) ?_ ?_; rotate_left; focus (simp only [Act.put, s1, s2, s3, i64_w, i32_w]; rfl)
    refine pure_ (i := 6) (N := some 22) (v := undef) (a' := ?_) #[O, T, T, T, T, T, T, O, O, O, O, O, O, O, O, O, O] rfl rfl (any_of HT_.out (by kernel_rfl)) (fun _ _ _ h => h) (Or.inr ⟨by rfl, rfl⟩) ?_ ?_; rotate_left; focus (simp only [Act.put, s1, s2, s3, i64_w, i32_w]; rfl)
    refine pure_ (i := 7) (N := some 23) (v := undef) (a' := ?_) #[O, T, T, T, T, T, T, T, O, O, O, O, O, O, O, O, O] rfl rfl (any_of HT_.out (by kernel_rfl)) (fun _ _ _ h => h) (Or.inr ⟨by rfl, rfl⟩) ?_ ?_; rotate_left; focus (simp only [Act.put, s1, s2, s3, i64_w, i32_w]; rfl)
    refine pure_ (i := 8) (N := some 24) (v := undef) (a' := ?_) #[O, T, T, T, T, T, T, T, T, O, O, O, O, O, O, O, O] rfl rfl (any_of HT_.out (by kernel_rfl)) (fun _ _ _ h => h) (Or.inr ⟨by rfl, rfl⟩) ?_ ?_; rotate_left; focus (simp only [Act.put, s1, s2, s3, i64_w, i32_w]; rfl)
    refine pure_ (i := 9) (N := some 25) (v := undef) (a' := ?_) #[O, T, T, T, T, T, T, T, T, T, O, O, O, O, O, O, O] rfl rfl (any_of HT_.out (by kernel_rfl)) (fun _ _ _ h => h) (Or.inr ⟨by rfl, rfl⟩) ?_ ?_; rotate_left; focus (simp only [Act.put, s1, s2, s3, i64_w, i32_w]; rfl)
    refine pure_ (i := 10) (N := some 26) (v := undef) (a' := ?_) #[O, T, T, T, T, T, T, T, T, T, T, O, O, O, O, O, O] rfl rfl (any_of HT_.out (by kernel_rfl)) (fun _ _ _ h => h) (Or.inr ⟨by rfl, rfl⟩) ?_ ?_; rotate_left; focus (simp only [Act.put, s1, s2, s3, i64_w, i32_w]; rfl)
    refine pure_ (i := 11) (N := some 27) (v := ?_) (a' := ?_) #[O, T, T, T, T, T, T, T, T, T, T, T, O, O, O, O, O] rfl rfl (any_of HT_.out (by kernel_rfl)) (fun _ _ _ h => h) (Or.inl ⟨by rfl, ?_⟩) ?_ ?_; rotate_left; focus (intro w'; go_simp; with_reducible rfl)
    rotate_left; focus (simp only [Act.put, s1, s2, s3, i64_w, i32_w]; rfl)
    refine take_ (i := 0) (N := some 16) (v := ?_) (a' := ?_) #[T, T, T, T, T, T, T, T, T, T, T, T, O, O, O, O, O] rfl rfl (take_ofW HT_.out HW_.out (by kernel_rfl)) (fun _ _ _ h => h) (Or.inl ⟨by rfl, ?_⟩) hHeld ?_ ?_; rotate_left; focus (rintro w' ⟨s0, s1⟩; go_simp; with_reducible rfl)
    rotate_left; focus (simp only [Act.put, s1, s2, s3, i64_w, i32_w]; rfl)
    refine one_ (i := 12) (N := some 28) #[T, T, T, T, T, T, T, T, T, T, T, T, T, O, O, O, O] rfl rfl (one_of HT_.out (by kernel_rfl)) (by decide) (fun K hK => ?_)
    refine goes_ Try.func56 (by kernel_rfl) rfl #[.agg #[.int .i64 t133, .int .u64 t134], .bool true] (by rfl) rfl rfl (by (try simp only [List.map_toArray, List.map_cons, List.map_nil]); first | done | rfl | (simp only [List.length_drop, List.length_take]; rfl)) ?_
    with_reducible refine (wide_told.calls t133 t134 true t135 t136 t137 _ A7.out).mono ?_
    rintro e w16 ⟨rfl, hb⟩
    refine ⟨_, rfl, ?_⟩
    replace BK131 := kb BK131 hb
    replace BK132 := kb BK132 hb
    replace HB := kB HB hb
    (try clear hb); (try clear hb2); (try clear hk); (try clear hi)
    refine hK.out _ _ ⟨kc BK132 0, kc BK132 1⟩ (fun hHeld => ?_)
    clear hK K
    refine norm_ (a' := ?_) ?_ ?_; rotate_left; focus (show Act.put _ (some 28) _ = _; simp only [Act.put, s1, s2, s3, i64_w, i32_w]; rfl)
    refine pure_ (i := 13) (N := some 29) (v := ?_) (a' := ?_) #[T, T, T, T, T, T, T, T, T, T, T, T, T, T, O, O, O] rfl rfl (any_of HT_.out (by kernel_rfl)) (fun _ _ _ h => h) (Or.inl ⟨by rfl, ?_⟩) ?_ ?_; rotate_left; focus (intro w'; go_simp; with_reducible rfl)
    rotate_left; focus (simp only [Act.put, s1, s2, s3, i64_w, i32_w]; rfl)
    refine pure_ (i := 14) (N := some 30) (v := ?_) (a' := ?_) #[T, T, T, T, T, T, T, T, T, T, T, T, T, T, T, O, O] rfl rfl (any_of HT_.out (by kernel_rfl)) (fun _ _ _ h => h) (Or.inl ⟨by rfl, ?_⟩) ?_ ?_; rotate_left; focus (intro w'; go_simp; with_reducible rfl)
    rotate_left; focus (simp only [Act.put, s1, s2, s3, i64_w, i32_w]; rfl)
    refine one_ (i := 15) (N := none) #[T, T, T, T, T, T, T, T, T, T, T, T, T, T, T, T, O] rfl rfl (one_of HT_.out (by kernel_rfl)) (by decide) (fun K hK => ?_)
    have hs17 : w16.cell? ⟨gb131, 0, none⟩ = some (.int .i64 0) := kc BK131 0
    have hfs17 := blk_frozen BK131.out 0
    have hns17_1 := NB132_131.out; have hms17_1 := NB131_132.out
    have hs18 : w16.cell? ⟨gb131, 1, none⟩ = some (.int .u64 0) := kc BK131 1
    have hfs18 := blk_frozen BK131.out 1
    have hns18_1 := NB132_131.out; have hms18_1 := NB131_132.out
    refine skip_ (w1 := ?_) (by rfl) rfl ?_ ?_
    rotate_left
    · go_simp
      rfl
    refine hK.out _ _ ⟨((cell_far (p := ⟨gb131, _, none⟩) NB132_131.out _).trans (((cell_far (p := ⟨gb131, _, none⟩) NB132_131.out _).trans (hHeld.1)))), ((cell_far (p := ⟨gb131, _, none⟩) NB132_131.out _).trans (((cell_far (p := ⟨gb131, _, none⟩) NB132_131.out _).trans (hHeld.2))))⟩ (fun hHeld => ?_)
    clear hK K
    refine pure_ (i := 16) (N := some 7) (v := ?_) (a' := ?_) #[T, T, T, T, T, T, T, T, T, T, T, T, T, T, T, T, T] rfl rfl (any_of HT_.out (by kernel_rfl)) (fun _ _ _ h => h) (Or.inl ⟨by rfl, ?_⟩) ?_ ?_; rotate_left; focus (intro w'; go_simp; with_reducible rfl)
    rotate_left; focus (simp only [Act.put, s1, s2, s3, i64_w, i32_w]; rfl)
    refine done_ (done_of HT_.out (by kernel_rfl)) ?_
    try go_wp2
    refine bodyPost_ret (results_ct rfl _ _ gb131 24 #[.int .i64 t135, .int .u64 t136] (0, 0) _ rfl (by (with_reducible repeat (first | refine blk_drewN ?_ _ | refine blk_drew ?_ | refine blk_alloc ?_ _)); refine blk_put (cs := #[.int .i64 t135, .int .u64 0]) ?_ 1 _ rfl; (with_reducible repeat (first | refine blk_drewN ?_ _ | refine blk_drew ?_ | refine blk_alloc ?_ _)); refine blk_put (cs := #[.int .i64 0, .int .u64 0]) ?_ 0 _ rfl; (with_reducible repeat (first | refine blk_drewN ?_ _ | refine blk_drew ?_ | refine blk_alloc ?_ _)); exact BK131.out) Try.underlying24 rfl (by kernel_rfl)) rfl ?_
    exact ⟨by first | rfl | (simp [errW_none, errW_some] <;> rfl) | (simp [*, errW_none, errW_some] <;> rfl), ky HB⟩
  rw [if_neg c6] at H
  have c6b0 : ((a0 / 9223372036854775808) == 0) = false := beq_eq_false_iff_ne.mpr c6
  have c6b1 : ((a0 / 9223372036854775808) != 0) = true := bne_iff_ne.mpr c6
  replace H := Option.bind_eq_some_iff.mp H
  obtain ⟨⟨t138, t139⟩, A190, H⟩ := H
  replace H : ((wide_told.f t133 t134 (t133 == t138 && (t134 == t139))).bind fun bt140 => (some (bt140.1, bt140.2.1, bt140.2.2))) = some (r1, r2, r3) := H
  have A19 := Aside0.mk A190
  clear A190
  replace H := Option.bind_eq_some_iff.mp H
  obtain ⟨⟨t140, t141, t142⟩, A200, H⟩ := H
  replace H : (some (t140, t141, t142)) = some (r1, r2, r3) := H
  have A20 := Aside0.mk A200
  clear A200
  simp only [Option.some.injEq, Prod.mk.injEq] at H
  obtain ⟨rfl, rfl, rfl⟩ := H
  go_enter Try.func61, Try.ntmps61
  try go_wp2_with (first | ((with_reducible refine gate_dst (N := 6) rfl ?_); refine box_event ?hg (N := 6) ?hd (cs := #[.int .i64 0, .int .u64 0]) (t := 24) ?hr ?_; (case hd => rfl); (case hg => rfl); (case hr => first | (go_simp; done) | (go_simp; rfl)); intro gb131 hg w21 hbox hb; have BK131 := Aside0.mk (hbox); have GW131 := kS HB hg; have GE131 := kS HB hg; replace HB := kB HB hb; clear hb hbox hg) | ((with_reducible refine gate_dst (N := 8) rfl ?_); refine box_event ?hg (N := 8) ?hd (cs := #[.int .i64 0, .int .u64 0]) (t := 24) ?hr ?_; (case hd => rfl); (case hg => rfl); (case hr => first | (go_simp; done) | (go_simp; rfl)); intro gb132 hg w22 hbox hb; have BK132 := Aside0.mk (hbox); have GW132 := kS HB hg; have GE132 := kS HB hg; have NB131_132 := kN BK131 hg; have NB132_131 := kM BK131 hg; replace BK131 := kb BK131 hb; replace HB := kB HB hb; clear hb hbox hg; have hnb23 := NB132_131.out; have hnc23 := NB131_132.out; have hcz24_0 : w22.cell? ⟨gb132, 0, none⟩ = some (.int .i64 0) := kc BK132 0; have hcz24_1 : w22.cell? ⟨gb132, 1, none⟩ = some (.int .u64 0) := kc BK132 1; have hfz24_0 := blk_frozen BK132.out 0; have hfz24_1 := blk_frozen BK132.out 1) | ((with_reducible refine gate_callee (f := 65) rfl ?_); refine goesL_ (some 15) rfl rfl Try.func65 (by kernel_rfl) rfl #[.agg #[.int .i64 (wrap64 (a0)), .int .u64 a1]] rfl (by (try simp only [List.map_toArray, List.map_cons, List.map_nil]); first | done | rfl | (simp only [List.length_drop, List.length_take]; rfl)) ?_; (with_reducible refine (wide_turn.calls (wrap64 (a0)) a1 t133 t134 _ A5.out).mono ?_); rintro e w25 ⟨rfl, hb⟩; refine ⟨_, rfl, ?_⟩; have n0_ := kb BK131 hb; have n1_ := Aside0.mk (blk_below (g := gb132) (o := .cells #[.int .i64 (wrap64 (a0)), .int .u64 a1] 24 (0, 0)) (by (with_reducible repeat (first | refine blk_drewN ?_ _ | refine blk_drew ?_ | refine blk_alloc ?_ _)); refine blk_put (cs := #[.int .i64 (wrap64 (a0)), .int .u64 0]) ?_ 1 _ rfl; (with_reducible repeat (first | refine blk_drewN ?_ _ | refine blk_drew ?_ | refine blk_alloc ?_ _)); refine blk_put (cs := #[.int .i64 0, .int .u64 0]) ?_ 0 _ rfl; (with_reducible repeat (first | refine blk_drewN ?_ _ | refine blk_drew ?_ | refine blk_alloc ?_ _)); exact BK132.out) hb); have n2_ := kB HB hb; clear BK131; clear BK132; clear HB; have BK131 := n0_; have BK132 := n1_; have HB := n2_; clear n0_ n1_ n2_; (try clear hb); (try clear hb2); (try clear hk); (try clear hi); have hcz26_0 : w25.cell? ⟨gb132, 0, none⟩ = some (.int .i64 (wrap64 (a0))) := kc BK132 0; have hcz26_1 : w25.cell? ⟨gb132, 1, none⟩ = some (.int .u64 a1) := kc BK132 1; have hfz26_0 := blk_frozen BK132.out 0; have hfz26_1 := blk_frozen BK132.out 1))
  have n0_ : Aside0 (((w25.setCell ⟨gb132, 0, none⟩ (.int .i64 t133)).setCell ⟨gb132, 1, none⟩ (.int .u64 t134)).heap[gb131]? = some (.cells #[.int .i64 0, .int .u64 0] 24 (0, 0))) := ⟨kx BK131⟩
  have n1_ : Aside0 (((w25.setCell ⟨gb132, 0, none⟩ (.int .i64 t133)).setCell ⟨gb132, 1, none⟩ (.int .u64 t134)).heap[gb132]? = some (.cells #[.int .i64 t133, .int .u64 t134] 24 (0, 0))) := ⟨by (with_reducible repeat (first | refine blk_drewN ?_ _ | refine blk_drew ?_ | refine blk_alloc ?_ _)); refine blk_put (cs := #[.int .i64 t133, .int .u64 a1]) ?_ 1 _ rfl; (with_reducible repeat (first | refine blk_drewN ?_ _ | refine blk_drew ?_ | refine blk_alloc ?_ _)); refine blk_put (cs := #[.int .i64 (wrap64 (a0)), .int .u64 a1]) ?_ 0 _ rfl; (with_reducible repeat (first | refine blk_drewN ?_ _ | refine blk_drew ?_ | refine blk_alloc ?_ _)); exact BK132.out⟩
  have n2_ : Aside0 (Below w.heap.size w ((w25.setCell ⟨gb132, 0, none⟩ (.int .i64 t133)).setCell ⟨gb132, 1, none⟩ (.int .u64 t134))) := ⟨ky HB⟩
  (try clear BK131); (try clear BK132); (try clear HB)
  generalize ((w25.setCell ⟨gb132, 0, none⟩ (.int .i64 t133)).setCell ⟨gb132, 1, none⟩ (.int .u64 t134)) = w27 at n0_ n1_ n2_ ⊢
  have BK131 := n0_; have BK132 := n1_; have HB := n2_
  clear n0_ n1_ n2_
  replace BK131 := Aside0.mk (blk_drew BK131.out)
  replace BK132 := Aside0.mk (blk_drew BK132.out)
  replace HB := Aside0.mk (below_drew1 HB.out)
  refine start_ (n := 17) (S := fun w' => w'.cell? ⟨gb132, 0, none⟩ = some (.int .i64 t133) ∧ w'.cell? ⟨gb132, 1, none⟩ = some (.int .u64 t134)) (ds := []) #[O, O, O, O, O, O, O, O, O, O, O, O, O, O, O, O, O] (by kernel_rfl) rfl rfl ⟨kc BK132 0, kc BK132 1⟩ (fun hHeld => ?_); refine with_tabW wide_signed.tab4 wide_signed.bits4 (fun HT_ HW_ => ?_)
  generalize w27.drew = w28 at BK131 BK132 HB hHeld ⊢
  refine pure_ (i := 1) (N := some 17) (v := ?_) (a' := ?_) #[O, T, O, O, O, O, O, O, O, O, O, O, O, O, O, O, O] rfl rfl (any_of HT_.out (by kernel_rfl)) (fun _ _ _ h => h) (Or.inl ⟨by rfl, ?_⟩) ?_ ?_; rotate_left; focus (intro w'; go_simp; with_reducible rfl)
  rotate_left; focus (simp only [Act.put, s1, s2, s3, i64_w, i32_w]; rfl)
  refine pure_ (i := 2) (N := some 18) (v := ?_) (a' := ?_) #[O, T, T, O, O, O, O, O, O, O, O, O, O, O, O, O, O] rfl rfl (any_of HT_.out (by kernel_rfl)) (fun _ _ _ h => h) (Or.inl ⟨by rfl, ?_⟩) ?_ ?_; rotate_left; focus (intro w'; go_simp; with_reducible rfl)
  rotate_left; focus (simp only [Act.put, s1, s2, s3, i64_w, i32_w]; rfl)
  refine pure_ (i := 3) (N := some 19) (v := ?_) (a' := ?_) #[O, T, T, T, O, O, O, O, O, O, O, O, O, O, O, O, O] rfl rfl (any_of HT_.out (by kernel_rfl)) (fun _ _ _ h => h) (Or.inl ⟨by rfl, ?_⟩) ?_ ?_; rotate_left; focus (intro w'; go_simp; with_reducible rfl)
  rotate_left; focus (simp only [Act.put, s1, s2, s3, i64_w, i32_w]; rfl)
  refine pure_ (i := 4) (N := some 20) (v := ?_) (a' := ?_) #[O, T, T, T, T, O, O, O, O, O, O, O, O, O, O, O, O] rfl rfl (any_of HT_.out (by kernel_rfl)) (fun _ _ _ h => h) (Or.inl ⟨by rfl, ?_⟩) ?_ ?_; rotate_left; focus (intro w'; go_simp; with_reducible rfl)
  rotate_left; focus (simp only [Act.put, s1, s2, s3, i64_w, i32_w]; rfl)
  refine pure_ (i := 5) (N := some 21) (v := ?_) (a' := ?_) #[O, T, T, T, T, T, O, O, O, O, O, O, O, O, O, O, O] rfl rfl (any_of HT_.out (by kernel_rfl)) (fun _ _ _ h => h) (Or.inl ⟨by rfl, ?_⟩) ?_ ?_; rotate_left; focus (intro w'; go_simp; with_reducible rfl)
  rotate_left; focus (simp only [Act.put, s1, s2, s3, i64_w, i32_w]; rfl)
  refine pure_ (i := 6) (N := some 22) (v := ?_) (a' := ?_) #[O, T, T, T, T, T, T, O, O, O, O, O, O, O, O, O, O] rfl rfl (any_of HT_.out (by kernel_rfl)) (fun _ _ _ h => h) (Or.inl ⟨by rfl, ?_⟩) ?_ ?_; rotate_left; focus (intro w'; go_simp; with_reducible rfl)
  rotate_left; focus (simp only [Act.put, s1, s2, s3, i64_w, i32_w]; rfl)
  refine take_ (i := 0) (N := some 16) (v := ?_) (a' := ?_) #[T, T, T, T, T, T, T, O, O, O, O, O, O, O, O, O, O] rfl rfl (take_ofW HT_.out HW_.out (by kernel_rfl)) (fun _ _ _ h => h) (Or.inl ⟨by rfl, ?_⟩) hHeld ?_ ?_; rotate_left; focus (rintro w' ⟨s0, s1⟩; go_simp; with_reducible rfl)
  rotate_left; focus (simp only [Act.put, s1, s2, s3, i64_w, i32_w]; rfl)
  refine take_ (i := 7) (N := some 23) (v := ?_) (a' := ?_) #[T, T, T, T, T, T, T, T, O, O, O, O, O, O, O, O, O] rfl rfl (take_ofW HT_.out HW_.out (by kernel_rfl)) (fun _ _ _ h => h) (Or.inl ⟨by rfl, ?_⟩) hHeld ?_ ?_; rotate_left; focus (rintro w' ⟨s0, s1⟩; go_simp; with_reducible rfl)
  rotate_left; focus (simp only [Act.put, s1, s2, s3, i64_w, i32_w]; rfl)
  refine one_ (i := 8) (N := some 24) #[T, T, T, T, T, T, T, T, T, O, O, O, O, O, O, O, O] rfl rfl (one_of HT_.out (by kernel_rfl)) (by decide) (fun K hK => ?_)
  refine goes_ Try.func66 (by kernel_rfl) rfl #[] (by rfl) rfl rfl (by (try simp only [List.map_toArray, List.map_cons, List.map_nil]); first | done | rfl | (simp only [List.length_drop, List.length_take]; rfl)) ?_
  with_reducible refine (wide_least.calls  t138 t139 _ A19.out).mono ?_
  rintro e w29 ⟨rfl, hb⟩
  refine ⟨_, rfl, ?_⟩
  replace BK131 := kb BK131 hb
  replace BK132 := kb BK132 hb
  replace HB := kB HB hb
  (try clear hb); (try clear hb2); (try clear hk); (try clear hi)
  refine hK.out _ _ ⟨kc BK132 0, kc BK132 1⟩ (fun hHeld => ?_)
  clear hK K
  refine norm_ (a' := ?_) ?_ ?_; rotate_left; focus (show Act.put _ (some 24) _ = _; simp only [Act.put, s1, s2, s3, i64_w, i32_w]; rfl)
  refine pure_ (i := 9) (N := some 25) (v := ?_) (a' := ?_) #[T, T, T, T, T, T, T, T, T, T, O, O, O, O, O, O, O] rfl rfl (any_of HT_.out (by kernel_rfl)) (fun _ _ _ h => h) (Or.inl ⟨by rfl, ?_⟩) ?_ ?_; rotate_left; focus (intro w'; go_simp; with_reducible rfl)
  rotate_left; focus (simp only [Act.put, s1, s2, s3, i64_w, i32_w]; rfl)
  refine pure_ (i := 10) (N := some 26) (v := ?_) (a' := ?_) #[T, T, T, T, T, T, T, T, T, T, T, O, O, O, O, O, O] rfl rfl (any_of HT_.out (by kernel_rfl)) (fun _ _ _ h => h) (Or.inl ⟨by rfl, ?_⟩) ?_ ?_; rotate_left; focus (intro w'; go_simp; with_reducible rfl)
  rotate_left; focus (simp only [Act.put, s1, s2, s3, i64_w, i32_w]; rfl)
  refine pure_ (i := 11) (N := some 27) (v := ?_) (a' := ?_) #[T, T, T, T, T, T, T, T, T, T, T, T, O, O, O, O, O] rfl rfl (any_of HT_.out (by kernel_rfl)) (fun _ _ _ h => h) (Or.inl ⟨by rfl, ?_⟩) ?_ ?_; rotate_left; focus (intro w'; go_simp; with_reducible rfl)
  rotate_left; focus (simp only [Act.put, s1, s2, s3, i64_w, i32_w]; rfl)
  refine one_ (i := 12) (N := some 28) #[T, T, T, T, T, T, T, T, T, T, T, T, T, O, O, O, O] rfl rfl (one_of HT_.out (by kernel_rfl)) (by decide) (fun K hK => ?_)
  refine goes_ Try.func56 (by kernel_rfl) rfl #[.agg #[.int .i64 t133, .int .u64 t134], .bool (t133 == t138 && (t134 == t139))] (by rfl) rfl rfl (by (try simp only [List.map_toArray, List.map_cons, List.map_nil]); first | done | rfl | (simp only [List.length_drop, List.length_take]; rfl)) ?_
  with_reducible refine (wide_told.calls t133 t134 (t133 == t138 && (t134 == t139)) t140 t141 t142 _ A20.out).mono ?_
  rintro e w30 ⟨rfl, hb⟩
  refine ⟨_, rfl, ?_⟩
  replace BK131 := kb BK131 hb
  replace BK132 := kb BK132 hb
  replace HB := kB HB hb
  (try clear hb); (try clear hb2); (try clear hk); (try clear hi)
  refine hK.out _ _ ⟨kc BK132 0, kc BK132 1⟩ (fun hHeld => ?_)
  clear hK K
  refine norm_ (a' := ?_) ?_ ?_; rotate_left; focus (show Act.put _ (some 28) _ = _; simp only [Act.put, s1, s2, s3, i64_w, i32_w]; rfl)
  refine pure_ (i := 13) (N := some 29) (v := ?_) (a' := ?_) #[T, T, T, T, T, T, T, T, T, T, T, T, T, T, O, O, O] rfl rfl (any_of HT_.out (by kernel_rfl)) (fun _ _ _ h => h) (Or.inl ⟨by rfl, ?_⟩) ?_ ?_; rotate_left; focus (intro w'; go_simp; with_reducible rfl)
  rotate_left; focus (simp only [Act.put, s1, s2, s3, i64_w, i32_w]; rfl)
  refine pure_ (i := 14) (N := some 30) (v := ?_) (a' := ?_) #[T, T, T, T, T, T, T, T, T, T, T, T, T, T, T, O, O] rfl rfl (any_of HT_.out (by kernel_rfl)) (fun _ _ _ h => h) (Or.inl ⟨by rfl, ?_⟩) ?_ ?_; rotate_left; focus (intro w'; go_simp; with_reducible rfl)
  rotate_left; focus (simp only [Act.put, s1, s2, s3, i64_w, i32_w]; rfl)
  refine one_ (i := 15) (N := none) #[T, T, T, T, T, T, T, T, T, T, T, T, T, T, T, T, O] rfl rfl (one_of HT_.out (by kernel_rfl)) (by decide) (fun K hK => ?_)
  have hs31 : w30.cell? ⟨gb131, 0, none⟩ = some (.int .i64 0) := kc BK131 0
  have hfs31 := blk_frozen BK131.out 0
  have hns31_1 := NB132_131.out; have hms31_1 := NB131_132.out
  have hs32 : w30.cell? ⟨gb131, 1, none⟩ = some (.int .u64 0) := kc BK131 1
  have hfs32 := blk_frozen BK131.out 1
  have hns32_1 := NB132_131.out; have hms32_1 := NB131_132.out
  refine skip_ (w1 := ?_) (by rfl) rfl ?_ ?_
  rotate_left
  · go_simp
    rfl
  refine hK.out _ _ ⟨((cell_far (p := ⟨gb131, _, none⟩) NB132_131.out _).trans (((cell_far (p := ⟨gb131, _, none⟩) NB132_131.out _).trans (hHeld.1)))), ((cell_far (p := ⟨gb131, _, none⟩) NB132_131.out _).trans (((cell_far (p := ⟨gb131, _, none⟩) NB132_131.out _).trans (hHeld.2))))⟩ (fun hHeld => ?_)
  clear hK K
  refine pure_ (i := 16) (N := some 7) (v := ?_) (a' := ?_) #[T, T, T, T, T, T, T, T, T, T, T, T, T, T, T, T, T] rfl rfl (any_of HT_.out (by kernel_rfl)) (fun _ _ _ h => h) (Or.inl ⟨by rfl, ?_⟩) ?_ ?_; rotate_left; focus (intro w'; go_simp; with_reducible rfl)
  rotate_left; focus (simp only [Act.put, s1, s2, s3, i64_w, i32_w]; rfl)
  refine done_ (done_of HT_.out (by kernel_rfl)) ?_
  try go_wp2
  refine bodyPost_ret (results_ct rfl _ _ gb131 24 #[.int .i64 t140, .int .u64 t141] (0, 0) _ rfl (by (with_reducible repeat (first | refine blk_drewN ?_ _ | refine blk_drew ?_ | refine blk_alloc ?_ _)); refine blk_put (cs := #[.int .i64 t140, .int .u64 0]) ?_ 1 _ rfl; (with_reducible repeat (first | refine blk_drewN ?_ _ | refine blk_drew ?_ | refine blk_alloc ?_ _)); refine blk_put (cs := #[.int .i64 0, .int .u64 0]) ?_ 0 _ rfl; (with_reducible repeat (first | refine blk_drewN ?_ _ | refine blk_drew ?_ | refine blk_alloc ?_ _)); exact BK131.out) Try.underlying24 rfl (by kernel_rfl)) rfl ?_
  exact ⟨by first | rfl | (simp [errW_none, errW_some] <;> rfl) | (simp [*, errW_none, errW_some] <;> rfl), ky HB⟩
end Go.Proofs.Ytpjbniihdndlmab.Q
