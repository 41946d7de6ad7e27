-- Printed by wip/pp.sh (a session's own turning of the kit's print) for this seat.
import Derived.Test.YtpjbniihdndlmaaQx0
import Derived.Test.YtpjbniihdndlmaaQx6
namespace Go.Proofs.Ytpjbniihdndlmaa.Q
open Go.RowKit Go.Proofs.YtpjbniihdndlmaaW.PrintWords Go.Proofs.YtpjbniihdndlmaaW.PrintLast Go.Proofs.YtpjbniihdndlmaaW.PrintMore
open Go.Proofs.Ytpjbniihdndlmaa.H
attribute [local go_sem] hq_add64 hq_sub64 hq_not64 add64c_nn sub64c_nn sub64c_le
attribute [local go_sem] max2_int min2_int max_two min_two max_three min_three max_four min_four   -- for this text's walks alone
set_option linter.unusedVariables false
set_option linter.unusedSimpArgs false

/-! ### wide_Sub: function 43 -/
def wide_Sub.f (a0_0 : Int) (a0_1 : Int) (a1_0 : Int) (a1_1 : Int) : Option (Int × Int × Bool) := (wide_turn.f a1_0 a1_1).bind fun bt718 => ((wide_wrap.f a0_0 a0_1 bt718.1 bt718.2).bind fun bt720 => (if ((decide (a0_0 < 0)) == (decide (a1_0 < 0))) = true then ((wide_told.f bt720.1 bt720.2 true).bind fun bt723 => (some (bt723.1, bt723.2.1, bt723.2.2))) else ((wide_told.f bt720.1 bt720.2 ((decide (a0_0 < 0)) == (decide (bt720.1 < 0)))).bind fun bt726 => (some (bt726.1, bt726.2.1, bt726.2.2)))))
set_option maxHeartbeats 8000000 in
set_option maxRecDepth 100000 in
theorem wide_Sub.calls (a0_0 : Int) (a0_1 : Int) (a1_0 : Int) (a1_1 : Int) (r1 : Int) (r2 : Int) (r3 : Bool) (w : World) (h : wide_Sub.f a0_0 a0_1 a1_0 a1_1 = some (r1, r2, r3)) :
    Calls Try.prog 43 #[.agg #[.int .i64 a0_0, .int .u64 a0_1], .agg #[.int .i64 a1_0, .int .u64 a1_1]] w fun e w' => e = .returned (.tuple #[.agg #[.int .i64 r1, .int .u64 r2], .bool r3]) ∧ Below w.heap.size w w' := by
  have hu24 := Try.underlying24
  have HB := Aside0.mk (Below.refl w.heap.size w)
  have H : ((wide_turn.f a1_0 a1_1).bind fun bt718 => ((wide_wrap.f a0_0 a0_1 bt718.1 bt718.2).bind fun bt720 => (if ((decide (a0_0 < 0)) == (decide (a1_0 < 0))) = true then ((wide_told.f bt720.1 bt720.2 true).bind fun bt723 => (some (bt723.1, bt723.2.1, bt723.2.2))) else ((wide_told.f bt720.1 bt720.2 ((decide (a0_0 < 0)) == (decide (bt720.1 < 0)))).bind fun bt726 => (some (bt726.1, bt726.2.1, bt726.2.2)))))) = some (r1, r2, r3) := h
  clear h
  replace H := Option.bind_eq_some_iff.mp H
  obtain ⟨⟨t718, t719⟩, A30, H⟩ := H
  replace H : ((wide_wrap.f a0_0 a0_1 t718 t719).bind fun bt720 => (if ((decide (a0_0 < 0)) == (decide (a1_0 < 0))) = true then ((wide_told.f bt720.1 bt720.2 true).bind fun bt723 => (some (bt723.1, bt723.2.1, bt723.2.2))) else ((wide_told.f bt720.1 bt720.2 ((decide (a0_0 < 0)) == (decide (bt720.1 < 0)))).bind fun bt726 => (some (bt726.1, bt726.2.1, bt726.2.2))))) = some (r1, r2, r3) := H
  have A3 := Aside0.mk A30
  clear A30
  replace H := Option.bind_eq_some_iff.mp H
  obtain ⟨⟨t720, t721⟩, A40, H⟩ := H
  replace H : (if ((decide (a0_0 < 0)) == (decide (a1_0 < 0))) = true then ((wide_told.f t720 t721 true).bind fun bt723 => (some (bt723.1, bt723.2.1, bt723.2.2))) else ((wide_told.f t720 t721 ((decide (a0_0 < 0)) == (decide (t720 < 0)))).bind fun bt726 => (some (bt726.1, bt726.2.1, bt726.2.2)))) = some (r1, r2, r3) := H
  have A4 := Aside0.mk A40
  clear A40
  by_cases c5 : ((decide (a0_0 < 0)) == (decide (a1_0 < 0))) = true
  · rw [if_pos c5] at H
    have c5b0 : ((decide (a0_0 < 0)) == (decide (a1_0 < 0))) = true := c5
    (try (have c5b1 : decide ((decide (a0_0 < 0)) = (decide (a1_0 < 0))) = true := by simpa using c5))
    (try (have c5b2 : ((decide (a0_0 < 0)) == (decide (a1_0 < 0))) = true := by simpa using c5))
    clear c5
    replace H := Option.bind_eq_some_iff.mp H
    obtain ⟨⟨t723, t724, t725⟩, A60, H⟩ := H
    replace H : (some (t723, t724, t725)) = some (r1, r2, r3) := H
    have A6 := Aside0.mk A60
    clear A60
    simp only [Option.some.injEq, Prod.mk.injEq] at H
    obtain ⟨rfl, rfl, rfl⟩ := H
    go_enter Try.func43, Try.ntmps43
    try go_wp2_with (first | ((with_reducible refine gate_dst (N := 2) rfl ?_); refine box_event ?hg (N := 2) ?hd (cs := #[.int .i64 a0_0, .int .u64 a0_1]) (t := 24) ?hr ?_; (case hd => rfl); (case hg => rfl); (case hr => first | (go_simp; done) | (go_simp; rfl)); intro gb715 hg w7 hbox hb; have BK715 := Aside0.mk (hbox); have GW715 := kS HB hg; have GE715 := kS HB hg; replace HB := kB HB hb; clear hb hbox hg) | ((with_reducible refine gate_dst (N := 3) rfl ?_); refine box_event ?hg (N := 3) ?hd (cs := #[.int .i64 a1_0, .int .u64 a1_1]) (t := 24) ?hr ?_; (case hd => rfl); (case hg => rfl); (case hr => first | (go_simp; done) | (go_simp; rfl)); intro gb716 hg w8 hbox hb; have BK716 := Aside0.mk (hbox); have GW716 := kS HB hg; have GE716 := kS HB hg; have NB715_716 := kN BK715 hg; have NB716_715 := kM BK715 hg; replace BK715 := kb BK715 hb; replace HB := kB HB hb; clear hb hbox hg) | ((with_reducible refine gate_dst (N := 4) rfl ?_); refine box_event ?hg (N := 4) ?hd (cs := #[.int .i64 0, .int .u64 0]) (t := 24) ?hr ?_; (case hd => rfl); (case hg => rfl); (case hr => first | (go_simp; done) | (go_simp; rfl)); intro gb717 hg w9 hbox hb; have BK717 := Aside0.mk (hbox); have GW717 := kS HB hg; have GE717 := kS HB hg; have NB715_717 := kN BK715 hg; have NB717_715 := kM BK715 hg; have NB716_717 := kN BK716 hg; have NB717_716 := kM BK716 hg; replace BK715 := kb BK715 hb; replace BK716 := kb BK716 hb; replace HB := kB HB hb; clear hb hbox hg))
    replace BK715 := Aside0.mk (blk_drew BK715.out)
    replace BK716 := Aside0.mk (blk_drew BK716.out)
    replace BK717 := Aside0.mk (blk_drew BK717.out)
    replace HB := Aside0.mk (below_drew1 HB.out)
    refine start_ (n := 6) (S := fun w' => w'.cell? ⟨gb715, 0, none⟩ = some (.int .i64 a0_0) ∧ w'.cell? ⟨gb715, 1, none⟩ = some (.int .u64 a0_1) ∧ w'.cell? ⟨gb716, 0, none⟩ = some (.int .i64 a1_0) ∧ w'.cell? ⟨gb716, 1, none⟩ = some (.int .u64 a1_1)) (ds := []) #[O, O, O, O, O, O] (by kernel_rfl) rfl rfl ⟨kc BK715 0, kc BK715 1, kc BK716 0, kc BK716 1⟩ (fun hHeld => ?_)
    generalize w9.drew = w10 at BK715 BK716 BK717 HB hHeld ⊢
    refine take_ (i := 0) (N := some 7) (v := ?_) (a' := ?_) #[T, O, O, O, O, O] rfl rfl (by kernel_rfl) (fun _ _ _ h => h) (Or.inl ⟨by rfl, ?_⟩) hHeld ?_ ?_; rotate_left; focus (rintro w' ⟨s0, s1, s2, s3⟩; go_simp; with_reducible rfl)
    rotate_left; focus (simp only [Act.put, s1, s2, s3, i64_w, i32_w]; rfl)
    refine take_ (i := 1) (N := some 8) (v := ?_) (a' := ?_) #[T, T, O, O, O, O] rfl rfl (by kernel_rfl) (fun _ _ _ h => h) (Or.inl ⟨by rfl, ?_⟩) hHeld ?_ ?_; rotate_left; focus (rintro w' ⟨s0, s1, s2, s3⟩; go_simp; with_reducible rfl)
    rotate_left; focus (simp only [Act.put, s1, s2, s3, i64_w, i32_w]; rfl)
    refine join_ (σ := Nat) 1 #[T, T, T, T, T, O] (fun s_ => [(9, .agg #[.int .i64 t718, .int .u64 t719]), (10, .agg #[.int .i64 t720, .int .u64 t721]), (6, .pointer (some ⟨s_, 0, none⟩))]) (fun s_ w' => (w'.cell? ⟨gb715, 0, none⟩ = some (.int .i64 a0_0) ∧ w'.cell? ⟨gb715, 1, none⟩ = some (.int .u64 a0_1) ∧ w'.cell? ⟨gb716, 0, none⟩ = some (.int .i64 a1_0) ∧ w'.cell? ⟨gb716, 1, none⟩ = some (.int .u64 a1_1)) ∧ (w'.heap[gb715]? = some (.cells #[.int .i64 a0_0, .int .u64 a0_1] 24 (0, 0))) ∧ (w'.heap[gb716]? = some (.cells #[.int .i64 a1_0, .int .u64 a1_1] 24 (0, 0))) ∧ (w'.heap[gb717]? = some (.cells #[.int .i64 0, .int .u64 0] 24 (0, 0))) ∧ (w'.heap[s_]? = some (.cells #[.int .i64 0, .int .u64 0] 24 (0, 0))) ∧ (w.heap.size ≤ s_) ∧ (w.heap.size ≤ s_) ∧ (gb715 ≠ s_) ∧ (s_ ≠ gb715) ∧ (gb716 ≠ s_) ∧ (s_ ≠ gb716) ∧ (gb717 ≠ s_) ∧ (s_ ≠ gb717) ∧ (Below w.heap.size w w')) ?_ ?_
    rotate_left
    · intro hCont
      refine two_ (i := 2) (j := 4) (Ni := some 9) (Nj := some 6) #[T, T, T, O, O, O] #[T, T, O, O, T, O] rfl rfl rfl rfl (by kernel_rfl) (by decide) (by decide) (fun K hK => ?_) (fun K hK => ?_)
      · skip
        refine goes_ Try.func66 (by kernel_rfl) rfl #[.agg #[.int .i64 a1_0, .int .u64 a1_1]] (by rfl) rfl rfl (by (try simp only [List.map_toArray, List.map_cons, List.map_nil]); first | done | rfl | (simp only [List.length_drop, List.length_take]; rfl)) ?_
        with_reducible refine (wide_turn.calls a1_0 a1_1 t718 t719 _ A3.out).mono ?_
        rintro e w11 ⟨rfl, hb⟩
        refine ⟨_, rfl, ?_⟩
        replace BK715 := kb BK715 hb
        replace BK716 := kb BK716 hb
        replace BK717 := kb BK717 hb
        replace HB := kB HB hb
        (try clear hb); (try clear hb2); (try clear hk); (try clear hi)
        refine hK.out _ _ ⟨kc BK715 0, kc BK715 1, kc BK716 0, kc BK716 1⟩ (fun hHeld => ?_)
        clear hK K
        refine norm_ (a' := ?_) ?_ ?_; rotate_left; focus (show Act.put _ (some 9) _ = _; simp only [Act.put, s1, s2, s3, i64_w, i32_w]; rfl)
        refine two_ (i := 3) (j := 4) (Ni := some 10) (Nj := some 6) #[T, T, T, T, O, O] #[T, T, T, O, T, O] rfl rfl rfl rfl (by kernel_rfl) (by decide) (by decide) (fun K hK => ?_) (fun K hK => ?_)
        · skip
          refine goes_ Try.func65 (by kernel_rfl) rfl #[.agg #[.int .i64 a0_0, .int .u64 a0_1], .agg #[.int .i64 t718, .int .u64 t719]] (by rfl) rfl rfl (by (try simp only [List.map_toArray, List.map_cons, List.map_nil]); first | done | rfl | (simp only [List.length_drop, List.length_take]; rfl)) ?_
          with_reducible refine (wide_wrap.calls a0_0 a0_1 t718 t719 t720 t721 _ A4.out).mono ?_
          rintro e w12 ⟨rfl, hb⟩
          refine ⟨_, rfl, ?_⟩
          replace BK715 := kb BK715 hb
          replace BK716 := kb BK716 hb
          replace BK717 := kb BK717 hb
          replace HB := kB HB hb
          (try clear hb); (try clear hb2); (try clear hk); (try clear hi)
          refine hK.out _ _ ⟨kc BK715 0, kc BK715 1, kc BK716 0, kc BK716 1⟩ (fun hHeld => ?_)
          clear hK K
          refine norm_ (a' := ?_) ?_ ?_; rotate_left; focus (show Act.put _ (some 10) _ = _; simp only [Act.put, s1, s2, s3, i64_w, i32_w]; rfl)
          refine one_ (i := 4) (N := some 6) #[T, T, T, T, T, O] rfl rfl (by kernel_rfl) (by decide) (fun K hK => ?_)
          refine box_step ?hg (N := 6) ?hd (cs := #[.int .i64 0, .int .u64 0]) (t := 24) ?hr ?_; (case hd => rfl); (case hg => rfl); (case hr => first | (go_simp; done) | (go_simp; rfl))
          intro gb722 hg w13 hbox hb
          have BK722 := Aside0.mk (hbox)
          have GW722 := kS HB hg
          have GE722 := kS HB hg
          have NB715_722 := kN BK715 hg
          have NB722_715 := kM BK715 hg
          have NB716_722 := kN BK716 hg
          have NB722_716 := kM BK716 hg
          have NB717_722 := kN BK717 hg
          have NB722_717 := kM BK717 hg
          replace BK715 := kb BK715 hb
          replace BK716 := kb BK716 hb
          replace BK717 := kb BK717 hb
          replace HB := kB HB hb
          clear hb hbox hg
          refine hK.out _ _ ⟨kc BK715 0, kc BK715 1, kc BK716 0, kc BK716 1⟩ (fun hHeld => ?_)
          clear hK K
          refine norm_ (a' := ?_) ?_ ?_; rotate_left; focus (show Act.put _ (some 6) _ = _; simp only [Act.put, s1, s2, s3, i64_w, i32_w]; rfl)
          exact norm_ (by simp only [putAll, Act.put, s1, s2, s3]) (hCont (gb722) _ ⟨hHeld, (kx BK715), (kx BK716), (kx BK717), (kx BK722), GW722.out, GE722.out, NB715_722.out, NB722_715.out, NB716_722.out, NB722_716.out, NB717_722.out, NB722_717.out, (ky HB)⟩)
        · skip
          refine box_step ?hg (N := 6) ?hd (cs := #[.int .i64 0, .int .u64 0]) (t := 24) ?hr ?_; (case hd => rfl); (case hg => rfl); (case hr => first | (go_simp; done) | (go_simp; rfl))
          intro gb722 hg w12 hbox hb
          have BK722 := Aside0.mk (hbox)
          have GW722 := kS HB hg
          have GE722 := kS HB hg
          have NB715_722 := kN BK715 hg
          have NB722_715 := kM BK715 hg
          have NB716_722 := kN BK716 hg
          have NB722_716 := kM BK716 hg
          have NB717_722 := kN BK717 hg
          have NB722_717 := kM BK717 hg
          replace BK715 := kb BK715 hb
          replace BK716 := kb BK716 hb
          replace BK717 := kb BK717 hb
          replace HB := kB HB hb
          clear hb hbox hg
          refine hK.out _ _ ⟨kc BK715 0, kc BK715 1, kc BK716 0, kc BK716 1⟩ (fun hHeld => ?_)
          clear hK K
          refine norm_ (a' := ?_) ?_ ?_; rotate_left; focus (show Act.put _ (some 6) _ = _; simp only [Act.put, s1, s2, s3, i64_w, i32_w]; rfl)
          refine one_ (i := 3) (N := some 10) #[T, T, T, T, T, O] rfl rfl (by kernel_rfl) (by decide) (fun K hK => ?_)
          refine goes_ Try.func65 (by kernel_rfl) rfl #[.agg #[.int .i64 a0_0, .int .u64 a0_1], .agg #[.int .i64 t718, .int .u64 t719]] (by rfl) rfl rfl (by (try simp only [List.map_toArray, List.map_cons, List.map_nil]); first | done | rfl | (simp only [List.length_drop, List.length_take]; rfl)) ?_
          with_reducible refine (wide_wrap.calls a0_0 a0_1 t718 t719 t720 t721 _ A4.out).mono ?_
          rintro e w13 ⟨rfl, hb⟩
          refine ⟨_, rfl, ?_⟩
          replace BK715 := kb BK715 hb
          replace BK716 := kb BK716 hb
          replace BK717 := kb BK717 hb
          replace BK722 := kb BK722 hb
          replace HB := kB HB hb
          (try clear hb); (try clear hb2); (try clear hk); (try clear hi)
          refine hK.out _ _ ⟨kc BK715 0, kc BK715 1, kc BK716 0, kc BK716 1⟩ (fun hHeld => ?_)
          clear hK K
          refine norm_ (a' := ?_) ?_ ?_; rotate_left; focus (show Act.put _ (some 10) _ = _; simp only [Act.put, s1, s2, s3, i64_w, i32_w]; rfl)
          exact norm_ (by simp only [putAll, Act.put, s1, s2, s3]) (hCont (gb722) _ ⟨hHeld, (kx BK715), (kx BK716), (kx BK717), (kx BK722), GW722.out, GE722.out, NB715_722.out, NB722_715.out, NB716_722.out, NB722_716.out, NB717_722.out, NB722_717.out, (ky HB)⟩)
      · skip
        refine box_step ?hg (N := 6) ?hd (cs := #[.int .i64 0, .int .u64 0]) (t := 24) ?hr ?_; (case hd => rfl); (case hg => rfl); (case hr => first | (go_simp; done) | (go_simp; rfl))
        intro gb722 hg w11 hbox hb
        have BK722 := Aside0.mk (hbox)
        have GW722 := kS HB hg
        have GE722 := kS HB hg
        have NB715_722 := kN BK715 hg
        have NB722_715 := kM BK715 hg
        have NB716_722 := kN BK716 hg
        have NB722_716 := kM BK716 hg
        have NB717_722 := kN BK717 hg
        have NB722_717 := kM BK717 hg
        replace BK715 := kb BK715 hb
        replace BK716 := kb BK716 hb
        replace BK717 := kb BK717 hb
        replace HB := kB HB hb
        clear hb hbox hg
        refine hK.out _ _ ⟨kc BK715 0, kc BK715 1, kc BK716 0, kc BK716 1⟩ (fun hHeld => ?_)
        clear hK K
        refine norm_ (a' := ?_) ?_ ?_; rotate_left; focus (show Act.put _ (some 6) _ = _; simp only [Act.put, s1, s2, s3, i64_w, i32_w]; rfl)
        refine one_ (i := 2) (N := some 9) #[T, T, T, O, T, O] rfl rfl (by kernel_rfl) (by decide) (fun K hK => ?_)
        refine goes_ Try.func66 (by kernel_rfl) rfl #[.agg #[.int .i64 a1_0, .int .u64 a1_1]] (by rfl) rfl rfl (by (try simp only [List.map_toArray, List.map_cons, List.map_nil]); first | done | rfl | (simp only [List.length_drop, List.length_take]; rfl)) ?_
        with_reducible refine (wide_turn.calls a1_0 a1_1 t718 t719 _ A3.out).mono ?_
        rintro e w12 ⟨rfl, hb⟩
        refine ⟨_, rfl, ?_⟩
        replace BK715 := kb BK715 hb
        replace BK716 := kb BK716 hb
        replace BK717 := kb BK717 hb
        replace BK722 := kb BK722 hb
        replace HB := kB HB hb
        (try clear hb); (try clear hb2); (try clear hk); (try clear hi)
        refine hK.out _ _ ⟨kc BK715 0, kc BK715 1, kc BK716 0, kc BK716 1⟩ (fun hHeld => ?_)
        clear hK K
        refine norm_ (a' := ?_) ?_ ?_; rotate_left; focus (show Act.put _ (some 9) _ = _; simp only [Act.put, s1, s2, s3, i64_w, i32_w]; rfl)
        refine one_ (i := 3) (N := some 10) #[T, T, T, T, T, O] rfl rfl (by kernel_rfl) (by decide) (fun K hK => ?_)
        refine goes_ Try.func65 (by kernel_rfl) rfl #[.agg #[.int .i64 a0_0, .int .u64 a0_1], .agg #[.int .i64 t718, .int .u64 t719]] (by rfl) rfl rfl (by (try simp only [List.map_toArray, List.map_cons, List.map_nil]); first | done | rfl | (simp only [List.length_drop, List.length_take]; rfl)) ?_
        with_reducible refine (wide_wrap.calls a0_0 a0_1 t718 t719 t720 t721 _ A4.out).mono ?_
        rintro e w13 ⟨rfl, hb⟩
        refine ⟨_, rfl, ?_⟩
        replace BK715 := kb BK715 hb
        replace BK716 := kb BK716 hb
        replace BK717 := kb BK717 hb
        replace BK722 := kb BK722 hb
        replace HB := kB HB hb
        (try clear hb); (try clear hb2); (try clear hk); (try clear hi)
        refine hK.out _ _ ⟨kc BK715 0, kc BK715 1, kc BK716 0, kc BK716 1⟩ (fun hHeld => ?_)
        clear hK K
        refine norm_ (a' := ?_) ?_ ?_; rotate_left; focus (show Act.put _ (some 10) _ = _; simp only [Act.put, s1, s2, s3, i64_w, i32_w]; rfl)
        exact norm_ (by simp only [putAll, Act.put, s1, s2, s3]) (hCont (gb722) _ ⟨hHeld, (kx BK715), (kx BK716), (kx BK717), (kx BK722), GW722.out, GE722.out, NB715_722.out, NB722_715.out, NB716_722.out, NB722_716.out, NB717_722.out, NB722_717.out, (ky HB)⟩)
    rintro gb722 w14 ⟨hS_, h0_, h1_, h2_, h3_, h4_, h5_, h6_, h7_, h8_, h9_, h10_, h11_, h12_⟩
    clear BK715 BK716 BK717 HB
    have BK715 := A0 h0_; have BK716 := A0 h1_; have BK717 := A0 h2_; have BK722 := A0 h3_; have GW722 := A0 h4_; have GE722 := A0 h5_; have NB715_722 := A0 h6_; have NB722_715 := A0 h7_; have NB716_722 := A0 h8_; have NB722_716 := A0 h9_; have NB717_722 := A0 h10_; have NB722_717 := A0 h11_; have HB := A0 h12_
    clear h0_ h1_ h2_ h3_ h4_ h5_ h6_ h7_ h8_ h9_ h10_ h11_ h12_
    have hHeld := hS_
    refine norm_ (a' := ?_) ?_ ?_; rotate_left; focus (simp only [putAll, Act.put, s1, s2, s3]; rfl)
    refine one_ (i := 5) (N := none) #[T, T, T, T, T, T] rfl rfl (by kernel_rfl) (by decide) (fun K hK => ?_)
    have hs15 : w14.cell? ⟨gb722, 0, none⟩ = some (.int .i64 0) := kc BK722 0
    have hfs15 := blk_frozen BK722.out 0
    have hns15_0 := NB715_722.out; have hns15_1 := NB716_722.out; have hns15_2 := NB717_722.out; have hms15_0 := NB722_715.out; have hms15_1 := NB722_716.out; have hms15_2 := NB722_717.out
    have hs16 : w14.cell? ⟨gb722, 1, none⟩ = some (.int .u64 0) := kc BK722 1
    have hfs16 := blk_frozen BK722.out 1
    have hns16_0 := NB715_722.out; have hns16_1 := NB716_722.out; have hns16_2 := NB717_722.out; have hms16_0 := NB722_715.out; have hms16_1 := NB722_716.out; have hms16_2 := NB722_717.out
    refine skip_ (w1 := ?_) (by rfl) rfl ?_ ?_
    rotate_left
    · go_simp
      rfl
    refine hK.out _ _ ⟨((cell_far (p := ⟨gb722, _, none⟩) NB715_722.out _).trans (((cell_far (p := ⟨gb722, _, none⟩) NB715_722.out _).trans (hHeld.1)))), ((cell_far (p := ⟨gb722, _, none⟩) NB715_722.out _).trans (((cell_far (p := ⟨gb722, _, none⟩) NB715_722.out _).trans (hHeld.2.1)))), ((cell_far (p := ⟨gb722, _, none⟩) NB716_722.out _).trans (((cell_far (p := ⟨gb722, _, none⟩) NB716_722.out _).trans (hHeld.2.2.1)))), ((cell_far (p := ⟨gb722, _, none⟩) NB716_722.out _).trans (((cell_far (p := ⟨gb722, _, none⟩) NB716_722.out _).trans (hHeld.2.2.2))))⟩ (fun hHeld => ?_)
    clear hK K
    refine done_ (by kernel_rfl) ?_
    have hnb17 := NB722_715.out; have hnc17 := NB715_722.out; have hnb18 := NB722_716.out; have hnc18 := NB716_722.out; have hnb19 := NB722_717.out; have hnc19 := NB717_722.out
    have hcz20_0 : w14.cell? ⟨gb722, 0, none⟩ = some (.int .i64 0) := kc BK722 0
    have hcz20_1 : w14.cell? ⟨gb722, 1, none⟩ = some (.int .u64 0) := kc BK722 1
    have hfz20_0 := blk_frozen BK722.out 0
    have hfz20_1 := blk_frozen BK722.out 1
    have hnb21 := NB715_716.out; have hnc21 := NB716_715.out; have hnb22 := NB715_717.out; have hnc22 := NB717_715.out
    have hcz23_0 : w14.cell? ⟨gb715, 0, none⟩ = some (.int .i64 a0_0) := kc BK715 0
    have hcz23_1 : w14.cell? ⟨gb715, 1, none⟩ = some (.int .u64 a0_1) := kc BK715 1
    have hfz23_0 := blk_frozen BK715.out 0
    have hfz23_1 := blk_frozen BK715.out 1
    have hnb24 := NB716_717.out; have hnc24 := NB717_716.out
    have hcz25_0 : w14.cell? ⟨gb716, 0, none⟩ = some (.int .i64 a1_0) := kc BK716 0
    have hcz25_1 : w14.cell? ⟨gb716, 1, none⟩ = some (.int .u64 a1_1) := kc BK716 1
    have hfz25_0 := blk_frozen BK716.out 0
    have hfz25_1 := blk_frozen BK716.out 1
    try go_wp2_with (first | ((with_reducible refine gate_callee (f := 59) rfl ?_); refine goesL_ (some 28) rfl rfl Try.func59 (by kernel_rfl) rfl #[.agg #[.int .i64 t720, .int .u64 t721], .bool true] rfl (by (try simp only [List.map_toArray, List.map_cons, List.map_nil]); first | done | rfl | (simp only [List.length_drop, List.length_take]; rfl)) ?_; (with_reducible refine (wide_told.calls t720 t721 true t723 t724 t725 _ A6.out).mono ?_); rintro e w26 ⟨rfl, hb⟩; refine ⟨_, rfl, ?_⟩; have n0_ := kb BK715 hb; have n1_ := kb BK716 hb; have n2_ := kb BK717 hb; have n3_ := Aside0.mk (blk_below (g := gb722) (o := .cells #[.int .i64 t720, .int .u64 t721] 24 (0, 0)) (by (with_reducible repeat (first | refine blk_drewN ?_ _ | refine blk_drew ?_ | refine blk_alloc ?_ _)); refine blk_put (cs := #[.int .i64 t720, .int .u64 0]) ?_ 1 _ rfl; (with_reducible repeat (first | refine blk_drewN ?_ _ | refine blk_drew ?_ | refine blk_alloc ?_ _)); refine blk_put (cs := #[.int .i64 0, .int .u64 0]) ?_ 0 _ rfl; (with_reducible repeat (first | refine blk_drewN ?_ _ | refine blk_drew ?_ | refine blk_alloc ?_ _)); exact BK722.out) hb); have n4_ := kB HB hb; clear BK715; clear BK716; clear BK717; clear BK722; clear HB; have BK715 := n0_; have BK716 := n1_; have BK717 := n2_; have BK722 := n3_; have HB := n4_; clear n0_ n1_ n2_ n3_ n4_; (try clear hb); (try clear hb2); (try clear hk); (try clear hi); have hcz27_0 : w26.cell? ⟨gb717, 0, none⟩ = some (.int .i64 0) := kc BK717 0; have hcz27_1 : w26.cell? ⟨gb717, 1, none⟩ = some (.int .u64 0) := kc BK717 1; have hfz27_0 := blk_frozen BK717.out 0; have hfz27_1 := blk_frozen BK717.out 1))
    refine bodyPost_ret (results_ct rfl _ _ gb717 24 #[.int .i64 t723, .int .u64 t724] (0, 0) _ rfl (by (with_reducible repeat (first | refine blk_drewN ?_ _ | refine blk_drew ?_ | refine blk_alloc ?_ _)); refine blk_put (cs := #[.int .i64 t723, .int .u64 0]) ?_ 1 _ rfl; (with_reducible repeat (first | refine blk_drewN ?_ _ | refine blk_drew ?_ | refine blk_alloc ?_ _)); refine blk_put (cs := #[.int .i64 0, .int .u64 0]) ?_ 0 _ rfl; (with_reducible repeat (first | refine blk_drewN ?_ _ | refine blk_drew ?_ | refine blk_alloc ?_ _)); exact BK717.out) Try.underlying24 rfl (by kernel_rfl)) rfl ?_
    exact ⟨by first | rfl | (simp [errW_none, errW_some] <;> rfl) | (simp [*, errW_none, errW_some] <;> rfl), ky HB⟩
  rw [if_neg c5] at H
  have c5b0 : ((decide (a0_0 < 0)) == (decide (a1_0 < 0))) = false := by simpa using c5
  (try (have c5b1 : decide ((decide (a0_0 < 0)) = (decide (a1_0 < 0))) = false := by simpa using c5))
  (try (have c5b2 : ((decide (a0_0 < 0)) == (decide (a1_0 < 0))) = false := by simpa using c5))
  (try (have c5b3 : ¬ ((decide (a0_0 < 0)) = (decide (a1_0 < 0))) := by simpa using c5))
  clear c5
  replace H := Option.bind_eq_some_iff.mp H
  obtain ⟨⟨t726, t727, t728⟩, A280, H⟩ := H
  replace H : (some (t726, t727, t728)) = some (r1, r2, r3) := H
  have A28 := Aside0.mk A280
  clear A280
  simp only [Option.some.injEq, Prod.mk.injEq] at H
  obtain ⟨rfl, rfl, rfl⟩ := H
  go_enter Try.func43, Try.ntmps43
  try go_wp2_with (first | ((with_reducible refine gate_dst (N := 2) rfl ?_); refine box_event ?hg (N := 2) ?hd (cs := #[.int .i64 a0_0, .int .u64 a0_1]) (t := 24) ?hr ?_; (case hd => rfl); (case hg => rfl); (case hr => first | (go_simp; done) | (go_simp; rfl)); intro gb715 hg w29 hbox hb; have BK715 := Aside0.mk (hbox); have GW715 := kS HB hg; have GE715 := kS HB hg; replace HB := kB HB hb; clear hb hbox hg) | ((with_reducible refine gate_dst (N := 3) rfl ?_); refine box_event ?hg (N := 3) ?hd (cs := #[.int .i64 a1_0, .int .u64 a1_1]) (t := 24) ?hr ?_; (case hd => rfl); (case hg => rfl); (case hr => first | (go_simp; done) | (go_simp; rfl)); intro gb716 hg w30 hbox hb; have BK716 := Aside0.mk (hbox); have GW716 := kS HB hg; have GE716 := kS HB hg; have NB715_716 := kN BK715 hg; have NB716_715 := kM BK715 hg; replace BK715 := kb BK715 hb; replace HB := kB HB hb; clear hb hbox hg) | ((with_reducible refine gate_dst (N := 4) rfl ?_); refine box_event ?hg (N := 4) ?hd (cs := #[.int .i64 0, .int .u64 0]) (t := 24) ?hr ?_; (case hd => rfl); (case hg => rfl); (case hr => first | (go_simp; done) | (go_simp; rfl)); intro gb717 hg w31 hbox hb; have BK717 := Aside0.mk (hbox); have GW717 := kS HB hg; have GE717 := kS HB hg; have NB715_717 := kN BK715 hg; have NB717_715 := kM BK715 hg; have NB716_717 := kN BK716 hg; have NB717_716 := kM BK716 hg; replace BK715 := kb BK715 hb; replace BK716 := kb BK716 hb; replace HB := kB HB hb; clear hb hbox hg))
  replace BK715 := Aside0.mk (blk_drew BK715.out)
  replace BK716 := Aside0.mk (blk_drew BK716.out)
  replace BK717 := Aside0.mk (blk_drew BK717.out)
  replace HB := Aside0.mk (below_drew1 HB.out)
  refine start_ (n := 6) (S := fun w' => w'.cell? ⟨gb715, 0, none⟩ = some (.int .i64 a0_0) ∧ w'.cell? ⟨gb715, 1, none⟩ = some (.int .u64 a0_1) ∧ w'.cell? ⟨gb716, 0, none⟩ = some (.int .i64 a1_0) ∧ w'.cell? ⟨gb716, 1, none⟩ = some (.int .u64 a1_1)) (ds := []) #[O, O, O, O, O, O] (by kernel_rfl) rfl rfl ⟨kc BK715 0, kc BK715 1, kc BK716 0, kc BK716 1⟩ (fun hHeld => ?_)
  generalize w31.drew = w32 at BK715 BK716 BK717 HB hHeld ⊢
  refine take_ (i := 0) (N := some 7) (v := ?_) (a' := ?_) #[T, O, O, O, O, O] rfl rfl (by kernel_rfl) (fun _ _ _ h => h) (Or.inl ⟨by rfl, ?_⟩) hHeld ?_ ?_; rotate_left; focus (rintro w' ⟨s0, s1, s2, s3⟩; go_simp; with_reducible rfl)
  rotate_left; focus (simp only [Act.put, s1, s2, s3, i64_w, i32_w]; rfl)
  refine take_ (i := 1) (N := some 8) (v := ?_) (a' := ?_) #[T, T, O, O, O, O] rfl rfl (by kernel_rfl) (fun _ _ _ h => h) (Or.inl ⟨by rfl, ?_⟩) hHeld ?_ ?_; rotate_left; focus (rintro w' ⟨s0, s1, s2, s3⟩; go_simp; with_reducible rfl)
  rotate_left; focus (simp only [Act.put, s1, s2, s3, i64_w, i32_w]; rfl)
  refine join_ (σ := Nat) 1 #[T, T, T, T, T, O] (fun s_ => [(9, .agg #[.int .i64 t718, .int .u64 t719]), (10, .agg #[.int .i64 t720, .int .u64 t721]), (6, .pointer (some ⟨s_, 0, none⟩))]) (fun s_ w' => (w'.cell? ⟨gb715, 0, none⟩ = some (.int .i64 a0_0) ∧ w'.cell? ⟨gb715, 1, none⟩ = some (.int .u64 a0_1) ∧ w'.cell? ⟨gb716, 0, none⟩ = some (.int .i64 a1_0) ∧ w'.cell? ⟨gb716, 1, none⟩ = some (.int .u64 a1_1)) ∧ (w'.heap[gb715]? = some (.cells #[.int .i64 a0_0, .int .u64 a0_1] 24 (0, 0))) ∧ (w'.heap[gb716]? = some (.cells #[.int .i64 a1_0, .int .u64 a1_1] 24 (0, 0))) ∧ (w'.heap[gb717]? = some (.cells #[.int .i64 0, .int .u64 0] 24 (0, 0))) ∧ (w'.heap[s_]? = some (.cells #[.int .i64 0, .int .u64 0] 24 (0, 0))) ∧ (w.heap.size ≤ s_) ∧ (w.heap.size ≤ s_) ∧ (gb715 ≠ s_) ∧ (s_ ≠ gb715) ∧ (gb716 ≠ s_) ∧ (s_ ≠ gb716) ∧ (gb717 ≠ s_) ∧ (s_ ≠ gb717) ∧ (Below w.heap.size w w')) ?_ ?_
  rotate_left
  · intro hCont
    refine two_ (i := 2) (j := 4) (Ni := some 9) (Nj := some 6) #[T, T, T, O, O, O] #[T, T, O, O, T, O] rfl rfl rfl rfl (by kernel_rfl) (by decide) (by decide) (fun K hK => ?_) (fun K hK => ?_)
    · skip
      refine goes_ Try.func66 (by kernel_rfl) rfl #[.agg #[.int .i64 a1_0, .int .u64 a1_1]] (by rfl) rfl rfl (by (try simp only [List.map_toArray, List.map_cons, List.map_nil]); first | done | rfl | (simp only [List.length_drop, List.length_take]; rfl)) ?_
      with_reducible refine (wide_turn.calls a1_0 a1_1 t718 t719 _ A3.out).mono ?_
      rintro e w33 ⟨rfl, hb⟩
      refine ⟨_, rfl, ?_⟩
      replace BK715 := kb BK715 hb
      replace BK716 := kb BK716 hb
      replace BK717 := kb BK717 hb
      replace HB := kB HB hb
      (try clear hb); (try clear hb2); (try clear hk); (try clear hi)
      refine hK.out _ _ ⟨kc BK715 0, kc BK715 1, kc BK716 0, kc BK716 1⟩ (fun hHeld => ?_)
      clear hK K
      refine norm_ (a' := ?_) ?_ ?_; rotate_left; focus (show Act.put _ (some 9) _ = _; simp only [Act.put, s1, s2, s3, i64_w, i32_w]; rfl)
      refine two_ (i := 3) (j := 4) (Ni := some 10) (Nj := some 6) #[T, T, T, T, O, O] #[T, T, T, O, T, O] rfl rfl rfl rfl (by kernel_rfl) (by decide) (by decide) (fun K hK => ?_) (fun K hK => ?_)
      · skip
        refine goes_ Try.func65 (by kernel_rfl) rfl #[.agg #[.int .i64 a0_0, .int .u64 a0_1], .agg #[.int .i64 t718, .int .u64 t719]] (by rfl) rfl rfl (by (try simp only [List.map_toArray, List.map_cons, List.map_nil]); first | done | rfl | (simp only [List.length_drop, List.length_take]; rfl)) ?_
        with_reducible refine (wide_wrap.calls a0_0 a0_1 t718 t719 t720 t721 _ A4.out).mono ?_
        rintro e w34 ⟨rfl, hb⟩
        refine ⟨_, rfl, ?_⟩
        replace BK715 := kb BK715 hb
        replace BK716 := kb BK716 hb
        replace BK717 := kb BK717 hb
        replace HB := kB HB hb
        (try clear hb); (try clear hb2); (try clear hk); (try clear hi)
        refine hK.out _ _ ⟨kc BK715 0, kc BK715 1, kc BK716 0, kc BK716 1⟩ (fun hHeld => ?_)
        clear hK K
        refine norm_ (a' := ?_) ?_ ?_; rotate_left; focus (show Act.put _ (some 10) _ = _; simp only [Act.put, s1, s2, s3, i64_w, i32_w]; rfl)
        refine one_ (i := 4) (N := some 6) #[T, T, T, T, T, O] rfl rfl (by kernel_rfl) (by decide) (fun K hK => ?_)
        refine box_step ?hg (N := 6) ?hd (cs := #[.int .i64 0, .int .u64 0]) (t := 24) ?hr ?_; (case hd => rfl); (case hg => rfl); (case hr => first | (go_simp; done) | (go_simp; rfl))
        intro gb722 hg w35 hbox hb
        have BK722 := Aside0.mk (hbox)
        have GW722 := kS HB hg
        have GE722 := kS HB hg
        have NB715_722 := kN BK715 hg
        have NB722_715 := kM BK715 hg
        have NB716_722 := kN BK716 hg
        have NB722_716 := kM BK716 hg
        have NB717_722 := kN BK717 hg
        have NB722_717 := kM BK717 hg
        replace BK715 := kb BK715 hb
        replace BK716 := kb BK716 hb
        replace BK717 := kb BK717 hb
        replace HB := kB HB hb
        clear hb hbox hg
        refine hK.out _ _ ⟨kc BK715 0, kc BK715 1, kc BK716 0, kc BK716 1⟩ (fun hHeld => ?_)
        clear hK K
        refine norm_ (a' := ?_) ?_ ?_; rotate_left; focus (show Act.put _ (some 6) _ = _; simp only [Act.put, s1, s2, s3, i64_w, i32_w]; rfl)
        exact norm_ (by simp only [putAll, Act.put, s1, s2, s3]) (hCont (gb722) _ ⟨hHeld, (kx BK715), (kx BK716), (kx BK717), (kx BK722), GW722.out, GE722.out, NB715_722.out, NB722_715.out, NB716_722.out, NB722_716.out, NB717_722.out, NB722_717.out, (ky HB)⟩)
      · skip
        refine box_step ?hg (N := 6) ?hd (cs := #[.int .i64 0, .int .u64 0]) (t := 24) ?hr ?_; (case hd => rfl); (case hg => rfl); (case hr => first | (go_simp; done) | (go_simp; rfl))
        intro gb722 hg w34 hbox hb
        have BK722 := Aside0.mk (hbox)
        have GW722 := kS HB hg
        have GE722 := kS HB hg
        have NB715_722 := kN BK715 hg
        have NB722_715 := kM BK715 hg
        have NB716_722 := kN BK716 hg
        have NB722_716 := kM BK716 hg
        have NB717_722 := kN BK717 hg
        have NB722_717 := kM BK717 hg
        replace BK715 := kb BK715 hb
        replace BK716 := kb BK716 hb
        replace BK717 := kb BK717 hb
        replace HB := kB HB hb
        clear hb hbox hg
        refine hK.out _ _ ⟨kc BK715 0, kc BK715 1, kc BK716 0, kc BK716 1⟩ (fun hHeld => ?_)
        clear hK K
        refine norm_ (a' := ?_) ?_ ?_; rotate_left; focus (show Act.put _ (some 6) _ = _; simp only [Act.put, s1, s2, s3, i64_w, i32_w]; rfl)
        refine one_ (i := 3) (N := some 10) #[T, T, T, T, T, O] rfl rfl (by kernel_rfl) (by decide) (fun K hK => ?_)
        refine goes_ Try.func65 (by kernel_rfl) rfl #[.agg #[.int .i64 a0_0, .int .u64 a0_1], .agg #[.int .i64 t718, .int .u64 t719]] (by rfl) rfl rfl (by (try simp only [List.map_toArray, List.map_cons, List.map_nil]); first | done | rfl | (simp only [List.length_drop, List.length_take]; rfl)) ?_
        with_reducible refine (wide_wrap.calls a0_0 a0_1 t718 t719 t720 t721 _ A4.out).mono ?_
        rintro e w35 ⟨rfl, hb⟩
        refine ⟨_, rfl, ?_⟩
        replace BK715 := kb BK715 hb
        replace BK716 := kb BK716 hb
        replace BK717 := kb BK717 hb
        replace BK722 := kb BK722 hb
        replace HB := kB HB hb
        (try clear hb); (try clear hb2); (try clear hk); (try clear hi)
        refine hK.out _ _ ⟨kc BK715 0, kc BK715 1, kc BK716 0, kc BK716 1⟩ (fun hHeld => ?_)
        clear hK K
        refine norm_ (a' := ?_) ?_ ?_; rotate_left; focus (show Act.put _ (some 10) _ = _; simp only [Act.put, s1, s2, s3, i64_w, i32_w]; rfl)
        exact norm_ (by simp only [putAll, Act.put, s1, s2, s3]) (hCont (gb722) _ ⟨hHeld, (kx BK715), (kx BK716), (kx BK717), (kx BK722), GW722.out, GE722.out, NB715_722.out, NB722_715.out, NB716_722.out, NB722_716.out, NB717_722.out, NB722_717.out, (ky HB)⟩)
    · skip
      refine box_step ?hg (N := 6) ?hd (cs := #[.int .i64 0, .int .u64 0]) (t := 24) ?hr ?_; (case hd => rfl); (case hg => rfl); (case hr => first | (go_simp; done) | (go_simp; rfl))
      intro gb722 hg w33 hbox hb
      have BK722 := Aside0.mk (hbox)
      have GW722 := kS HB hg
      have GE722 := kS HB hg
      have NB715_722 := kN BK715 hg
      have NB722_715 := kM BK715 hg
      have NB716_722 := kN BK716 hg
      have NB722_716 := kM BK716 hg
      have NB717_722 := kN BK717 hg
      have NB722_717 := kM BK717 hg
      replace BK715 := kb BK715 hb
      replace BK716 := kb BK716 hb
      replace BK717 := kb BK717 hb
      replace HB := kB HB hb
      clear hb hbox hg
      refine hK.out _ _ ⟨kc BK715 0, kc BK715 1, kc BK716 0, kc BK716 1⟩ (fun hHeld => ?_)
      clear hK K
      refine norm_ (a' := ?_) ?_ ?_; rotate_left; focus (show Act.put _ (some 6) _ = _; simp only [Act.put, s1, s2, s3, i64_w, i32_w]; rfl)
      refine one_ (i := 2) (N := some 9) #[T, T, T, O, T, O] rfl rfl (by kernel_rfl) (by decide) (fun K hK => ?_)
      refine goes_ Try.func66 (by kernel_rfl) rfl #[.agg #[.int .i64 a1_0, .int .u64 a1_1]] (by rfl) rfl rfl (by (try simp only [List.map_toArray, List.map_cons, List.map_nil]); first | done | rfl | (simp only [List.length_drop, List.length_take]; rfl)) ?_
      with_reducible refine (wide_turn.calls a1_0 a1_1 t718 t719 _ A3.out).mono ?_
      rintro e w34 ⟨rfl, hb⟩
      refine ⟨_, rfl, ?_⟩
      replace BK715 := kb BK715 hb
      replace BK716 := kb BK716 hb
      replace BK717 := kb BK717 hb
      replace BK722 := kb BK722 hb
      replace HB := kB HB hb
      (try clear hb); (try clear hb2); (try clear hk); (try clear hi)
      refine hK.out _ _ ⟨kc BK715 0, kc BK715 1, kc BK716 0, kc BK716 1⟩ (fun hHeld => ?_)
      clear hK K
      refine norm_ (a' := ?_) ?_ ?_; rotate_left; focus (show Act.put _ (some 9) _ = _; simp only [Act.put, s1, s2, s3, i64_w, i32_w]; rfl)
      refine one_ (i := 3) (N := some 10) #[T, T, T, T, T, O] rfl rfl (by kernel_rfl) (by decide) (fun K hK => ?_)
      refine goes_ Try.func65 (by kernel_rfl) rfl #[.agg #[.int .i64 a0_0, .int .u64 a0_1], .agg #[.int .i64 t718, .int .u64 t719]] (by rfl) rfl rfl (by (try simp only [List.map_toArray, List.map_cons, List.map_nil]); first | done | rfl | (simp only [List.length_drop, List.length_take]; rfl)) ?_
      with_reducible refine (wide_wrap.calls a0_0 a0_1 t718 t719 t720 t721 _ A4.out).mono ?_
      rintro e w35 ⟨rfl, hb⟩
      refine ⟨_, rfl, ?_⟩
      replace BK715 := kb BK715 hb
      replace BK716 := kb BK716 hb
      replace BK717 := kb BK717 hb
      replace BK722 := kb BK722 hb
      replace HB := kB HB hb
      (try clear hb); (try clear hb2); (try clear hk); (try clear hi)
      refine hK.out _ _ ⟨kc BK715 0, kc BK715 1, kc BK716 0, kc BK716 1⟩ (fun hHeld => ?_)
      clear hK K
      refine norm_ (a' := ?_) ?_ ?_; rotate_left; focus (show Act.put _ (some 10) _ = _; simp only [Act.put, s1, s2, s3, i64_w, i32_w]; rfl)
      exact norm_ (by simp only [putAll, Act.put, s1, s2, s3]) (hCont (gb722) _ ⟨hHeld, (kx BK715), (kx BK716), (kx BK717), (kx BK722), GW722.out, GE722.out, NB715_722.out, NB722_715.out, NB716_722.out, NB722_716.out, NB717_722.out, NB722_717.out, (ky HB)⟩)
  rintro gb722 w36 ⟨hS_, h0_, h1_, h2_, h3_, h4_, h5_, h6_, h7_, h8_, h9_, h10_, h11_, h12_⟩
  clear BK715 BK716 BK717 HB
  have BK715 := A0 h0_; have BK716 := A0 h1_; have BK717 := A0 h2_; have BK722 := A0 h3_; have GW722 := A0 h4_; have GE722 := A0 h5_; have NB715_722 := A0 h6_; have NB722_715 := A0 h7_; have NB716_722 := A0 h8_; have NB722_716 := A0 h9_; have NB717_722 := A0 h10_; have NB722_717 := A0 h11_; have HB := A0 h12_
  clear h0_ h1_ h2_ h3_ h4_ h5_ h6_ h7_ h8_ h9_ h10_ h11_ h12_
  have hHeld := hS_
  refine norm_ (a' := ?_) ?_ ?_; rotate_left; focus (simp only [putAll, Act.put, s1, s2, s3]; rfl)
  refine one_ (i := 5) (N := none) #[T, T, T, T, T, T] rfl rfl (by kernel_rfl) (by decide) (fun K hK => ?_)
  have hs37 : w36.cell? ⟨gb722, 0, none⟩ = some (.int .i64 0) := kc BK722 0
  have hfs37 := blk_frozen BK722.out 0
  have hns37_0 := NB715_722.out; have hns37_1 := NB716_722.out; have hns37_2 := NB717_722.out; have hms37_0 := NB722_715.out; have hms37_1 := NB722_716.out; have hms37_2 := NB722_717.out
  have hs38 : w36.cell? ⟨gb722, 1, none⟩ = some (.int .u64 0) := kc BK722 1
  have hfs38 := blk_frozen BK722.out 1
  have hns38_0 := NB715_722.out; have hns38_1 := NB716_722.out; have hns38_2 := NB717_722.out; have hms38_0 := NB722_715.out; have hms38_1 := NB722_716.out; have hms38_2 := NB722_717.out
  refine skip_ (w1 := ?_) (by rfl) rfl ?_ ?_
  rotate_left
  · go_simp
    rfl
  refine hK.out _ _ ⟨((cell_far (p := ⟨gb722, _, none⟩) NB715_722.out _).trans (((cell_far (p := ⟨gb722, _, none⟩) NB715_722.out _).trans (hHeld.1)))), ((cell_far (p := ⟨gb722, _, none⟩) NB715_722.out _).trans (((cell_far (p := ⟨gb722, _, none⟩) NB715_722.out _).trans (hHeld.2.1)))), ((cell_far (p := ⟨gb722, _, none⟩) NB716_722.out _).trans (((cell_far (p := ⟨gb722, _, none⟩) NB716_722.out _).trans (hHeld.2.2.1)))), ((cell_far (p := ⟨gb722, _, none⟩) NB716_722.out _).trans (((cell_far (p := ⟨gb722, _, none⟩) NB716_722.out _).trans (hHeld.2.2.2))))⟩ (fun hHeld => ?_)
  clear hK K
  refine done_ (by kernel_rfl) ?_
  have hnb39 := NB722_715.out; have hnc39 := NB715_722.out; have hnb40 := NB722_716.out; have hnc40 := NB716_722.out; have hnb41 := NB722_717.out; have hnc41 := NB717_722.out
  have hcz42_0 : w36.cell? ⟨gb722, 0, none⟩ = some (.int .i64 0) := kc BK722 0
  have hcz42_1 : w36.cell? ⟨gb722, 1, none⟩ = some (.int .u64 0) := kc BK722 1
  have hfz42_0 := blk_frozen BK722.out 0
  have hfz42_1 := blk_frozen BK722.out 1
  have hnb43 := NB715_716.out; have hnc43 := NB716_715.out; have hnb44 := NB715_717.out; have hnc44 := NB717_715.out
  have hcz45_0 : w36.cell? ⟨gb715, 0, none⟩ = some (.int .i64 a0_0) := kc BK715 0
  have hcz45_1 : w36.cell? ⟨gb715, 1, none⟩ = some (.int .u64 a0_1) := kc BK715 1
  have hfz45_0 := blk_frozen BK715.out 0
  have hfz45_1 := blk_frozen BK715.out 1
  have hnb46 := NB716_717.out; have hnc46 := NB717_716.out
  have hcz47_0 : w36.cell? ⟨gb716, 0, none⟩ = some (.int .i64 a1_0) := kc BK716 0
  have hcz47_1 : w36.cell? ⟨gb716, 1, none⟩ = some (.int .u64 a1_1) := kc BK716 1
  have hfz47_0 := blk_frozen BK716.out 0
  have hfz47_1 := blk_frozen BK716.out 1
  try go_wp2_with (first | ((with_reducible refine gate_callee (f := 59) rfl ?_); refine goesL_ (some 28) rfl rfl Try.func59 (by kernel_rfl) rfl #[.agg #[.int .i64 t720, .int .u64 t721], .bool ((decide (a0_0 < 0)) == (decide (t720 < 0)))] rfl (by (try simp only [List.map_toArray, List.map_cons, List.map_nil]); first | done | rfl | (simp only [List.length_drop, List.length_take]; rfl)) ?_; (with_reducible refine (wide_told.calls t720 t721 ((decide (a0_0 < 0)) == (decide (t720 < 0))) t726 t727 t728 _ A28.out).mono ?_); rintro e w48 ⟨rfl, hb⟩; refine ⟨_, rfl, ?_⟩; have n0_ := kb BK715 hb; have n1_ := kb BK716 hb; have n2_ := kb BK717 hb; have n3_ := Aside0.mk (blk_below (g := gb722) (o := .cells #[.int .i64 t720, .int .u64 t721] 24 (0, 0)) (by (with_reducible repeat (first | refine blk_drewN ?_ _ | refine blk_drew ?_ | refine blk_alloc ?_ _)); refine blk_put (cs := #[.int .i64 t720, .int .u64 0]) ?_ 1 _ rfl; (with_reducible repeat (first | refine blk_drewN ?_ _ | refine blk_drew ?_ | refine blk_alloc ?_ _)); refine blk_put (cs := #[.int .i64 0, .int .u64 0]) ?_ 0 _ rfl; (with_reducible repeat (first | refine blk_drewN ?_ _ | refine blk_drew ?_ | refine blk_alloc ?_ _)); exact BK722.out) hb); have n4_ := kB HB hb; clear BK715; clear BK716; clear BK717; clear BK722; clear HB; have BK715 := n0_; have BK716 := n1_; have BK717 := n2_; have BK722 := n3_; have HB := n4_; clear n0_ n1_ n2_ n3_ n4_; (try clear hb); (try clear hb2); (try clear hk); (try clear hi); have hcz49_0 : w48.cell? ⟨gb717, 0, none⟩ = some (.int .i64 0) := kc BK717 0; have hcz49_1 : w48.cell? ⟨gb717, 1, none⟩ = some (.int .u64 0) := kc BK717 1; have hfz49_0 := blk_frozen BK717.out 0; have hfz49_1 := blk_frozen BK717.out 1))
  refine bodyPost_ret (results_ct rfl _ _ gb717 24 #[.int .i64 t726, .int .u64 t727] (0, 0) _ rfl (by (with_reducible repeat (first | refine blk_drewN ?_ _ | refine blk_drew ?_ | refine blk_alloc ?_ _)); refine blk_put (cs := #[.int .i64 t726, .int .u64 0]) ?_ 1 _ rfl; (with_reducible repeat (first | refine blk_drewN ?_ _ | refine blk_drew ?_ | refine blk_alloc ?_ _)); refine blk_put (cs := #[.int .i64 0, .int .u64 0]) ?_ 0 _ rfl; (with_reducible repeat (first | refine blk_drewN ?_ _ | refine blk_drew ?_ | refine blk_alloc ?_ _)); exact BK717.out) Try.underlying24 rfl (by kernel_rfl)) rfl ?_
  exact ⟨by first | rfl | (simp [errW_none, errW_some] <;> rfl) | (simp [*, errW_none, errW_some] <;> rfl), ky HB⟩

end Go.Proofs.Ytpjbniihdndlmaa.Q
