-- Printed by wip/pp.sh (a session's own turning of the kit's print) for this seat.
import Derived.Test.YtpjbniihdndlmabQx0
import Derived.Test.YtpjbniihdndlmabQx11
import Derived.Test.YtpjbniihdndlmabQx12
namespace Go.Proofs.Ytpjbniihdndlmab.Q
open Go.RowKit Go.Proofs.YtpjbniihdndlmabW.PrintWords Go.Proofs.YtpjbniihdndlmabW.PrintLast Go.Proofs.YtpjbniihdndlmabW.PrintMore
open Go.Proofs.Ytpjbniihdndlmab.H
attribute [local go_sem] hq_add64 hq_sub64 hq_not64 add64c_nn sub64c_nn sub64c_le
attribute [local go_sem] max2_int min2_int max_two min_two max_three min_three max_four min_four   -- for this text's walks alone
set_option linter.unusedVariables false
set_option linter.unusedSimpArgs false

/-! ### cobwebref01_Unsigned: function 76 -/
def cobwebref01_Unsigned.l0 : Nat → Int → Bool → List Int → Option (Bool × List Int)
 | 0, _, _, _ => none
 | k + 1, x0, x460000, x460001 => if x0 = 0 then (some (x460000, x460001)) else (if x460001.length < 17592186044416 then (cobwebref01_Unsigned.l0 k (IntKind.u64.wrap (Int.tdiv x0 10000)) x460000 (x460001 ++ [wrap64 (Int.tmod x0 10000)])) else (none))
def cobwebref01_Unsigned.f (k : Nat) (a0 : Int) : Option (Bool × List Int) := cobwebref01_Unsigned.l0 k a0 false ([] : List Int)
theorem cobwebref01_Unsigned.mono_l : ∀ k, (∀ y0 y1 y2, LeO (cobwebref01_Unsigned.l0 k y0 y1 y2) (cobwebref01_Unsigned.l0 (k + 1) y0 y1 y2))
 | 0 => fun _ _ _ r h => by simp [cobwebref01_Unsigned.l0] at h
 | k + 1 => by
  have ih0 := cobwebref01_Unsigned.mono_l k
  ·intro y0 y1 y2
   unfold cobwebref01_Unsigned.l0
   repeat' first
   | (with_reducible exact ih0 _ _ _)
   | (with_reducible exact LeO.refl _)
   | (with_reducible exact LeO.none _)
   | (with_reducible refine LeO.ite ?_ ?_)
   | (with_reducible refine LeO.bind ?_ (fun _ => ?_))
   | exact ih0 _ _ _
   | exact LeO.none _
   | refine LeO.ite ?_ ?_
   | refine LeO.bind ?_ (fun _ => ?_)
theorem cobwebref01_Unsigned.mono : ∀ a0 k, LeO (cobwebref01_Unsigned.f k a0) (cobwebref01_Unsigned.f (k + 1) a0) := by
 intro a0 k; have ih0 := cobwebref01_Unsigned.mono_l k
 unfold cobwebref01_Unsigned.f
 repeat' first
   | (with_reducible exact ih0 _ _ _)
   | (with_reducible exact LeO.refl _)
   | (with_reducible exact LeO.none _)
   | (with_reducible refine LeO.ite ?_ ?_)
   | (with_reducible refine LeO.bind ?_ (fun _ => ?_))
   | exact ih0 _ _ _
   | exact LeO.none _
   | refine LeO.ite ?_ ?_
   | refine LeO.bind ?_ (fun _ => ?_)
set_option maxHeartbeats 8000000 in
set_option maxRecDepth 100000 in
theorem cobwebref01_Unsigned.calls (k : Nat) (a0 : Int) (r1 : Bool) (r2 : List Int) (w : World) (h : cobwebref01_Unsigned.f k a0 = some (r1, r2)) :
  Calls Try.prog 76 #[.int .u64 a0] w fun e w' => ∃ v1_ : Value, e = .returned (.agg #[.bool r1, v1_]) ∧ Kd.R (Kd.int .i64) 3 w' w.heap.size (fun _ => True) v1_ r2 ∧ Below w.heap.size w w' := by
 have hu33 := Try.underlying33; have HB := Aside0.mk (Below.refl w.heap.size w); have H : (cobwebref01_Unsigned.l0 k a0 false ([] : List Int)) = some (r1, r2) := h; clear h; have H' := Aside0.mk H; clear H
 go_enter Try.func76, Try.ntmps76
 go_wp2_with (first | ((with_reducible refine gate_dst (N := 2) rfl ?_); refine box_event ?hg (N := 2) ?hd (cs := #[.bool false, .slice none 0 0]) (t := 33) ?hr ?_; (case hd => rfl); (case hg => rfl); (case hr => first | (go_simp; done) | (go_simp; rfl)); intro gb458 hg w2 hbox hb; have BK458 := Aside0.mk (hbox); have GW458 := kS HB hg; have GE458 := kS HB hg; replace HB := kB HB hb; clear hb hbox hg) | ((with_reducible refine gate_dst (N := 3) rfl ?_); refine box_event ?hg (N := 3) ?hd (cs := #[.bool false, .slice none 0 0]) (t := 33) ?hr ?_; (case hd => rfl); (case hg => rfl); (case hr => first | (go_simp; done) | (go_simp; rfl)); intro gb459 hg w3 hbox hb; have BK459 := Aside0.mk (hbox); have GW459 := kS HB hg; have GE459 := kS HB hg; have NB458_459 := kN BK458 hg; have NB459_458 := kM BK458 hg; replace BK458 := kb BK458 hb; replace HB := kB HB hb; clear hb hbox hg))
 (try simp only [Act.put, s1, s2, s3])
 go_loopg [0] k (fun kq v0 w' => ∃ (x0_1 : Int) (x460001_1 : List Int) (u460001 : Value), v0 = .int .u64 x0_1 ∧ Aside0 (cobwebref01_Unsigned.l0 kq x0_1 false x460001_1 = some (r1, r2)) ∧ Aside0 (kq ≤ k) ∧ Aside0 (Kd.R (Kd.int .i64) 3 w' w.heap.size (fun _ => True) u460001 x460001_1) ∧ Aside0 (w'.heap[gb458]? = some (.cells #[.bool false, (.slice none 0 0)] 33 (0, 0))) ∧ Aside0 (w'.heap[gb459]? = some (.cells #[.bool false, u460001] 33 (0, 0))) ∧ Aside0 (Below w.heap.size w w'))
 case atStart => exact ⟨(a0), (([] : List Int)), (.slice none 0 0), (by first | rfl | (simp; done) | (simp [*]; done)), H', ⟨Nat.le_refl _⟩, ⟨by first | exact Kd.R_nil _ _ _ _ _ | exact Kd.N_nil _ _ _ _ _ | exact Kd.V_nil _ _ _ _ _ | exact Kd.Q_nil _ _ _ _ _ | exact Kd.S_nil _ _ _ _ _⟩, ⟨kx BK458⟩, ⟨kx BK459⟩, ⟨ky HB⟩⟩
 case round =>
  clear H'
  try clear p2
  obtain ⟨x0_1, x460001_1, u460001, rfl, HA, HK1, HO_460001, BK458, BK459, HB⟩ := hrel
  cases gk with
  | zero => exact absurd HA.out (by simp [cobwebref01_Unsigned.l0])
  | succ k1 =>
   have H := HA.out; clear HA
   simp only [cobwebref01_Unsigned.l0] at H
   by_cases c4 : x0_1 = 0
   ·rw [if_pos c4] at H
    have c4b0 : (x0_1 == 0) = true := beq_iff_eq.mpr c4; have c4b1 : (x0_1 != 0) = false := bne_eq_false_iff_eq.mpr c4; clear c4
    simp only [Option.some.injEq, Prod.mk.injEq] at H
    obtain ⟨rfl, rfl⟩ := H; have hnb5 := NB459_458.out; have hnc5 := NB458_459.out; obtain ⟨hcz6_0, hcz6_1⟩ := kc2 BK459; obtain ⟨hfz6_0, hfz6_1⟩ := kf2 BK459; obtain ⟨hcz7_0, hcz7_1⟩ := kc2 BK458; obtain ⟨hfz7_0, hfz7_1⟩ := kf2 BK458; obtain ⟨Ao8, co8, eo8⟩ := Kd.R_slice HO_460001.out; subst eo8
    go_wp2
    refine bodyPost_ret (results_cell_row rfl _ _ gb458 33 #[.bool false, .slice Ao8 x460001_1.length co8] (0, 0) _ rfl (by (with_reducible repeat (first | refine zr ?_ _ | refine zw ?_ | refine za ?_ _)); refine blk_put (cs := #[.bool false, .slice none 0 0]) ?_ 1 _ rfl; (with_reducible repeat (first | refine zr ?_ _ | refine zw ?_ | refine za ?_ _)); refine blk_put (cs := #[.bool false, .slice none 0 0]) ?_ 0 _ rfl; (with_reducible repeat (first | refine zr ?_ _ | refine zw ?_ | refine za ?_ _)); exact BK458.out) Try.underlying33 rfl (by kernel_rfl)) rfl ?_; exact ⟨_, by first | rfl | (simp [errW_none, errW_some] <;> rfl) | (simp [*, errW_none, errW_some] <;> rfl), by (with_reducible repeat (first | apply Kd.R_alloc | apply Kd.R_drewN | apply Kd.R_drew)); exact Kd.R_mono (Kd.R_far (p := ⟨gb458, 1, none⟩) (Kd.R_far (p := ⟨gb458, 0, none⟩) (Kd.R_types HO_460001.out BK458.out (by decide)) (fun _ hk => hk.2) (.bool false)) (fun _ hk => hk.2) (.slice Ao8 x460001_1.length co8)) (fun _ hk => trivial), ky HB⟩
   rw [if_neg c4] at H
   have c4b0 : (x0_1 == 0) = false := beq_eq_false_iff_ne.mpr c4; have c4b1 : (x0_1 != 0) = true := bne_iff_ne.mpr c4
   by_cases c9 : x460001_1.length < 17592186044416
   rotate_left
   ·rw [if_neg c9] at H
    exact absurd H (by simp)

   rw [if_pos c9] at H
   have LMc9 := Aside0.mk c9; clear c9; obtain ⟨y460, hy460⟩ : ∃ y_ : List Int, y_ = (x460001_1 ++ [wrap64 (Int.tmod x0_1 10000)]) := ⟨_, rfl⟩
   replace H : (cobwebref01_Unsigned.l0 k1 (IntKind.u64.wrap (Int.tdiv x0_1 10000)) false y460) = some (r1, r2) := by first | (rw [hy460]; with_reducible exact H) | (have H2_ := (Option.bind_some _ _).symm.trans H; rw [hy460]; with_reducible exact H2_) | (have H2_ := (Option.bind_some _ _).symm.trans H; with_reducible exact H2_) | with_reducible exact H | (rw [hy460]; exact H) | exact H
   have Ny460 := Aside0.mk hy460; clear hy460; have H' := Aside0.mk H; clear H; have hnb10 := NB459_458.out; have hnc10 := NB458_459.out; obtain ⟨hcz11_0, hcz11_1⟩ := kc2 BK459; obtain ⟨hfz11_0, hfz11_1⟩ := kf2 BK459
   go_wp2_with (first | ((with_reducible refine gate_builtin (b := .append) (xs := #[.tmp 7, .tmp 11]) rfl ?_); at_builtin; refine Kd.R_append (Kd.int .i64) (w0 := w) w.heap.size rfl (.tmp 7) (.tmp 11) 31 3 (.int .i64 0) 8 rfl Try.underlying31 info3 rfl (by decide) (by omega) u460001 x460001_1 (wrap64 (Int.tmod x0_1 10000)) [.int .i64 (wrap64 (Int.tmod x0_1 10000))] (fun _ => True) (fun _ => False) rfl rfl ?aP (fun _ hk => hk.elim) ?aF ?aO ?aB ?aS ?aL ?_; (case aP => exact rfl); (case aB => exact (ky HB)); (case aF => exact (fun _ _ => trivial)); (case aO => exact (kr HO_460001)); (case aS => exact (ko HB)); (case aL => have := LMc9.out; omega); intro v461 w12 ho hb hg hat; rw [← Ny460.out] at ho; have n0_ := Aside0.mk (blk_grown (g := gb458) (o := .cells #[.bool false, .slice none 0 0] 33 (0, 0)) (kx BK458) hg (Kd.R_ne HO_460001.out BK458.out (by decide))); have n1_ := Aside0.mk (blk_grown (g := gb459) (o := .cells #[.bool false, u460001] 33 (0, 0)) (kx BK459) hg (Kd.R_ne HO_460001.out BK459.out (by decide))); have n2_ := Aside0.mk (hb); have n3_ := Aside0.mk (ho); clear BK458; clear BK459; clear HB; clear HO_460001; have BK458 := n0_; have BK459 := n1_; have HB := n2_; have HO462 := n3_; clear n0_ n1_ n2_ n3_; clear ho hb hg hat; obtain ⟨Ao13, co13, eo13⟩ := Kd.R_slice HO462.out; subst eo13; have hcz14_0 : w12.cell? ⟨gb459, 0, none⟩ = some (.bool false) := kc BK459 0; have hcz14_1 : w12.cell? ⟨gb459, 1, none⟩ = some (u460001) := kc BK459 1; have hfz14_0 := blk_frozen BK459.out 0; have hfz14_1 := blk_frozen BK459.out 1))
   go_roundg k1
   case measure => have := HK1.out; omega
   case rel => exact ⟨(IntKind.u64.wrap (Int.tdiv x0_1 10000)), (y460), (.slice Ao13 y460.length co13), (by first | rfl | (simp; done) | (simp [*]; done)), H', ⟨by have := HK1.out; omega⟩, ⟨by (with_reducible repeat (first | apply Kd.R_alloc | apply Kd.R_drewN | apply Kd.R_drew)); exact Kd.R_mono (Kd.R_far (p := ⟨gb459, 1, none⟩) (Kd.R_types HO462.out BK459.out (by decide)) (fun _ hk => hk.2) (.slice Ao13 y460.length co13)) (fun _ hk => trivial)⟩, ⟨kx BK458⟩, ⟨by (with_reducible repeat (first | refine zr ?_ _ | refine zw ?_ | refine za ?_ _)); refine blk_put (cs := #[.bool false, u460001]) ?_ 1 _ rfl; (with_reducible repeat (first | refine zr ?_ _ | refine zw ?_ | refine za ?_ _)); exact BK459.out⟩, ⟨ky HB⟩⟩
/-! ### cobwebref01_Wide: function 53 -/
def cobwebref01_Wide.f (k : Nat) (a0 : Int) (a1 : Int) : Option (Bool × List Int) := (cobwebref01_Of.f k a0).bind fun bt464 => ((cobwebref01_Power.f k 64).bind fun bt468 => ((cobwebref01_Mul.f k bt464.1 bt464.2 bt468.1 bt468.2).bind fun bt472 => ((cobwebref01_Unsigned.f k a1).bind fun bt476 => ((cobwebref01_Add.f k bt472.1 bt472.2 bt476.1 bt476.2).bind fun bt480 => (some (bt480.1, bt480.2))))))
theorem cobwebref01_Wide.mono : ∀ a0 a1 k, LeO (cobwebref01_Wide.f k a0 a1) (cobwebref01_Wide.f (k + 1) a0 a1) := by
 intro a0 a1 k
 unfold cobwebref01_Wide.f
 repeat' first
   | (with_reducible exact cobwebref01_Add.mono _ _ _ _ _)
   | (with_reducible exact cobwebref01_Mul.mono _ _ _ _ _)
   | (with_reducible exact cobwebref01_Of.mono _ _)
   | (with_reducible exact cobwebref01_Power.mono _ _)
   | (with_reducible exact cobwebref01_Unsigned.mono _ _)
   | (with_reducible exact LeO.refl _)
   | (with_reducible exact LeO.none _)
   | (with_reducible refine LeO.ite ?_ ?_)
   | (with_reducible refine LeO.bind ?_ (fun _ => ?_))
   | exact cobwebref01_Add.mono _ _ _ _ _
   | exact cobwebref01_Mul.mono _ _ _ _ _
   | exact cobwebref01_Of.mono _ _
   | exact cobwebref01_Power.mono _ _
   | exact cobwebref01_Unsigned.mono _ _
   | exact LeO.none _
   | refine LeO.ite ?_ ?_
   | refine LeO.bind ?_ (fun _ => ?_)
set_option maxHeartbeats 8000000 in
set_option maxRecDepth 100000 in
theorem cobwebref01_Wide.calls (k : Nat) (a0 : Int) (a1 : Int) (r1 : Bool) (r2 : List Int) (w : World) (h : cobwebref01_Wide.f k a0 a1 = some (r1, r2)) :
  Calls Try.prog 53 #[.int .i64 a0, .int .u64 a1] w fun e w' => ∃ v1_ : Value, e = .returned (.agg #[.bool r1, v1_]) ∧ Kd.V (Kd.int .i64) 3 w' w.heap.size (fun k_ => (w.heap.size ≤ k_)) v1_ r2 ∧ Below w.heap.size w w' := by
 have hu33 := Try.underlying33; have HB := Aside0.mk (Below.refl w.heap.size w); have H : ((cobwebref01_Of.f k a0).bind fun bt464 => ((cobwebref01_Power.f k 64).bind fun bt468 => ((cobwebref01_Mul.f k bt464.1 bt464.2 bt468.1 bt468.2).bind fun bt472 => ((cobwebref01_Unsigned.f k a1).bind fun bt476 => ((cobwebref01_Add.f k bt472.1 bt472.2 bt476.1 bt476.2).bind fun bt480 => (some (bt480.1, bt480.2))))))) = some (r1, r2) := h; clear h; replace H := Option.bind_eq_some_iff.mp H; obtain ⟨⟨t464, t465⟩, A30, H⟩ := H; (try dsimp only at H); have A3 := Aside0.mk A30; clear A30; replace H := Option.bind_eq_some_iff.mp H; obtain ⟨⟨t468, t469⟩, A40, H⟩ := H; (try dsimp only at H); have A4 := Aside0.mk A40; clear A40; replace H := Option.bind_eq_some_iff.mp H; obtain ⟨⟨t472, t473⟩, A50, H⟩ := H; (try dsimp only at H); have A5 := Aside0.mk A50; clear A50; replace H := Option.bind_eq_some_iff.mp H; obtain ⟨⟨t476, t477⟩, A60, H⟩ := H; (try dsimp only at H); have A6 := Aside0.mk A60; clear A60; replace H := Option.bind_eq_some_iff.mp H; obtain ⟨⟨t480, t481⟩, A70, H⟩ := H; (try dsimp only at H); have A7 := Aside0.mk A70; clear A70
 simp only [Option.some.injEq, Prod.mk.injEq] at H
 obtain ⟨rfl, rfl⟩ := H
 go_enter Try.func53, Try.ntmps53
 go_wp2_with (first | ((with_reducible refine gate_dst (N := 4) rfl ?_); refine box_event ?hg (N := 4) ?hd (cs := #[.bool false, .slice none 0 0]) (t := 33) ?hr ?_; (case hd => rfl); (case hg => rfl); (case hr => first | (go_simp; done) | (go_simp; rfl)); intro gb463 hg w8 hbox hb; have BK463 := Aside0.mk (hbox); have GW463 := kS HB hg; have GE463 := kS HB hg; replace HB := kB HB hb; clear hb hbox hg) | ((with_reducible refine gate_callee (f := 33) rfl ?_); refine gL 6 Try.func33 #[.int .i64 a0] ?_; (with_reducible refine (cobwebref01_Of.calls k a0 t464 t465 _ A3.out).mono ?_); rintro e w9 ⟨v466, rfl, ho0, hb⟩; refine ⟨_, rfl, ?_⟩; have HO467 := Aside0.mk (Kd.R_lower (Kd.R_newM (M := fun k_ => (w.heap.size ≤ k_)) ho0 (ko HB) (fun k_ h_ => h_)) (ko HB)); replace BK463 := kb BK463 hb; replace HB := kB HB hb; (try clear hb); (try clear hb2); (try clear hk); (try clear hi); (try clear ho0)) | ((with_reducible refine gate_callee (f := 59) rfl ?_); refine gL 7 Try.func59 #[.int .i64 64] ?_; (with_reducible refine (cobwebref01_Power.calls k 64 t468 t469 _ A4.out).mono ?_); rintro e w10 ⟨v470, rfl, ho0, hb⟩; refine ⟨_, rfl, ?_⟩; have HO471 := Aside0.mk (Kd.V_lower (Kd.V_mono (ok' := fun k_ => (w.heap.size ≤ k_) ∧ some k_ ≠ (v466 : Value).ownBlock ∧ k_ ≠ gb463) ho0 (fun k_ hk_ => ⟨(Nat.le_trans (ko HB) hk_), (Kd.fresh' (Kd.R_lt (kr HO467)) k_ hk_), (kF BK463 k_ hk_)⟩)) (ko HB)); replace HO467 := kR HO467 hb; replace BK463 := kb BK463 hb; replace HB := kB HB hb; (try clear hb); (try clear hb2); (try clear hk); (try clear hi); (try clear ho0); obtain ⟨Ao11, co11, eo11⟩ := Kd.R_slice HO467.out; subst eo11; obtain ⟨Ao12, co12, eo12⟩ := Kd.V_slice HO471.out; subst eo12) | ((with_reducible refine gate_callee (f := 51) rfl ?_); refine gL 8 Try.func51 #[.agg #[.bool t464, .slice Ao11 t465.length co11], .agg #[.bool t468, .slice Ao12 t469.length co12]] ?_; (with_reducible refine (cobwebref01_Mul.calls k t464 _ _ t465 t468 _ _ t469 t472 t473 _ ?side1 ?side2 ?side3 ?side4 A5.out).mono ?_); (case side1 => exact kQ ((Kd.R_reads' HO467.out).2.2)); (case side2 => exact (Kd.R_reads' HO467.out).2.1); (case side3 => exact kQ ((Kd.V_reads' HO471.out).2.2)); (case side4 => exact (Kd.V_reads' HO471.out).2.1); rintro e w13 ⟨v474, rfl, ho0, hb⟩; refine ⟨_, rfl, ?_⟩; have HO475 := Aside0.mk (Kd.V_lower (Kd.V_mono (ok' := fun k_ => (w.heap.size ≤ k_) ∧ some k_ ≠ (.slice Ao11 t465.length co11 : Value).ownBlock ∧ k_ ≠ gb463) ho0 (fun k_ hk_ => ⟨(Nat.le_trans (ko HB) hk_), (Kd.fresh' (Kd.R_lt (kr HO467)) k_ hk_), (kF BK463 k_ hk_)⟩)) (ko HB)); replace HO467 := kR HO467 hb; replace HO471 := kV HO471 hb; replace BK463 := kb BK463 hb; replace HB := kB HB hb; (try clear hb); (try clear hb2); (try clear hk); (try clear hi); (try clear ho0)) | ((with_reducible refine gate_callee (f := 76) rfl ?_); refine gL 10 Try.func76 #[.int .u64 a1] ?_; (with_reducible refine (cobwebref01_Unsigned.calls k a1 t476 t477 _ A6.out).mono ?_); rintro e w14 ⟨v478, rfl, ho0, hb⟩; refine ⟨_, rfl, ?_⟩; have n0_ := Aside0.mk (Kd.R_elder' (kr HO467) (Kd.R_base ho0) hb); have n1_ := Aside0.mk (Kd.V_elder' (kv HO471) (Kd.R_base ho0) hb); have n2_ := Aside0.mk (Kd.V_elder' (kv HO475) (Kd.R_base ho0) hb); have n3_ := Aside0.mk (Kd.R_lower (Kd.R_new' (Kd.R_newM (M := fun k_ => (w.heap.size ≤ k_)) ho0 (ko HB) (fun k_ h_ => h_)) (Kd.R_lt (kr HO467))) (ko HB)); have n4_ := kb BK463 hb; have n5_ := kB HB hb; clear HO467; clear HO471; clear HO475; clear BK463; clear HB; have HO467 := n0_; have HO471 := n1_; have HO475 := n2_; have HO479 := n3_; have BK463 := n4_; have HB := n5_; clear n0_ n1_ n2_ n3_ n4_ n5_; (try clear hb); (try clear hb2); (try clear hk); (try clear hi); (try clear ho0); obtain ⟨Ao15, co15, eo15⟩ := Kd.V_slice HO475.out; subst eo15; obtain ⟨Ao16, co16, eo16⟩ := Kd.R_slice HO479.out; subst eo16) | ((with_reducible refine gate_callee (f := 58) rfl ?_); refine gL 11 Try.func58 #[.agg #[.bool t472, .slice Ao15 t473.length co15], .agg #[.bool t476, .slice Ao16 t477.length co16]] ?_; (with_reducible refine (cobwebref01_Add.calls k t472 _ _ t473 t476 _ _ t477 t480 t481 _ ?side1 ?side2 ?side3 ?side4 A7.out).mono ?_); (case side1 => exact kQ ((Kd.V_reads' HO475.out).2.2)); (case side2 => exact (Kd.V_reads' HO475.out).2.1); (case side3 => exact kQ ((Kd.R_reads' HO479.out).2.2)); (case side4 => exact (Kd.R_reads' HO479.out).2.1); rintro e w17 ⟨v482, rfl, ho0, hb⟩; refine ⟨_, rfl, ?_⟩; have HO483 := Aside0.mk (Kd.V_lower (Kd.V_mono (ok' := fun k_ => (w.heap.size ≤ k_) ∧ some k_ ≠ (.slice Ao11 t465.length co11 : Value).ownBlock ∧ some k_ ≠ (.slice Ao16 t477.length co16 : Value).ownBlock ∧ k_ ≠ gb463) ho0 (fun k_ hk_ => ⟨(Nat.le_trans (ko HB) hk_), (Kd.fresh' (Kd.R_lt (kr HO467)) k_ hk_), (Kd.fresh' (Kd.R_lt (kr HO479)) k_ hk_), (kF BK463 k_ hk_)⟩)) (ko HB)); replace HO467 := kR HO467 hb; replace HO471 := kV HO471 hb; replace HO475 := kV HO475 hb; replace HO479 := kR HO479 hb; replace BK463 := kb BK463 hb; replace HB := kB HB hb; (try clear hb); (try clear hb2); (try clear hk); (try clear hi); (try clear ho0); have hcz18_0 : w17.cell? ⟨gb463, 0, none⟩ = some (.bool false) := kc BK463 0; have hcz18_1 : w17.cell? ⟨gb463, 1, none⟩ = some (.slice none 0 0) := kc BK463 1; have hfz18_0 := blk_frozen BK463.out 0; have hfz18_1 := blk_frozen BK463.out 1; obtain ⟨Ao19, co19, eo19⟩ := Kd.V_slice HO483.out; subst eo19))
 refine bodyPost_ret (results_cell_row rfl _ _ gb463 33 #[.bool t480, .slice Ao19 t481.length co19] (0, 0) _ rfl (by (with_reducible repeat (first | refine zr ?_ _ | refine zw ?_ | refine za ?_ _)); refine blk_put (cs := #[.bool t480, .slice none 0 0]) ?_ 1 _ rfl; (with_reducible repeat (first | refine zr ?_ _ | refine zw ?_ | refine za ?_ _)); refine blk_put (cs := #[.bool false, .slice none 0 0]) ?_ 0 _ rfl; (with_reducible repeat (first | refine zr ?_ _ | refine zw ?_ | refine za ?_ _)); exact BK463.out) Try.underlying33 rfl (by kernel_rfl)) rfl ?_; exact ⟨_, by first | rfl | (simp [errW_none, errW_some] <;> rfl) | (simp [*, errW_none, errW_some] <;> rfl), by (with_reducible repeat (first | apply Kd.V_alloc | apply Kd.V_drewN | apply Kd.V_drew)); exact Kd.V_mono (Kd.V_far (p := ⟨gb463, 1, none⟩) (Kd.V_far (p := ⟨gb463, 0, none⟩) (Kd.V_mono HO483.out (fun k_ hk => (⟨hk, hk.2.2.2⟩ : _ ∧ k_ ≠ gb463))) (fun _ hk => hk.2) (.bool t480)) (fun _ hk => hk.2) (.slice Ao19 t481.length co19)) (fun _ hk => hk.1.1), ky HB⟩

/-! ### cobweblaw02_num: function 22 -/
def cobweblaw02_num.f (k : Nat) (a0_0 : Int) (a0_1 : Int) : Option (Bool × List Int) := (cobwebref01_Wide.f k a0_0 a0_1).bind fun bt486 => (some (bt486.1, bt486.2))
theorem cobweblaw02_num.mono : ∀ a0 a1 k, LeO (cobweblaw02_num.f k a0 a1) (cobweblaw02_num.f (k + 1) a0 a1) := by
 intro a0 a1 k
 unfold cobweblaw02_num.f
 repeat' first
   | (with_reducible exact cobwebref01_Wide.mono _ _ _)
   | (with_reducible exact LeO.refl _)
   | (with_reducible exact LeO.none _)
   | (with_reducible refine LeO.ite ?_ ?_)
   | (with_reducible refine LeO.bind ?_ (fun _ => ?_))
   | exact cobwebref01_Wide.mono _ _ _
   | exact LeO.none _
   | refine LeO.ite ?_ ?_
   | refine LeO.bind ?_ (fun _ => ?_)
set_option maxHeartbeats 8000000 in
set_option maxRecDepth 100000 in
theorem cobweblaw02_num.calls (k : Nat) (a0_0 : Int) (a0_1 : Int) (r1 : Bool) (r2 : List Int) (w : World) (h : cobweblaw02_num.f k a0_0 a0_1 = some (r1, r2)) :
  Calls Try.prog 22 #[.agg #[.int .i64 a0_0, .int .u64 a0_1]] w fun e w' => ∃ v1_ : Value, e = .returned (.agg #[.bool r1, v1_]) ∧ Kd.V (Kd.int .i64) 3 w' w.heap.size (fun k_ => (w.heap.size ≤ k_)) v1_ r2 ∧ Below w.heap.size w w' := by
 have hu24 := Try.underlying24; have hu33 := Try.underlying33; have HB := Aside0.mk (Below.refl w.heap.size w); have H : ((cobwebref01_Wide.f k a0_0 a0_1).bind fun bt486 => (some (bt486.1, bt486.2))) = some (r1, r2) := h; clear h; replace H := Option.bind_eq_some_iff.mp H; obtain ⟨⟨t486, t487⟩, A20, H⟩ := H; (try dsimp only at H); have A2 := Aside0.mk A20; clear A20
 simp only [Option.some.injEq, Prod.mk.injEq] at H
 obtain ⟨rfl, rfl⟩ := H
 go_enter Try.func22, Try.ntmps22
 go_wp2_with (first | ((with_reducible refine gate_dst (N := 1) rfl ?_); refine box_event ?hg (N := 1) ?hd (cs := #[.int .i64 a0_0, .int .u64 a0_1]) (t := 24) ?hr ?_; (case hd => rfl); (case hg => rfl); (case hr => first | (go_simp; done) | (go_simp; rfl)); intro gb484 hg w3 hbox hb; have BK484 := Aside0.mk (hbox); have GW484 := kS HB hg; have GE484 := kS HB hg; replace HB := kB HB hb; clear hb hbox hg) | ((with_reducible refine gate_dst (N := 2) rfl ?_); refine box_event ?hg (N := 2) ?hd (cs := #[.bool false, .slice none 0 0]) (t := 33) ?hr ?_; (case hd => rfl); (case hg => rfl); (case hr => first | (go_simp; done) | (go_simp; rfl)); intro gb485 hg w4 hbox hb; have BK485 := Aside0.mk (hbox); have GW485 := kS HB hg; have GE485 := kS HB hg; have NB484_485 := kN BK484 hg; have NB485_484 := kM BK484 hg; replace BK484 := kb BK484 hb; replace HB := kB HB hb; clear hb hbox hg; have hnb5 := NB484_485.out; have hnc5 := NB485_484.out; have hcz6_0 : w4.cell? ⟨gb484, 0, none⟩ = some (.int .i64 a0_0) := kc BK484 0; have hcz6_1 : w4.cell? ⟨gb484, 1, none⟩ = some (.int .u64 a0_1) := kc BK484 1; have hfz6_0 := blk_frozen BK484.out 0; have hfz6_1 := blk_frozen BK484.out 1) | ((with_reducible refine gate_callee (f := 53) rfl ?_); refine gL 7 Try.func53 #[.int .i64 a0_0, .int .u64 a0_1] ?_; (with_reducible refine (cobwebref01_Wide.calls k a0_0 a0_1 t486 t487 _ A2.out).mono ?_); rintro e w7 ⟨v488, rfl, ho0, hb⟩; refine ⟨_, rfl, ?_⟩; have HO489 := Aside0.mk (Kd.V_lower (Kd.V_mono (ok' := fun k_ => (w.heap.size ≤ k_) ∧ k_ ≠ gb484 ∧ k_ ≠ gb485) ho0 (fun k_ hk_ => ⟨(Nat.le_trans (ko HB) hk_), (kF BK484 k_ hk_), (kF BK485 k_ hk_)⟩)) (ko HB)); replace BK484 := kb BK484 hb; replace BK485 := kb BK485 hb; replace HB := kB HB hb; (try clear hb); (try clear hb2); (try clear hk); (try clear hi); (try clear ho0); have hcz8_0 : w7.cell? ⟨gb485, 0, none⟩ = some (.bool false) := kc BK485 0; have hcz8_1 : w7.cell? ⟨gb485, 1, none⟩ = some (.slice none 0 0) := kc BK485 1; have hfz8_0 := blk_frozen BK485.out 0; have hfz8_1 := blk_frozen BK485.out 1; obtain ⟨Ao9, co9, eo9⟩ := Kd.V_slice HO489.out; subst eo9))
 refine bodyPost_ret (results_cell_row rfl _ _ gb485 33 #[.bool t486, .slice Ao9 t487.length co9] (0, 0) _ rfl (by (with_reducible repeat (first | refine zr ?_ _ | refine zw ?_ | refine za ?_ _)); refine blk_put (cs := #[.bool t486, .slice none 0 0]) ?_ 1 _ rfl; (with_reducible repeat (first | refine zr ?_ _ | refine zw ?_ | refine za ?_ _)); refine blk_put (cs := #[.bool false, .slice none 0 0]) ?_ 0 _ rfl; (with_reducible repeat (first | refine zr ?_ _ | refine zw ?_ | refine za ?_ _)); exact BK485.out) Try.underlying33 rfl (by kernel_rfl)) rfl ?_; exact ⟨_, by first | rfl | (simp [errW_none, errW_some] <;> rfl) | (simp [*, errW_none, errW_some] <;> rfl), by (with_reducible repeat (first | apply Kd.V_alloc | apply Kd.V_drewN | apply Kd.V_drew)); exact Kd.V_mono (Kd.V_far (p := ⟨gb485, 1, none⟩) (Kd.V_far (p := ⟨gb485, 0, none⟩) (Kd.V_mono HO489.out (fun k_ hk => (⟨hk, hk.2.2⟩ : _ ∧ k_ ≠ gb485))) (fun _ hk => hk.2) (.bool t486)) (fun _ hk => hk.2) (.slice Ao9 t487.length co9)) (fun _ hk => hk.1.1), ky HB⟩

/-! ### cobweblaw02_Old: function 18 -/
def cobweblaw02_Old.f (k : Nat) (a0_0 : Int) (a0_1 : Int) (a0_2 : Int) (a0_3 : Int) : Option (Bool × List Int × Bool × List Int) := (cobweblaw02_num.f k a0_0 a0_1).bind fun bt492 => ((cobweblaw02_num.f k a0_2 a0_3).bind fun bt496 => (some (bt492.1, bt492.2, bt496.1, bt496.2)))
theorem cobweblaw02_Old.mono : ∀ a0 a1 a2 a3 k, LeO (cobweblaw02_Old.f k a0 a1 a2 a3) (cobweblaw02_Old.f (k + 1) a0 a1 a2 a3) := by
 intro a0 a1 a2 a3 k
 unfold cobweblaw02_Old.f
 repeat' first
   | (with_reducible exact cobweblaw02_num.mono _ _ _)
   | (with_reducible exact LeO.refl _)
   | (with_reducible exact LeO.none _)
   | (with_reducible refine LeO.ite ?_ ?_)
   | (with_reducible refine LeO.bind ?_ (fun _ => ?_))
   | exact cobweblaw02_num.mono _ _ _
   | exact LeO.none _
   | refine LeO.ite ?_ ?_
   | refine LeO.bind ?_ (fun _ => ?_)
def cobweblaw02_Old.T1 : Bool × List (List Nat × List Nat) := (true, [([], []), ([0], [0]), ([1], [1]), ([], []), ([3], [3]), ([4, 2], [4]), ([2, 5], [2, 5]), ([6, 5, 0, 1, 2, 3, 4, 5, 6], [6])])
def cobweblaw02_Old.B1 : List Nat := [0, 1, 3, 0, 8, 31, 63, 127]
theorem cobweblaw02_Old.tab1 : rtab .any (opsOf Try.f18 1) = cobweblaw02_Old.T1 := by kernel_rfl
theorem cobweblaw02_Old.bits1 : waitsOk cobweblaw02_Old.T1.2 cobweblaw02_Old.B1 = true := by kernel_rfl
set_option maxHeartbeats 8000000 in
set_option maxRecDepth 100000 in
theorem cobweblaw02_Old.calls (k : Nat) (a0_0 : Int) (a0_1 : Int) (a0_2 : Int) (a0_3 : Int) (r1 : Bool) (r2 : List Int) (r3 : Bool) (r4 : List Int) (w : World) (h : cobweblaw02_Old.f k a0_0 a0_1 a0_2 a0_3 = some (r1, r2, r3, r4)) :
  Calls Try.prog 18 #[.agg #[.int .i64 a0_0, .int .u64 a0_1, .int .i64 a0_2, .int .u64 a0_3]] w fun e w' => ∃ v1_ v3_ : Value, e = .returned (.agg #[.bool r1, v1_, .bool r3, v3_]) ∧ Kd.V (Kd.int .i64) 3 w' w.heap.size (fun k_ => (w.heap.size ≤ k_)) v1_ r2 ∧ Kd.V (Kd.int .i64) 3 w' w.heap.size (fun k_ => (w.heap.size ≤ k_)) v3_ r4 ∧ Below w.heap.size w w' := by
 have hu26 := Try.underlying26; have hu35 := Try.underlying35; have hu24 := Try.underlying24; have HB := Aside0.mk (Below.refl w.heap.size w); have H : ((cobweblaw02_num.f k a0_0 a0_1).bind fun bt492 => ((cobweblaw02_num.f k a0_2 a0_3).bind fun bt496 => (some (bt492.1, bt492.2, bt496.1, bt496.2)))) = some (r1, r2, r3, r4) := h; clear h; replace H := Option.bind_eq_some_iff.mp H; obtain ⟨⟨t492, t493⟩, A20, H⟩ := H; (try dsimp only at H); have A2 := Aside0.mk A20; clear A20; replace H := Option.bind_eq_some_iff.mp H; obtain ⟨⟨t496, t497⟩, A30, H⟩ := H; (try dsimp only at H); have A3 := Aside0.mk A30; clear A30
 simp only [Option.some.injEq, Prod.mk.injEq] at H
 obtain ⟨rfl, rfl, rfl, rfl⟩ := H
 go_enter Try.func18, Try.ntmps18
 try go_wp2_with (first | ((with_reducible refine gate_dst (N := 1) rfl ?_); refine box_event ?hg (N := 1) ?hd (cs := #[.int .i64 a0_0, .int .u64 a0_1, .int .i64 a0_2, .int .u64 a0_3]) (t := 26) ?hr ?_; (case hd => rfl); (case hg => rfl); (case hr => first | (go_simp; done) | (go_simp; rfl)); intro gb490 hg w4 hbox hb; have BK490 := Aside0.mk (hbox); have GW490 := kS HB hg; have GE490 := kS HB hg; replace HB := kB HB hb; clear hb hbox hg) | ((with_reducible refine gate_dst (N := 2) rfl ?_); refine box_event ?hg (N := 2) ?hd (cs := #[.bool false, .slice none 0 0, .bool false, .slice none 0 0]) (t := 35) ?hr ?_; (case hd => rfl); (case hg => rfl); (case hr => first | (go_simp; done) | (go_simp; rfl)); intro gb491 hg w5 hbox hb; have BK491 := Aside0.mk (hbox); have GW491 := kS HB hg; have GE491 := kS HB hg; have NB490_491 := kN BK490 hg; have NB491_490 := kM BK490 hg; replace BK490 := kb BK490 hb; replace HB := kB HB hb; clear hb hbox hg))
 replace BK490 := Aside0.mk (blk_drew BK490.out); replace BK491 := Aside0.mk (blk_drew BK491.out); replace HB := Aside0.mk (below_drew1 HB.out); refine start_ (n := 8) (S := fun w' => w'.cell? ⟨gb490, 0, none⟩ = some (.int .i64 a0_0) ∧ w'.cell? ⟨gb490, 1, none⟩ = some (.int .u64 a0_1) ∧ w'.cell? ⟨gb490, 2, none⟩ = some (.int .i64 a0_2) ∧ w'.cell? ⟨gb490, 3, none⟩ = some (.int .u64 a0_3)) (ds := []) #[O, O, O, O, O, O, O, O] (by kernel_rfl) rfl rfl ⟨kc BK490 0, kc BK490 1, kc BK490 2, kc BK490 3⟩ (fun hHeld => ?_); refine with_tabW cobweblaw02_Old.tab1 cobweblaw02_Old.bits1 (fun HT_ HW_ => ?_)
 generalize w5.drew = w6 at BK490 BK491 HB hHeld ⊢
 refine pure_ (i := 0) (N := some 3) (v := ?_) (a' := ?_) #[T, O, O, O, O, O, O, O] rfl rfl (any_of HT_.out (by kernel_rfl)) (fun _ _ _ h => h) (Or.inl ⟨by rfl, ?_⟩) ?_ ?_; rotate_left; focus (intro w'; go_simp; with_reducible rfl)
 rotate_left; focus (simp only [Act.put, s1, s2, s3, i64_w, i32_w]; rfl)
 refine pure_ (i := 3) (N := some 6) (v := ?_) (a' := ?_) #[T, O, O, T, O, O, O, O] rfl rfl (any_of HT_.out (by kernel_rfl)) (fun _ _ _ h => h) (Or.inl ⟨by rfl, ?_⟩) ?_ ?_; rotate_left; focus (intro w'; go_simp; with_reducible rfl)
 rotate_left; focus (simp only [Act.put, s1, s2, s3, i64_w, i32_w]; rfl)
 refine take_ (i := 1) (N := some 4) (v := ?_) (a' := ?_) #[T, T, O, T, O, O, O, O] rfl rfl (take_ofW HT_.out HW_.out (by kernel_rfl)) (fun _ _ _ h => h) (Or.inl ⟨by rfl, ?_⟩) hHeld ?_ ?_; rotate_left; focus (rintro w' ⟨s0, s1, s2, s3⟩; go_simp; with_reducible rfl)
 rotate_left; focus (simp only [Act.put, s1, s2, s3, i64_w, i32_w]; rfl)
 refine take_ (i := 4) (N := some 7) (v := ?_) (a' := ?_) #[T, T, O, T, T, O, O, O] rfl rfl (take_ofW HT_.out HW_.out (by kernel_rfl)) (fun _ _ _ h => h) (Or.inl ⟨by rfl, ?_⟩) hHeld ?_ ?_; rotate_left; focus (rintro w' ⟨s0, s1, s2, s3⟩; go_simp; with_reducible rfl)
 rotate_left; focus (simp only [Act.put, s1, s2, s3, i64_w, i32_w]; rfl)
 refine one_ (i := 2) (N := some 5) #[T, T, T, T, T, O, O, O] rfl rfl (one_of HT_.out (by kernel_rfl)) (by decide) (fun K hK => ?_); refine gS Try.func22 #[.agg #[.int .i64 a0_0, .int .u64 a0_1]] ?_
 with_reducible refine (cobweblaw02_num.calls k a0_0 a0_1 t492 t493 _ A2.out).mono ?_
 rintro e w7 ⟨v494, rfl, ho0, hb⟩; refine ⟨_, rfl, ?_⟩; have HO495 := Aside0.mk (Kd.V_lower (Kd.V_mono (ok' := fun k_ => (w.heap.size ≤ k_) ∧ k_ ≠ gb490 ∧ k_ ≠ gb491) ho0 (fun k_ hk_ => ⟨(Nat.le_trans (ko HB) hk_), (kF BK490 k_ hk_), (kF BK491 k_ hk_)⟩)) (ko HB)); replace BK490 := kb BK490 hb; replace BK491 := kb BK491 hb; replace HB := kB HB hb
 (try clear hb); (try clear hb2); (try clear hk); (try clear hi); (try clear ho0)
 refine hK.out _ _ ⟨kc BK490 0, kc BK490 1, kc BK490 2, kc BK490 3⟩ (fun hHeld => ?_); clear hK K
 refine norm_ (a' := ?_) ?_ ?_; rotate_left; focus (show Act.put _ (some 5) _ = _; simp only [Act.put, s1, s2, s3, i64_w, i32_w]; rfl)
 refine one_ (i := 5) (N := some 8) #[T, T, T, T, T, T, O, O] rfl rfl (one_of HT_.out (by kernel_rfl)) (by decide) (fun K hK => ?_); refine gS Try.func22 #[.agg #[.int .i64 a0_2, .int .u64 a0_3]] ?_
 with_reducible refine (cobweblaw02_num.calls k a0_2 a0_3 t496 t497 _ A3.out).mono ?_
 rintro e w8 ⟨v498, rfl, ho0, hb⟩; refine ⟨_, rfl, ?_⟩; have HO499 := Aside0.mk (Kd.V_lower (Kd.V_mono (ok' := fun k_ => (w.heap.size ≤ k_) ∧ k_ ≠ gb490 ∧ k_ ≠ gb491) ho0 (fun k_ hk_ => ⟨(Nat.le_trans (ko HB) hk_), (kF BK490 k_ hk_), (kF BK491 k_ hk_)⟩)) (ko HB)); replace HO495 := kV HO495 hb; replace BK490 := kb BK490 hb; replace BK491 := kb BK491 hb; replace HB := kB HB hb
 (try clear hb); (try clear hb2); (try clear hk); (try clear hi); (try clear ho0)
 obtain ⟨Ao9, co9, eo9⟩ := Kd.V_slice HO499.out
 (first | subst eo9 | (injection eo9 with f1_ f2_ f3_; have f4_ := f1_.symm; have f5_ := f3_.symm; clear f1_ f2_ f3_; subst f4_; subst f5_))
 obtain ⟨Ao10, co10, eo10⟩ := Kd.V_slice HO495.out
 (first | subst eo10 | (injection eo10 with f1_ f2_ f3_; have f4_ := f1_.symm; have f5_ := f3_.symm; clear f1_ f2_ f3_; subst f4_; subst f5_))
 refine hK.out _ _ ⟨kc BK490 0, kc BK490 1, kc BK490 2, kc BK490 3⟩ (fun hHeld => ?_); clear hK K
 refine norm_ (a' := ?_) ?_ ?_; rotate_left; focus (show Act.put _ (some 8) _ = _; simp only [Act.put, s1, s2, s3, i64_w, i32_w]; rfl)
 refine pure_ (i := 6) (N := some 9) (v := ?_) (a' := ?_) #[T, T, T, T, T, T, T, O] rfl rfl (any_of HT_.out (by kernel_rfl)) (fun _ _ _ h => h) (Or.inl ⟨by rfl, ?_⟩) ?_ ?_; rotate_left; focus (intro w'; go_simp; with_reducible rfl)
 rotate_left; focus (simp only [Act.put, s1, s2, s3, i64_w, i32_w]; rfl)
 refine one_ (i := 7) (N := none) #[T, T, T, T, T, T, T, T] rfl rfl (one_of HT_.out (by kernel_rfl)) (by decide) (fun K hK => ?_); have hs11 : w8.cell? ⟨gb491, 0, none⟩ = some (.bool false) := kc BK491 0; have hfs11 := blk_frozen BK491.out 0; have hns11_0 := NB490_491.out; have hms11_0 := NB491_490.out; have hs12 : w8.cell? ⟨gb491, 1, none⟩ = some (.slice none 0 0) := kc BK491 1; have hfs12 := blk_frozen BK491.out 1; have hns12_0 := NB490_491.out; have hms12_0 := NB491_490.out; have hs13 : w8.cell? ⟨gb491, 2, none⟩ = some (.bool false) := kc BK491 2; have hfs13 := blk_frozen BK491.out 2; have hns13_0 := NB490_491.out; have hms13_0 := NB491_490.out; have hs14 : w8.cell? ⟨gb491, 3, none⟩ = some (.slice none 0 0) := kc BK491 3; have hfs14 := blk_frozen BK491.out 3; have hns14_0 := NB490_491.out; have hms14_0 := NB491_490.out; refine skip_ (w1 := ?_) (by rfl) rfl ?_ ?_; rotate_left
 ·go_simp
  rfl
 refine hK.out _ _ ⟨((cell_far (p := ⟨gb491, _, none⟩) NB490_491.out _).trans (((cell_far (p := ⟨gb491, _, none⟩) NB490_491.out _).trans (((cell_far (p := ⟨gb491, _, none⟩) NB490_491.out _).trans (((cell_far (p := ⟨gb491, _, none⟩) NB490_491.out _).trans (hHeld.1)))))))), ((cell_far (p := ⟨gb491, _, none⟩) NB490_491.out _).trans (((cell_far (p := ⟨gb491, _, none⟩) NB490_491.out _).trans (((cell_far (p := ⟨gb491, _, none⟩) NB490_491.out _).trans (((cell_far (p := ⟨gb491, _, none⟩) NB490_491.out _).trans (hHeld.2.1)))))))), ((cell_far (p := ⟨gb491, _, none⟩) NB490_491.out _).trans (((cell_far (p := ⟨gb491, _, none⟩) NB490_491.out _).trans (((cell_far (p := ⟨gb491, _, none⟩) NB490_491.out _).trans (((cell_far (p := ⟨gb491, _, none⟩) NB490_491.out _).trans (hHeld.2.2.1)))))))), ((cell_far (p := ⟨gb491, _, none⟩) NB490_491.out _).trans (((cell_far (p := ⟨gb491, _, none⟩) NB490_491.out _).trans (((cell_far (p := ⟨gb491, _, none⟩) NB490_491.out _).trans (((cell_far (p := ⟨gb491, _, none⟩) NB490_491.out _).trans (hHeld.2.2.2))))))))⟩ (fun hHeld => ?_); clear hK K; refine done_ (done_of HT_.out (by kernel_rfl)) ?_
 try go_wp2
 refine bodyPost_ret (results_cell_row rfl _ _ gb491 35 #[.bool t492, .slice Ao10 t493.length co10, .bool t496, .slice Ao9 t497.length co9] (0, 0) _ rfl (by (with_reducible repeat (first | refine zr ?_ _ | refine zw ?_ | refine za ?_ _)); refine blk_put (cs := #[.bool t492, .slice Ao10 t493.length co10, .bool t496, .slice none 0 0]) ?_ 3 _ rfl; (with_reducible repeat (first | refine zr ?_ _ | refine zw ?_ | refine za ?_ _)); refine blk_put (cs := #[.bool t492, .slice Ao10 t493.length co10, .bool false, .slice none 0 0]) ?_ 2 _ rfl; (with_reducible repeat (first | refine zr ?_ _ | refine zw ?_ | refine za ?_ _)); refine blk_put (cs := #[.bool t492, .slice none 0 0, .bool false, .slice none 0 0]) ?_ 1 _ rfl; (with_reducible repeat (first | refine zr ?_ _ | refine zw ?_ | refine za ?_ _)); refine blk_put (cs := #[.bool false, .slice none 0 0, .bool false, .slice none 0 0]) ?_ 0 _ rfl; (with_reducible repeat (first | refine zr ?_ _ | refine zw ?_ | refine za ?_ _)); exact BK491.out) Try.underlying35 rfl (by kernel_rfl)) rfl ?_; exact ⟨_, _, by first | rfl | (simp [errW_none, errW_some] <;> rfl) | (simp [*, errW_none, errW_some] <;> rfl), by (with_reducible repeat (first | apply Kd.V_alloc | apply Kd.V_drewN | apply Kd.V_drew)); exact Kd.V_mono (Kd.V_far (p := ⟨gb491, 3, none⟩) (Kd.V_far (p := ⟨gb491, 2, none⟩) (Kd.V_far (p := ⟨gb491, 1, none⟩) (Kd.V_far (p := ⟨gb491, 0, none⟩) (Kd.V_mono HO495.out (fun k_ hk => (⟨hk, hk.2.2⟩ : _ ∧ k_ ≠ gb491))) (fun _ hk => hk.2) (.bool t492)) (fun _ hk => hk.2) (.slice Ao10 t493.length co10)) (fun _ hk => hk.2) (.bool t496)) (fun _ hk => hk.2) (.slice Ao9 t497.length co9)) (fun _ hk => hk.1.1), by (with_reducible repeat (first | apply Kd.V_alloc | apply Kd.V_drewN | apply Kd.V_drew)); exact Kd.V_mono (Kd.V_far (p := ⟨gb491, 3, none⟩) (Kd.V_far (p := ⟨gb491, 2, none⟩) (Kd.V_far (p := ⟨gb491, 1, none⟩) (Kd.V_far (p := ⟨gb491, 0, none⟩) (Kd.V_mono HO499.out (fun k_ hk => (⟨hk, hk.2.2⟩ : _ ∧ k_ ≠ gb491))) (fun _ hk => hk.2) (.bool t492)) (fun _ hk => hk.2) (.slice Ao10 t493.length co10)) (fun _ hk => hk.2) (.bool t496)) (fun _ hk => hk.2) (.slice Ao9 t497.length co9)) (fun _ hk => hk.1.1), ky HB⟩

end Go.Proofs.Ytpjbniihdndlmab.Q
