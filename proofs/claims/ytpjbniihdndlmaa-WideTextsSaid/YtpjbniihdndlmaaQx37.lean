-- Printed by wip/pp.sh (a session's own turning of the kit's print) for this seat.
import Derived.Test.YtpjbniihdndlmaaQx0
import Derived.Test.YtpjbniihdndlmaaQx12
namespace Go.Proofs.Ytpjbniihdndlmaa.Q
open Go.RowKit Go.Proofs.YtpjbniihdndlmaaW.PrintWords Go.Proofs.YtpjbniihdndlmaaW.PrintLast Go.Proofs.YtpjbniihdndlmaaW.PrintMore
open Go.Proofs.Ytpjbniihdndlmaa.H
attribute [local go_sem] hq_add64 hq_sub64 hq_not64 add64c_nn sub64c_nn sub64c_le
attribute [local go_sem] max2_int min2_int max_two min_two max_three min_three max_four min_four   -- for this text's walks alone
set_option linter.unusedVariables false
set_option linter.unusedSimpArgs false

/-! ### cobweblaw02_num: function 47 -/
def cobweblaw02_num.f (k : Nat) (a0_0 : Int) (a0_1 : Int) : Option (Bool × List Int) := (cobwebref01_Wide.f k a0_0 a0_1).bind fun bt1073 => (some (bt1073.1, bt1073.2))
theorem cobweblaw02_num.mono : ∀ a0 a1 k, LeO (cobweblaw02_num.f k a0 a1) (cobweblaw02_num.f (k + 1) a0 a1) := by
 intro a0 a1 k
 unfold cobweblaw02_num.f
 repeat' first
   | (with_reducible exact cobwebref01_Wide.mono _ _ _)
   | (with_reducible exact LeO.refl _)
   | (with_reducible exact LeO.none _)
   | (with_reducible refine LeO.ite ?_ ?_)
   | (with_reducible refine LeO.bind ?_ (fun _ => ?_))
   | exact cobwebref01_Wide.mono _ _ _
   | exact LeO.none _
   | refine LeO.ite ?_ ?_
   | refine LeO.bind ?_ (fun _ => ?_)
set_option maxHeartbeats 8000000 in
set_option maxRecDepth 100000 in
theorem cobweblaw02_num.calls (k : Nat) (a0_0 : Int) (a0_1 : Int) (r1 : Bool) (r2 : List Int) (w : World) (h : cobweblaw02_num.f k a0_0 a0_1 = some (r1, r2)) :
  Calls Try.prog 47 #[.agg #[.int .i64 a0_0, .int .u64 a0_1]] w fun e w' => ∃ v1_ : Value, e = .returned (.agg #[.bool r1, v1_]) ∧ Kd.V (Kd.int .i64) 3 w' w.heap.size (fun k_ => (w.heap.size ≤ k_)) v1_ r2 ∧ Below w.heap.size w w' := by
 have hu24 := Try.underlying24; have hu32 := Try.underlying32; have HB := Aside0.mk (Below.refl w.heap.size w); have H : ((cobwebref01_Wide.f k a0_0 a0_1).bind fun bt1073 => (some (bt1073.1, bt1073.2))) = some (r1, r2) := h; clear h; replace H := Option.bind_eq_some_iff.mp H; obtain ⟨⟨t1073, t1074⟩, A20, H⟩ := H; replace H : (some (t1073, t1074)) = some (r1, r2) := H; have A2 := Aside0.mk A20; clear A20
 simp only [Option.some.injEq, Prod.mk.injEq] at H
 obtain ⟨rfl, rfl⟩ := H
 go_enter Try.func47, Try.ntmps47
 go_wp2_with (first | ((with_reducible refine gate_dst (N := 1) rfl ?_); refine box_event ?hg (N := 1) ?hd (cs := #[.int .i64 a0_0, .int .u64 a0_1]) (t := 24) ?hr ?_; (case hd => rfl); (case hg => rfl); (case hr => first | (go_simp; done) | (go_simp; rfl)); intro gb1071 hg w3 hbox hb; have BK1071 := Aside0.mk (hbox); have GW1071 := kS HB hg; have GE1071 := kS HB hg; replace HB := kB HB hb; clear hb hbox hg) | ((with_reducible refine gate_dst (N := 2) rfl ?_); refine box_event ?hg (N := 2) ?hd (cs := #[.bool false, .slice none 0 0]) (t := 32) ?hr ?_; (case hd => rfl); (case hg => rfl); (case hr => first | (go_simp; done) | (go_simp; rfl)); intro gb1072 hg w4 hbox hb; have BK1072 := Aside0.mk (hbox); have GW1072 := kS HB hg; have GE1072 := kS HB hg; have NB1071_1072 := kN BK1071 hg; have NB1072_1071 := kM BK1071 hg; replace BK1071 := kb BK1071 hb; replace HB := kB HB hb; clear hb hbox hg; have hnb5 := NB1071_1072.out; have hnc5 := NB1072_1071.out; have hcz6_0 : w4.cell? ⟨gb1071, 0, none⟩ = some (.int .i64 a0_0) := kc BK1071 0; have hcz6_1 : w4.cell? ⟨gb1071, 1, none⟩ = some (.int .u64 a0_1) := kc BK1071 1; have hfz6_0 := blk_frozen BK1071.out 0; have hfz6_1 := blk_frozen BK1071.out 1) | ((with_reducible refine gate_callee (f := 58) rfl ?_); refine goesL_ (some 7) rfl rfl Try.func58 (by kernel_rfl) rfl #[.int .i64 a0_0, .int .u64 a0_1] rfl (by (try simp only [zm, zc, zn]); first | done | rfl | (simp only [zd, zt]; rfl)) ?_; (with_reducible refine (cobwebref01_Wide.calls k a0_0 a0_1 t1073 t1074 _ A2.out).mono ?_); rintro e w7 ⟨v1075, rfl, ho0, hb⟩; refine ⟨_, rfl, ?_⟩; have HO1076 := Aside0.mk (Kd.V_lower (Kd.V_mono (ok' := fun k_ => (w.heap.size ≤ k_) ∧ k_ ≠ gb1071 ∧ k_ ≠ gb1072) ho0 (fun k_ hk_ => ⟨(Nat.le_trans (ko HB) hk_), (kF BK1071 k_ hk_), (kF BK1072 k_ hk_)⟩)) (ko HB)); replace BK1071 := kb BK1071 hb; replace BK1072 := kb BK1072 hb; replace HB := kB HB hb; (try clear hb); (try clear hb2); (try clear hk); (try clear hi); (try clear ho0); have hcz8_0 : w7.cell? ⟨gb1072, 0, none⟩ = some (.bool false) := kc BK1072 0; have hcz8_1 : w7.cell? ⟨gb1072, 1, none⟩ = some (.slice none 0 0) := kc BK1072 1; have hfz8_0 := blk_frozen BK1072.out 0; have hfz8_1 := blk_frozen BK1072.out 1; obtain ⟨Ao9, co9, eo9⟩ := Kd.V_slice HO1076.out; subst eo9))
 refine bodyPost_ret (results_cell_row rfl _ _ gb1072 32 #[.bool t1073, .slice Ao9 t1074.length co9] (0, 0) _ rfl (by (with_reducible repeat (first | refine zr ?_ _ | refine zw ?_ | refine za ?_ _)); refine blk_put (cs := #[.bool t1073, .slice none 0 0]) ?_ 1 _ rfl; (with_reducible repeat (first | refine zr ?_ _ | refine zw ?_ | refine za ?_ _)); refine blk_put (cs := #[.bool false, .slice none 0 0]) ?_ 0 _ rfl; (with_reducible repeat (first | refine zr ?_ _ | refine zw ?_ | refine za ?_ _)); exact BK1072.out) Try.underlying32 rfl (by kernel_rfl)) rfl ?_; exact ⟨_, by first | rfl | (simp [errW_none, errW_some] <;> rfl) | (simp [*, errW_none, errW_some] <;> rfl), by (with_reducible repeat (first | apply Kd.V_alloc | apply Kd.V_drewN | apply Kd.V_drew)); exact Kd.V_mono (Kd.V_far (p := ⟨gb1072, 1, none⟩) (Kd.V_far (p := ⟨gb1072, 0, none⟩) (Kd.V_mono HO1076.out (fun k_ hk => (⟨hk, hk.2.2⟩ : _ ∧ k_ ≠ gb1072))) (fun _ hk => hk.2) (.bool t1073)) (fun _ hk => hk.2) (.slice Ao9 t1074.length co9)) (fun _ hk => hk.1.1), ky HB⟩

end Go.Proofs.Ytpjbniihdndlmaa.Q
