-- Printed by wip/pp.sh (a session's own turning of the kit's print) for this seat.
import Derived.Test.YtpjbniihdndlmaaQx0
import Derived.Test.YtpjbniihdndlmaaQx12
namespace Go.Proofs.Ytpjbniihdndlmaa.Q
open Go.RowKit Go.Proofs.YtpjbniihdndlmaaW.PrintWords Go.Proofs.YtpjbniihdndlmaaW.PrintLast Go.Proofs.YtpjbniihdndlmaaW.PrintMore
open Go.Proofs.Ytpjbniihdndlmaa.H
attribute [local go_sem] hq_add64 hq_sub64 hq_not64 add64c_nn sub64c_nn sub64c_le
attribute [local go_sem] max2_int min2_int max_two min_two max_three min_three max_four min_four   -- for this text's walks alone
set_option linter.unusedVariables false
set_option linter.unusedSimpArgs false

/-! ### cobweblaw01_num: function 19 -/
def cobweblaw01_num.f (k : Nat) (a0_0 : Int) (a0_1 : Int) : Option (Bool × List Int) := (cobwebref01_Wide.f k a0_0 a0_1).bind fun bt413 => (some (bt413.1, bt413.2))
theorem cobweblaw01_num.mono : ∀ a0 a1 k, LeO (cobweblaw01_num.f k a0 a1) (cobweblaw01_num.f (k + 1) a0 a1) := by
 intro a0 a1 k
 unfold cobweblaw01_num.f
 repeat' first
   | (with_reducible exact cobwebref01_Wide.mono _ _ _)
   | (with_reducible exact LeO.refl _)
   | (with_reducible exact LeO.none _)
   | (with_reducible refine LeO.ite ?_ ?_)
   | (with_reducible refine LeO.bind ?_ (fun _ => ?_))
   | exact cobwebref01_Wide.mono _ _ _
   | exact LeO.none _
   | refine LeO.ite ?_ ?_
   | refine LeO.bind ?_ (fun _ => ?_)
set_option maxHeartbeats 8000000 in
set_option maxRecDepth 100000 in
theorem cobweblaw01_num.calls (k : Nat) (a0_0 : Int) (a0_1 : Int) (r1 : Bool) (r2 : List Int) (w : World) (h : cobweblaw01_num.f k a0_0 a0_1 = some (r1, r2)) :
  Calls Try.prog 19 #[.agg #[.int .i64 a0_0, .int .u64 a0_1]] w fun e w' => ∃ v1_ : Value, e = .returned (.agg #[.bool r1, v1_]) ∧ Kd.V (Kd.int .i64) 3 w' w.heap.size (fun k_ => (w.heap.size ≤ k_)) v1_ r2 ∧ Below w.heap.size w w' := by
 have hu24 := Try.underlying24; have hu32 := Try.underlying32; have HB := Aside0.mk (Below.refl w.heap.size w); have H : ((cobwebref01_Wide.f k a0_0 a0_1).bind fun bt413 => (some (bt413.1, bt413.2))) = some (r1, r2) := h; clear h; replace H := Option.bind_eq_some_iff.mp H; obtain ⟨⟨t413, t414⟩, A20, H⟩ := H; replace H : (some (t413, t414)) = some (r1, r2) := H; have A2 := Aside0.mk A20; clear A20
 simp only [Option.some.injEq, Prod.mk.injEq] at H
 obtain ⟨rfl, rfl⟩ := H
 go_enter Try.func19, Try.ntmps19
 go_wp2_with (first | ((with_reducible refine gate_dst (N := 1) rfl ?_); refine box_event ?hg (N := 1) ?hd (cs := #[.int .i64 a0_0, .int .u64 a0_1]) (t := 24) ?hr ?_; (case hd => rfl); (case hg => rfl); (case hr => first | (go_simp; done) | (go_simp; rfl)); intro gb411 hg w3 hbox hb; have BK411 := Aside0.mk (hbox); have GW411 := kS HB hg; have GE411 := kS HB hg; replace HB := kB HB hb; clear hb hbox hg) | ((with_reducible refine gate_dst (N := 2) rfl ?_); refine box_event ?hg (N := 2) ?hd (cs := #[.bool false, .slice none 0 0]) (t := 32) ?hr ?_; (case hd => rfl); (case hg => rfl); (case hr => first | (go_simp; done) | (go_simp; rfl)); intro gb412 hg w4 hbox hb; have BK412 := Aside0.mk (hbox); have GW412 := kS HB hg; have GE412 := kS HB hg; have NB411_412 := kN BK411 hg; have NB412_411 := kM BK411 hg; replace BK411 := kb BK411 hb; replace HB := kB HB hb; clear hb hbox hg; have hnb5 := NB411_412.out; have hnc5 := NB412_411.out; have hcz6_0 : w4.cell? ⟨gb411, 0, none⟩ = some (.int .i64 a0_0) := kc BK411 0; have hcz6_1 : w4.cell? ⟨gb411, 1, none⟩ = some (.int .u64 a0_1) := kc BK411 1; have hfz6_0 := blk_frozen BK411.out 0; have hfz6_1 := blk_frozen BK411.out 1) | ((with_reducible refine gate_callee (f := 58) rfl ?_); refine goesL_ (some 7) rfl rfl Try.func58 (by kernel_rfl) rfl #[.int .i64 a0_0, .int .u64 a0_1] rfl (by (try simp only [zm, zc, zn]); first | done | rfl | (simp only [zd, zt]; rfl)) ?_; (with_reducible refine (cobwebref01_Wide.calls k a0_0 a0_1 t413 t414 _ A2.out).mono ?_); rintro e w7 ⟨v415, rfl, ho0, hb⟩; refine ⟨_, rfl, ?_⟩; have HO416 := Aside0.mk (Kd.V_lower (Kd.V_mono (ok' := fun k_ => (w.heap.size ≤ k_) ∧ k_ ≠ gb411 ∧ k_ ≠ gb412) ho0 (fun k_ hk_ => ⟨(Nat.le_trans (ko HB) hk_), (kF BK411 k_ hk_), (kF BK412 k_ hk_)⟩)) (ko HB)); replace BK411 := kb BK411 hb; replace BK412 := kb BK412 hb; replace HB := kB HB hb; (try clear hb); (try clear hb2); (try clear hk); (try clear hi); (try clear ho0); have hcz8_0 : w7.cell? ⟨gb412, 0, none⟩ = some (.bool false) := kc BK412 0; have hcz8_1 : w7.cell? ⟨gb412, 1, none⟩ = some (.slice none 0 0) := kc BK412 1; have hfz8_0 := blk_frozen BK412.out 0; have hfz8_1 := blk_frozen BK412.out 1; obtain ⟨Ao9, co9, eo9⟩ := Kd.V_slice HO416.out; subst eo9))
 refine bodyPost_ret (results_cell_row rfl _ _ gb412 32 #[.bool t413, .slice Ao9 t414.length co9] (0, 0) _ rfl (by (with_reducible repeat (first | refine zr ?_ _ | refine zw ?_ | refine za ?_ _)); refine blk_put (cs := #[.bool t413, .slice none 0 0]) ?_ 1 _ rfl; (with_reducible repeat (first | refine zr ?_ _ | refine zw ?_ | refine za ?_ _)); refine blk_put (cs := #[.bool false, .slice none 0 0]) ?_ 0 _ rfl; (with_reducible repeat (first | refine zr ?_ _ | refine zw ?_ | refine za ?_ _)); exact BK412.out) Try.underlying32 rfl (by kernel_rfl)) rfl ?_; exact ⟨_, by first | rfl | (simp [errW_none, errW_some] <;> rfl) | (simp [*, errW_none, errW_some] <;> rfl), by (with_reducible repeat (first | apply Kd.V_alloc | apply Kd.V_drewN | apply Kd.V_drew)); exact Kd.V_mono (Kd.V_far (p := ⟨gb412, 1, none⟩) (Kd.V_far (p := ⟨gb412, 0, none⟩) (Kd.V_mono HO416.out (fun k_ hk => (⟨hk, hk.2.2⟩ : _ ∧ k_ ≠ gb412))) (fun _ hk => hk.2) (.bool t413)) (fun _ hk => hk.2) (.slice Ao9 t414.length co9)) (fun _ hk => hk.1.1), ky HB⟩

end Go.Proofs.Ytpjbniihdndlmaa.Q
