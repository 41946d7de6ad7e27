-- Printed by wip/pp.sh (a session's own turning of the kit's print) for this seat.
import Derived.Test.YtpjbniihdndlmabQx0
import Derived.Test.YtpjbniihdndlmabQx11
namespace Go.Proofs.Ytpjbniihdndlmab.Q
open Go.RowKit Go.Proofs.YtpjbniihdndlmabW.PrintWords Go.Proofs.YtpjbniihdndlmabW.PrintLast Go.Proofs.YtpjbniihdndlmabW.PrintMore
open Go.Proofs.Ytpjbniihdndlmab.H
attribute [local go_sem] hq_add64 hq_sub64 hq_not64 add64c_nn sub64c_nn sub64c_le
attribute [local go_sem] max2_int min2_int max_two min_two max_three min_three max_four min_four   -- for this text's walks alone
set_option linter.unusedVariables false
set_option linter.unusedSimpArgs false

/-! ### cobwebref01_Neg: function 77 -/
def cobwebref01_Neg.f (k : Nat) (a0_0 : Bool) (l0_1 : List Int) : Option (Bool × List Int) := (cobwebref01_trim.f k (!a0_0) l0_1).bind fun bt528 => (some (bt528.1, bt528.2))
theorem cobwebref01_Neg.mono : ∀ a0 a1 k, LeO (cobwebref01_Neg.f k a0 a1) (cobwebref01_Neg.f (k + 1) a0 a1) := by
 intro a0 a1 k
 unfold cobwebref01_Neg.f
 repeat' first
   | (with_reducible exact cobwebref01_trim.mono _ _ _)
   | (with_reducible exact LeO.refl _)
   | (with_reducible exact LeO.none _)
   | (with_reducible refine LeO.ite ?_ ?_)
   | (with_reducible refine LeO.bind ?_ (fun _ => ?_))
   | exact cobwebref01_trim.mono _ _ _
   | exact LeO.none _
   | refine LeO.ite ?_ ?_
   | refine LeO.bind ?_ (fun _ => ?_)
set_option maxHeartbeats 8000000 in
set_option maxRecDepth 100000 in
theorem cobwebref01_Neg.calls (k : Nat) (a0_0 : Bool) (P0_1_ : Nat → Prop) (A0_1 : Option Addr) (c0_1 : Nat) (l0_1 : List Int) (r1 : Bool) (r2 : List Int) (w : World) (hs0_1 : Kd.V (Kd.int .i64) 3 w w.heap.size (fun k_ => P0_1_ k_) (.slice A0_1 l0_1.length c0_1) l0_1) (h : cobwebref01_Neg.f k a0_0 l0_1 = some (r1, r2)) :
  Calls Try.prog 77 #[.agg #[.bool a0_0, .slice A0_1 l0_1.length c0_1]] w fun e w' => ∃ v1_ : Value, e = .returned (.agg #[.bool r1, v1_]) ∧ Kd.V (Kd.int .i64) 3 w' w.heap.size (fun k_ => (P0_1_ k_ ∨ w.heap.size ≤ k_)) v1_ r2 ∧ Below w.heap.size w w' := by
 have hu33 := Try.underlying33; have HO0_1 := Aside0.mk (show Kd.V (Kd.int .i64) 3 w w.heap.size (fun k_ => (P0_1_ k_ ∨ w.heap.size ≤ k_)) (.slice A0_1 l0_1.length c0_1) l0_1 from Kd.V_mono hs0_1 (fun k_ hk => .inl hk)); have HB := Aside0.mk (Below.refl w.heap.size w); have H : ((cobwebref01_trim.f k (!a0_0) l0_1).bind fun bt528 => (some (bt528.1, bt528.2))) = some (r1, r2) := h; clear h; replace H := Option.bind_eq_some_iff.mp H; obtain ⟨⟨t528, t529⟩, A20, H⟩ := H; (try dsimp only at H); have A2 := Aside0.mk A20; clear A20
 simp only [Option.some.injEq, Prod.mk.injEq] at H
 obtain ⟨rfl, rfl⟩ := H
 go_enter Try.func77, Try.ntmps77
 go_wp2_with (first | ((with_reducible refine gate_dst (N := 1) rfl ?_); refine box_event ?hg (N := 1) ?hd (cs := #[.bool a0_0, .slice A0_1 l0_1.length c0_1]) (t := 33) ?hr ?_; (case hd => rfl); (case hg => rfl); (case hr => first | (go_simp; done) | (go_simp; rfl)); intro gb526 hg w3 hbox hb; have n0_ := kE HO0_1 gb526 hg hb; have n1_ := kB HB hb; have n2_ := Aside0.mk (hbox); have n3_ := kS HB hg; have n4_ := kS HB hg; clear HO0_1; clear HB; have HO0_1 := n0_; have HB := n1_; have BK526 := n2_; have GW526 := n3_; have GE526 := n4_; clear n0_ n1_ n2_ n3_ n4_; clear hb hbox hg) | ((with_reducible refine gate_dst (N := 2) rfl ?_); refine box_event ?hg (N := 2) ?hd (cs := #[.bool false, .slice none 0 0]) (t := 33) ?hr ?_; (case hd => rfl); (case hg => rfl); (case hr => first | (go_simp; done) | (go_simp; rfl)); intro gb527 hg w4 hbox hb; have n0_ := kE HO0_1 gb527 hg hb; have n1_ := kb BK526 hb; have n2_ := kB HB hb; have n3_ := Aside0.mk (hbox); have n4_ := kS HB hg; have n5_ := kS HB hg; have n6_ := kN BK526 hg; have n7_ := kM BK526 hg; clear HO0_1; clear BK526; clear HB; have HO0_1 := n0_; have BK526 := n1_; have HB := n2_; have BK527 := n3_; have GW527 := n4_; have GE527 := n5_; have NB526_527 := n6_; have NB527_526 := n7_; clear n0_ n1_ n2_ n3_ n4_ n5_ n6_ n7_; clear hb hbox hg; have hnb5 := NB526_527.out; have hnc5 := NB527_526.out; have hcz6_0 : w4.cell? ⟨gb526, 0, none⟩ = some (.bool a0_0) := kc BK526 0; have hcz6_1 : w4.cell? ⟨gb526, 1, none⟩ = some (.slice A0_1 l0_1.length c0_1) := kc BK526 1; have hfz6_0 := blk_frozen BK526.out 0; have hfz6_1 := blk_frozen BK526.out 1) | ((with_reducible refine gate_callee (f := 75) rfl ?_); refine gL 9 Try.func75 #[.agg #[.bool (!a0_0), .slice A0_1 l0_1.length c0_1]] ?_; (with_reducible refine (cobwebref01_trim.calls k (!a0_0) (fun k_ => (((P0_1_ k_ ∨ w.heap.size ≤ k_) ∧ k_ ≠ gb526) ∧ k_ ≠ gb527)) _ _ l0_1 t528 t529 _ ?side1 A2.out).mono ?_); (case side1 => exact HO0_1.out); rintro e w7 ⟨v530, rfl, ho0, hb⟩; refine ⟨_, rfl, ?_⟩; have HO531 := Aside0.mk (Kd.V_lower (Kd.V_mono (ok' := fun k_ => (P0_1_ k_ ∨ w.heap.size ≤ k_) ∧ k_ ≠ gb526 ∧ k_ ≠ gb527) ho0 (fun k_ hk_ => ⟨Or.elim hk_ (fun hs_ => hs_.1.1) (fun hn_ => (.inr (Nat.le_trans (ko HB) hn_))), Or.elim hk_ (fun hs_ => hs_.1.2) (fun hn_ => (Kd.freshB (g := gb526) (o := .cells #[.bool a0_0, .slice A0_1 l0_1.length c0_1] 33 (0, 0)) (kx BK526) k_ hn_)), Or.elim hk_ (fun hs_ => hs_.2) (fun hn_ => (Kd.freshB (g := gb527) (o := .cells #[.bool false, .slice none 0 0] 33 (0, 0)) (kx BK527) k_ hn_))⟩)) (ko HB)); replace HO0_1 := kV HO0_1 hb; replace BK526 := kb BK526 hb; replace BK527 := kb BK527 hb; replace HB := kB HB hb; (try clear hb); (try clear hb2); (try clear hk); (try clear hi); (try clear ho0); have hcz8_0 : w7.cell? ⟨gb527, 0, none⟩ = some (.bool false) := kc BK527 0; have hcz8_1 : w7.cell? ⟨gb527, 1, none⟩ = some (.slice none 0 0) := kc BK527 1; have hfz8_0 := blk_frozen BK527.out 0; have hfz8_1 := blk_frozen BK527.out 1; obtain ⟨Ao9, co9, eo9⟩ := Kd.V_slice HO531.out; subst eo9))
 refine bodyPost_ret (results_cell_row rfl _ _ gb527 33 #[.bool t528, .slice Ao9 t529.length co9] (0, 0) _ rfl (by (with_reducible repeat (first | refine zr ?_ _ | refine zw ?_ | refine za ?_ _)); refine blk_put (cs := #[.bool t528, .slice none 0 0]) ?_ 1 _ rfl; (with_reducible repeat (first | refine zr ?_ _ | refine zw ?_ | refine za ?_ _)); refine blk_put (cs := #[.bool false, .slice none 0 0]) ?_ 0 _ rfl; (with_reducible repeat (first | refine zr ?_ _ | refine zw ?_ | refine za ?_ _)); exact BK527.out) Try.underlying33 rfl (by kernel_rfl)) rfl ?_; exact ⟨_, by first | rfl | (simp [errW_none, errW_some] <;> rfl) | (simp [*, errW_none, errW_some] <;> rfl), by (with_reducible repeat (first | apply Kd.V_alloc | apply Kd.V_drewN | apply Kd.V_drew)); exact Kd.V_mono (Kd.V_far (p := ⟨gb527, 1, none⟩) (Kd.V_far (p := ⟨gb527, 0, none⟩) (Kd.V_mono HO531.out (fun k_ hk => (⟨hk, hk.2.2⟩ : _ ∧ k_ ≠ gb527))) (fun _ hk => hk.2) (.bool t528)) (fun _ hk => hk.2) (.slice Ao9 t529.length co9)) (fun _ hk => hk.1.1), ky HB⟩

end Go.Proofs.Ytpjbniihdndlmab.Q
