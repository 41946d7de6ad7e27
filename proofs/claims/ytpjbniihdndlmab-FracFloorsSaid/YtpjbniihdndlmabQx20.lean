-- Printed by wip/pp.sh (a session's own turning of the kit's print) for this seat.
import Derived.Test.YtpjbniihdndlmabQx0
import Derived.Test.YtpjbniihdndlmabQx1
import Derived.Test.YtpjbniihdndlmabQx5
import Derived.Test.YtpjbniihdndlmabQx6
import Derived.Test.YtpjbniihdndlmabQx12
import Derived.Test.YtpjbniihdndlmabQx13
import Derived.Test.YtpjbniihdndlmabQx14
import Derived.Test.YtpjbniihdndlmabQx17
import Derived.Test.YtpjbniihdndlmabQx19
namespace Go.Proofs.Ytpjbniihdndlmab.Q
open Go.RowKit Go.Proofs.YtpjbniihdndlmabW.PrintWords Go.Proofs.YtpjbniihdndlmabW.PrintLast Go.Proofs.YtpjbniihdndlmabW.PrintMore
open Go.Proofs.Ytpjbniihdndlmab.H
attribute [local go_sem] hq_add64 hq_sub64 hq_not64 add64c_nn sub64c_nn sub64c_le
attribute [local go_sem] max2_int min2_int max_two min_two max_three min_three max_four min_four   -- for this text's walks alone
set_option linter.unusedVariables false
set_option linter.unusedSimpArgs false

attribute [local go_sem high] eqA24
/-! ### cobwebref02_Floor: function 23 -/
def cobwebref02_Floor.f (k : Nat) (a0_0 : Bool) (l0_1 : List Int) (a0_2 : Bool) (l0_3 : List Int) : Option (Bool × List Int) := (cobwebref01_Div.f k a0_0 l0_1 a0_2 l0_3).bind fun bt585 => (some (bt585.1, bt585.2.1))
theorem cobwebref02_Floor.mono : ∀ a0 a1 a2 a3 k, LeO (cobwebref02_Floor.f k a0 a1 a2 a3) (cobwebref02_Floor.f (k + 1) a0 a1 a2 a3) := by
 intro a0 a1 a2 a3 k
 unfold cobwebref02_Floor.f
 repeat' first
   | (with_reducible exact cobwebref01_Div.mono _ _ _ _ _)
   | (with_reducible exact LeO.refl _)
   | (with_reducible exact LeO.none _)
   | (with_reducible refine LeO.ite ?_ ?_)
   | (with_reducible refine LeO.bind ?_ (fun _ => ?_))
   | exact cobwebref01_Div.mono _ _ _ _ _
   | exact LeO.none _
   | refine LeO.ite ?_ ?_
   | refine LeO.bind ?_ (fun _ => ?_)
set_option maxHeartbeats 8000000 in
set_option maxRecDepth 100000 in
theorem cobwebref02_Floor.calls (k : Nat) (a0_0 : Bool) (A0_1 : Option Addr) (c0_1 : Nat) (l0_1 : List Int) (a0_2 : Bool) (P0_3_ : Nat → Prop) (A0_3 : Option Addr) (c0_3 : Nat) (l0_3 : List Int) (r1 : Bool) (r2 : List Int) (w : World) (hr0_1 : Kd.C (Kd.int .i64) w A0_1 l0_1.length l0_1) (hc0_1 : l0_1.length ≤ c0_1) (hs0_3 : Kd.V (Kd.int .i64) 3 w w.heap.size (fun k_ => P0_3_ k_) (.slice A0_3 l0_3.length c0_3) l0_3) (h : cobwebref02_Floor.f k a0_0 l0_1 a0_2 l0_3 = some (r1, r2)) :
  Calls Try.prog 23 #[.agg #[.bool a0_0, .slice A0_1 l0_1.length c0_1, .bool a0_2, .slice A0_3 l0_3.length c0_3]] w fun e w' => ∃ v1_ : Value, e = .returned (.agg #[.bool r1, v1_]) ∧ Kd.V (Kd.int .i64) 3 w' w.heap.size (fun k_ => (P0_3_ k_ ∨ w.heap.size ≤ k_)) v1_ r2 ∧ Below w.heap.size w w' := by
 have hu35 := Try.underlying35; have hu33 := Try.underlying33; have HR0_1 := Aside0.mk hr0_1; have HC0_1 := Aside0.mk hc0_1; clear hr0_1 hc0_1; have HO0_3 := Aside0.mk (show Kd.V (Kd.int .i64) 3 w w.heap.size (fun k_ => (P0_3_ k_ ∨ w.heap.size ≤ k_)) (.slice A0_3 l0_3.length c0_3) l0_3 from Kd.V_mono hs0_3 (fun k_ hk => .inl hk)); have HB := Aside0.mk (Below.refl w.heap.size w); have H : ((cobwebref01_Div.f k a0_0 l0_1 a0_2 l0_3).bind fun bt585 => (some (bt585.1, bt585.2.1))) = some (r1, r2) := h; clear h; replace H := Option.bind_eq_some_iff.mp H; obtain ⟨⟨t585, t586, t589, t590⟩, A20, H⟩ := H; replace H : (some (t585, t586)) = some (r1, r2) := H; have A2 := Aside0.mk A20; clear A20
 simp only [Option.some.injEq, Prod.mk.injEq] at H
 obtain ⟨rfl, rfl⟩ := H
 go_enter Try.func23, Try.ntmps23
 go_wp2_with (first | ((with_reducible refine gate_dst (N := 1) rfl ?_); refine box_event ?hg (N := 1) ?hd (cs := #[.bool a0_0, .slice A0_1 l0_1.length c0_1, .bool a0_2, .slice A0_3 l0_3.length c0_3]) (t := 35) ?hr ?_; (case hd => rfl); (case hg => rfl); (case hr => first | (go_simp; done) | (go_simp; rfl)); intro gb583 hg w3 hbox hb; have n0_ := kE HO0_3 gb583 hg hb; have n1_ := kB HB hb; have n2_ := Aside0.mk (hbox); have n3_ := kS HB hg; have n4_ := kS HB hg; clear HO0_3; clear HB; have HO0_3 := n0_; have HB := n1_; have BK583 := n2_; have GW583 := n3_; have GE583 := n4_; clear n0_ n1_ n2_ n3_ n4_; clear hb hbox hg) | ((with_reducible refine gate_dst (N := 2) rfl ?_); refine box_event ?hg (N := 2) ?hd (cs := #[.bool false, .slice none 0 0]) (t := 33) ?hr ?_; (case hd => rfl); (case hg => rfl); (case hr => first | (go_simp; done) | (go_simp; rfl)); intro gb584 hg w4 hbox hb; have n0_ := kE HO0_3 gb584 hg hb; have n1_ := kb BK583 hb; have n2_ := kB HB hb; have n3_ := Aside0.mk (hbox); have n4_ := kS HB hg; have n5_ := kS HB hg; have n6_ := kN BK583 hg; have n7_ := kM BK583 hg; clear HO0_3; clear BK583; clear HB; have HO0_3 := n0_; have BK583 := n1_; have HB := n2_; have BK584 := n3_; have GW584 := n4_; have GE584 := n5_; have NB583_584 := n6_; have NB584_583 := n7_; clear n0_ n1_ n2_ n3_ n4_ n5_ n6_ n7_; clear hb hbox hg; have hnb5 := NB583_584.out; have hnc5 := NB584_583.out; have hcz6_0 : w4.cell? ⟨gb583, 0, none⟩ = some (.bool a0_0) := kc BK583 0; have hcz6_1 : w4.cell? ⟨gb583, 1, none⟩ = some (.slice A0_1 l0_1.length c0_1) := kc BK583 1; have hcz6_2 : w4.cell? ⟨gb583, 2, none⟩ = some (.bool a0_2) := kc BK583 2; have hcz6_3 : w4.cell? ⟨gb583, 3, none⟩ = some (.slice A0_3 l0_3.length c0_3) := kc BK583 3; have hfz6_0 := blk_frozen BK583.out 0; have hfz6_1 := blk_frozen BK583.out 1; have hfz6_2 := blk_frozen BK583.out 2; have hfz6_3 := blk_frozen BK583.out 3) | ((with_reducible refine gate_callee (f := 54) rfl ?_); refine goesL_ (some 10) rfl rfl Try.func54 (by kernel_rfl) rfl #[.agg #[.bool a0_0, .slice A0_1 l0_1.length c0_1], .agg #[.bool a0_2, .slice A0_3 l0_3.length c0_3]] rfl (by (try simp only [zm, zc, zn]); first | done | rfl | (simp only [zd, zt]; rfl)) ?_; (with_reducible refine (cobwebref01_Div.calls k a0_0 _ _ l0_1 a0_2 (fun k_ => (((P0_3_ k_ ∨ w.heap.size ≤ k_) ∧ k_ ≠ gb583) ∧ k_ ≠ gb584)) _ _ l0_3 t585 t586 t589 t590 _ ?side1 ?side2 ?side3 A2.out).mono ?_); (case side1 => repeat (first | exact (Kd.C_below HR0_1.out HB.out) | (with_reducible refine Kd.C_alloc ?_ _) | (with_reducible refine Kd.C_drewN ?_ _) | (with_reducible refine Kd.C_drew ?_))); (case side2 => exact HC0_1.out); (case side3 => exact HO0_3.out); rintro e w7 ⟨v587, v591, rfl, ho0, ho1, hb⟩; refine ⟨_, rfl, ?_⟩; have HO588 := Aside0.mk (Kd.V_lower (Kd.V_mono (ok' := fun k_ => (P0_3_ k_ ∨ w.heap.size ≤ k_) ∧ k_ ≠ gb583 ∧ k_ ≠ gb584) ho0 (fun k_ hk_ => ⟨Or.elim hk_ (fun hs_ => hs_.1.1) (fun hn_ => (.inr (Nat.le_trans (ko HB) hn_))), Or.elim hk_ (fun hs_ => hs_.1.2) (fun hn_ => (Kd.freshB (g := gb583) (o := .cells #[.bool a0_0, .slice A0_1 l0_1.length c0_1, .bool a0_2, .slice A0_3 l0_3.length c0_3] 35 (0, 0)) (kx BK583) k_ hn_)), Or.elim hk_ (fun hs_ => hs_.2) (fun hn_ => (Kd.freshB (g := gb584) (o := .cells #[.bool false, .slice none 0 0] 33 (0, 0)) (kx BK584) k_ hn_))⟩)) (ko HB)); have HO592 := Aside0.mk (Kd.V_lower (Kd.V_mono (ok' := fun k_ => (P0_3_ k_ ∨ w.heap.size ≤ k_) ∧ k_ ≠ gb583 ∧ k_ ≠ gb584) ho1 (fun k_ hk_ => ⟨Or.elim hk_ (fun hs_ => hs_.1.1) (fun hn_ => (.inr (Nat.le_trans (ko HB) hn_))), Or.elim hk_ (fun hs_ => hs_.1.2) (fun hn_ => (Kd.freshB (g := gb583) (o := .cells #[.bool a0_0, .slice A0_1 l0_1.length c0_1, .bool a0_2, .slice A0_3 l0_3.length c0_3] 35 (0, 0)) (kx BK583) k_ hn_)), Or.elim hk_ (fun hs_ => hs_.2) (fun hn_ => (Kd.freshB (g := gb584) (o := .cells #[.bool false, .slice none 0 0] 33 (0, 0)) (kx BK584) k_ hn_))⟩)) (ko HB)); replace HO0_3 := kV HO0_3 hb; replace BK583 := kb BK583 hb; replace BK584 := kb BK584 hb; replace HB := kB HB hb; (try clear hb); (try clear hb2); (try clear hk); (try clear hi); (try clear ho0); (try clear ho1)) | ((with_reducible refine gate_dst (N := 3) rfl ?_); refine box_event ?hg (N := 3) ?hd (cs := #[.bool false, .slice none 0 0]) (t := 33) ?hr ?_; (case hd => rfl); (case hg => rfl); (case hr => first | (go_simp; done) | (go_simp; rfl)); intro gb593 hg w8 hbox hb; have n0_ := kE HO0_3 gb593 hg hb; have n1_ := kE HO588 gb593 hg hb; have n2_ := kE HO592 gb593 hg hb; have n3_ := kb BK583 hb; have n4_ := kb BK584 hb; have n5_ := kB HB hb; have n6_ := Aside0.mk (hbox); have n7_ := kS HB hg; have n8_ := kS HB hg; have n9_ := kN BK583 hg; have n10_ := kM BK583 hg; have n11_ := kN BK584 hg; have n12_ := kM BK584 hg; clear HO0_3; clear HO588; clear HO592; clear BK583; clear BK584; clear HB; have HO0_3 := n0_; have HO588 := n1_; have HO592 := n2_; have BK583 := n3_; have BK584 := n4_; have HB := n5_; have BK593 := n6_; have GW593 := n7_; have GE593 := n8_; have NB583_593 := n9_; have NB593_583 := n10_; have NB584_593 := n11_; have NB593_584 := n12_; clear n0_ n1_ n2_ n3_ n4_ n5_ n6_ n7_ n8_ n9_ n10_ n11_ n12_; clear hb hbox hg) | ((with_reducible refine gate_dst (N := 4) rfl ?_); refine box_event ?hg (N := 4) ?hd (cs := #[.bool false, .slice none 0 0]) (t := 33) ?hr ?_; (case hd => rfl); (case hg => rfl); (case hr => first | (go_simp; done) | (go_simp; rfl)); intro gb594 hg w9 hbox hb; have n0_ := kE HO0_3 gb594 hg hb; have n1_ := kE HO588 gb594 hg hb; have n2_ := kE HO592 gb594 hg hb; have n3_ := kb BK583 hb; have n4_ := kb BK584 hb; have n5_ := kb BK593 hb; have n6_ := kB HB hb; have n7_ := Aside0.mk (hbox); have n8_ := kS HB hg; have n9_ := kS HB hg; have n10_ := kN BK583 hg; have n11_ := kM BK583 hg; have n12_ := kN BK584 hg; have n13_ := kM BK584 hg; have n14_ := kN BK593 hg; have n15_ := kM BK593 hg; clear HO0_3; clear HO588; clear HO592; clear BK583; clear BK584; clear BK593; clear HB; have HO0_3 := n0_; have HO588 := n1_; have HO592 := n2_; have BK583 := n3_; have BK584 := n4_; have BK593 := n5_; have HB := n6_; have BK594 := n7_; have GW594 := n8_; have GE594 := n9_; have NB583_594 := n10_; have NB594_583 := n11_; have NB584_594 := n12_; have NB594_584 := n13_; have NB593_594 := n14_; have NB594_593 := n15_; clear n0_ n1_ n2_ n3_ n4_ n5_ n6_ n7_ n8_ n9_ n10_ n11_ n12_ n13_ n14_ n15_; clear hb hbox hg; have hnb10 := NB593_583.out; have hnc10 := NB583_593.out; have hnb11 := NB593_584.out; have hnc11 := NB584_593.out; have hnb12 := NB593_594.out; have hnc12 := NB594_593.out; have hcz13_0 : w9.cell? ⟨gb593, 0, none⟩ = some (.bool false) := kc BK593 0; have hcz13_1 : w9.cell? ⟨gb593, 1, none⟩ = some (.slice none 0 0) := kc BK593 1; have hfz13_0 := blk_frozen BK593.out 0; have hfz13_1 := blk_frozen BK593.out 1; obtain ⟨Ao14, co14, eo14⟩ := Kd.V_slice HO588.out; subst eo14; have hnb15 := NB594_583.out; have hnc15 := NB583_594.out; have hnb16 := NB594_584.out; have hnc16 := NB584_594.out; have hcz17_0 : w9.cell? ⟨gb594, 0, none⟩ = some (.bool false) := kc BK594 0; have hcz17_1 : w9.cell? ⟨gb594, 1, none⟩ = some (.slice none 0 0) := kc BK594 1; have hfz17_0 := blk_frozen BK594.out 0; have hfz17_1 := blk_frozen BK594.out 1; obtain ⟨Ao18, co18, eo18⟩ := Kd.V_slice HO592.out; subst eo18; have hcz19_0 : w9.cell? ⟨gb584, 0, none⟩ = some (.bool false) := kc BK584 0; have hcz19_1 : w9.cell? ⟨gb584, 1, none⟩ = some (.slice none 0 0) := kc BK584 1; have hfz19_0 := blk_frozen BK584.out 0; have hfz19_1 := blk_frozen BK584.out 1))
 refine bodyPost_ret (results_cell_row rfl _ _ gb584 33 #[.bool t585, .slice Ao14 t586.length co14] (0, 0) _ rfl (by (with_reducible repeat (first | refine zr ?_ _ | refine zw ?_ | refine za ?_ _)); refine blk_put (cs := #[.bool t585, .slice none 0 0]) ?_ 1 _ rfl; (with_reducible repeat (first | refine zr ?_ _ | refine zw ?_ | refine za ?_ _)); refine blk_put (cs := #[.bool false, .slice none 0 0]) ?_ 0 _ rfl; (with_reducible repeat (first | refine zr ?_ _ | refine zw ?_ | refine za ?_ _)); refine blk_far ?_ NB584_594.out _; (with_reducible repeat (first | refine zr ?_ _ | refine zw ?_ | refine za ?_ _)); refine blk_far ?_ NB584_594.out _; (with_reducible repeat (first | refine zr ?_ _ | refine zw ?_ | refine za ?_ _)); refine blk_far ?_ NB584_593.out _; (with_reducible repeat (first | refine zr ?_ _ | refine zw ?_ | refine za ?_ _)); refine blk_far ?_ NB584_593.out _; (with_reducible repeat (first | refine zr ?_ _ | refine zw ?_ | refine za ?_ _)); exact BK584.out) Try.underlying33 rfl (by kernel_rfl)) rfl ?_; exact ⟨_, by first | rfl | (simp [errW_none, errW_some] <;> rfl) | (simp [*, errW_none, errW_some] <;> rfl), by (with_reducible repeat (first | apply Kd.V_alloc | apply Kd.V_drewN | apply Kd.V_drew)); exact Kd.V_mono (Kd.V_far (p := ⟨gb584, 1, none⟩) (Kd.V_far (p := ⟨gb584, 0, none⟩) (Kd.V_far (p := ⟨gb594, 1, none⟩) (Kd.V_far (p := ⟨gb594, 0, none⟩) (Kd.V_far (p := ⟨gb593, 1, none⟩) (Kd.V_far (p := ⟨gb593, 0, none⟩) (Kd.V_mono (Kd.V_mono (Kd.V_mono HO588.out (fun k_ hk => (⟨hk, hk.1.2⟩ : _ ∧ k_ ≠ gb593))) (fun k_ hk => (⟨hk, hk.1.2⟩ : _ ∧ k_ ≠ gb594))) (fun k_ hk => (⟨hk, hk.1.1.1.1.2.2⟩ : _ ∧ k_ ≠ gb584))) (fun _ hk => hk.1.1.2) (.bool t585)) (fun _ hk => hk.1.1.2) (.slice Ao14 t586.length co14)) (fun _ hk => hk.1.2) (.bool t589)) (fun _ hk => hk.1.2) (.slice Ao18 t590.length co18)) (fun _ hk => hk.2) (.bool t585)) (fun _ hk => hk.2) (.slice Ao14 t586.length co14)) (fun _ hk => hk.1.1.1.1.1.1), ky HB⟩

/-! ### cobweblaw02_FracFloors: function 4 -/
def cobweblaw02_FracFloors.j0 : Nat → Bool → Int → Int → Int → Int → Int → Int → Option (Bool)
 | 0, _, _, _, _, _, _, _ => none
 | k + 1, x37, x596000, x596001, x596002, x596003, x599000, x599001 => if x37 = true then (some false) else ((wide_Of.f 1).bind fun bt622 => ((wide_Add.f x599000 x599001 bt622.1 bt622.2).bind fun bt624 => ((cobweblaw02_alive.f k).bind fun t628 => (if t628 = true then (if bt624.2.2 = true then ((wide_Of.f 1).bind fun bt629 => ((frac_Cmp.f k bt624.1 bt624.2.1 bt629.1 bt629.2 x596000 x596001 x596002 x596003).bind fun t631 => (some (decide (t631 > 0))))) else (some true)) else (none)))))
def cobweblaw02_FracFloors.f (k : Nat) (a0_0 : Int) (a0_1 : Int) (a0_2 : Int) (a0_3 : Int) : Option (Bool) := (frac_Floor.f k a0_0 a0_1 a0_2 a0_3).bind fun bt596 => ((wide_Sign.f a0_2 a0_3).bind fun t599 => (if t599 ≤ 0 then ((cobweblaw02_alive.f k).bind fun t600 => (if t600 = true then (if (bt596.1 == 0 && (bt596.2 == 0)) = true then ((frac_Right.f a0_0 a0_1 a0_2 a0_3).bind fun t601 => (some (!t601))) else (none)) else (none))) else ((cobweblaw02_num.f k bt596.1 bt596.2).bind fun bt602 => ((cobweblaw02_Old.f k a0_0 a0_1 a0_2 a0_3).bind fun bt606 => ((cobwebref02_Floor.f k bt606.1 bt606.2.1 bt606.2.2.1 bt606.2.2.2).bind fun bt614 => ((cobwebref01_Cmp.f k bt602.1 bt602.2 bt614.1 bt614.2).bind fun t618 => (if t618 = 0 then ((wide_Of.f 1).bind fun bt619 => ((frac_Cmp.f k bt596.1 bt596.2 bt619.1 bt619.2 a0_0 a0_1 a0_2 a0_3).bind fun t621 => (cobweblaw02_FracFloors.j0 k (decide (t621 > 0)) a0_0 a0_1 a0_2 a0_3 bt596.1 bt596.2))) else (cobweblaw02_FracFloors.j0 k true a0_0 a0_1 a0_2 a0_3 bt596.1 bt596.2))))))))
theorem cobweblaw02_FracFloors.mono_l : ∀ k, (∀ y0 y1 y2 y3 y4 y5 y6, LeO (cobweblaw02_FracFloors.j0 k y0 y1 y2 y3 y4 y5 y6) (cobweblaw02_FracFloors.j0 (k + 1) y0 y1 y2 y3 y4 y5 y6))
 | 0 => fun _ _ _ _ _ _ _ r h => by simp [cobweblaw02_FracFloors.j0] at h
 | k + 1 => by
  have ih0 := cobweblaw02_FracFloors.mono_l k
  ·intro y0 y1 y2 y3 y4 y5 y6
   unfold cobweblaw02_FracFloors.j0
   repeat' first
   | (with_reducible exact ih0 _ _ _ _ _ _ _)
   | (with_reducible exact cobweblaw02_Old.mono _ _ _ _ _)
   | (with_reducible exact cobweblaw02_alive.mono _)
   | (with_reducible exact cobweblaw02_num.mono _ _ _)
   | (with_reducible exact cobwebref01_Cmp.mono _ _ _ _ _)
   | (with_reducible exact cobwebref02_Floor.mono _ _ _ _ _)
   | (with_reducible exact frac_Cmp.mono _ _ _ _ _ _ _ _ _)
   | (with_reducible exact frac_Floor.mono _ _ _ _ _)
   | (with_reducible exact LeO.refl _)
   | (with_reducible exact LeO.none _)
   | (with_reducible refine LeO.ite ?_ ?_)
   | (with_reducible refine LeO.bind ?_ (fun _ => ?_))
   | exact ih0 _ _ _ _ _ _ _
   | exact cobweblaw02_Old.mono _ _ _ _ _
   | exact cobweblaw02_alive.mono _
   | exact cobweblaw02_num.mono _ _ _
   | exact cobwebref01_Cmp.mono _ _ _ _ _
   | exact cobwebref02_Floor.mono _ _ _ _ _
   | exact frac_Cmp.mono _ _ _ _ _ _ _ _ _
   | exact frac_Floor.mono _ _ _ _ _
   | exact LeO.none _
   | refine LeO.ite ?_ ?_
   | refine LeO.bind ?_ (fun _ => ?_)
theorem cobweblaw02_FracFloors.mono : ∀ a0 a1 a2 a3 k, LeO (cobweblaw02_FracFloors.f k a0 a1 a2 a3) (cobweblaw02_FracFloors.f (k + 1) a0 a1 a2 a3) := by
 intro a0 a1 a2 a3 k; have ih0 := cobweblaw02_FracFloors.mono_l k
 unfold cobweblaw02_FracFloors.f
 repeat' first
   | (with_reducible exact ih0 _ _ _ _ _ _ _)
   | (with_reducible exact cobweblaw02_Old.mono _ _ _ _ _)
   | (with_reducible exact cobweblaw02_alive.mono _)
   | (with_reducible exact cobweblaw02_num.mono _ _ _)
   | (with_reducible exact cobwebref01_Cmp.mono _ _ _ _ _)
   | (with_reducible exact cobwebref02_Floor.mono _ _ _ _ _)
   | (with_reducible exact frac_Cmp.mono _ _ _ _ _ _ _ _ _)
   | (with_reducible exact frac_Floor.mono _ _ _ _ _)
   | (with_reducible exact LeO.refl _)
   | (with_reducible exact LeO.none _)
   | (with_reducible refine LeO.ite ?_ ?_)
   | (with_reducible refine LeO.bind ?_ (fun _ => ?_))
   | exact ih0 _ _ _ _ _ _ _
   | exact cobweblaw02_Old.mono _ _ _ _ _
   | exact cobweblaw02_alive.mono _
   | exact cobweblaw02_num.mono _ _ _
   | exact cobwebref01_Cmp.mono _ _ _ _ _
   | exact cobwebref02_Floor.mono _ _ _ _ _
   | exact frac_Cmp.mono _ _ _ _ _ _ _ _ _
   | exact frac_Floor.mono _ _ _ _ _
   | exact LeO.none _
   | refine LeO.ite ?_ ?_
   | refine LeO.bind ?_ (fun _ => ?_)
def cobweblaw02_FracFloors.T4 : Bool × List (List Nat × List Nat) := (true, [([], []), ([0], [0]), ([], []), ([2, 1], [2]), ([3, 3], [3]), ([1, 4, 4], [1, 4]), ([5], [5]), ([6, 5], [6]), ([7], [7]), ([7, 7], [7]), ([8, 9, 7], [7, 8, 9]), ([7], [7]), ([10, 11, 9, 7], [7, 10, 11]), ([12, 7], [7, 12]), ([7, 13], [7, 13])])
def cobweblaw02_FracFloors.B4 : List Nat := [0, 1, 0, 7, 15, 31, 63, 127, 255, 255, 1023, 255, 4095, 8191, 16383]
theorem cobweblaw02_FracFloors.tab4 : rtab .any (opsOf Try.f4 4) = cobweblaw02_FracFloors.T4 := by kernel_rfl
theorem cobweblaw02_FracFloors.bits4 : waitsOk cobweblaw02_FracFloors.T4.2 cobweblaw02_FracFloors.B4 = true := by kernel_rfl
def cobweblaw02_FracFloors.T6 : Bool × List (List Nat × List Nat) := (true, [([], []), ([], []), ([0, 1, 1], [0, 1]), ([2], [2]), ([3], [3]), ([3], [3]), ([], []), ([6, 4, 2, 0, 1, 2, 3, 4, 6], [4, 6]), ([5, 7, 0, 1, 2, 3, 4, 5, 6, 7], [5])])
def cobweblaw02_FracFloors.B6 : List Nat := [0, 0, 3, 7, 15, 15, 0, 95, 255]
theorem cobweblaw02_FracFloors.tab6 : rtab .any (opsOf Try.f4 6) = cobweblaw02_FracFloors.T6 := by kernel_rfl
theorem cobweblaw02_FracFloors.bits6 : waitsOk cobweblaw02_FracFloors.T6.2 cobweblaw02_FracFloors.B6 = true := by kernel_rfl
def cobweblaw02_FracFloors.T7 : Bool × List (List Nat × List Nat) := (true, [([], []), ([0, 0], [0]), ([1], [1]), ([2, 1], [1, 2]), ([3, 1, 1], [1, 3]), ([4], [4]), ([4, 4], [4]), ([5, 6, 4], [4, 5, 6]), ([4], [4]), ([7, 8, 6, 4], [4, 7, 8]), ([9, 4], [4, 9]), ([4, 10, 1], [1, 4, 10]), ([1, 11], [1, 11]), ([12, 9, 0, 1, 2, 3, 4, 5, 6, 7, 8, 9, 10, 11, 12], [12])])
def cobweblaw02_FracFloors.B7 : List Nat := [0, 1, 3, 7, 15, 31, 31, 127, 31, 511, 1023, 2047, 4095, 8191]
theorem cobweblaw02_FracFloors.tab7 : rtab .any (opsOf Try.f4 7) = cobweblaw02_FracFloors.T7 := by kernel_rfl
theorem cobweblaw02_FracFloors.bits7 : waitsOk cobweblaw02_FracFloors.T7.2 cobweblaw02_FracFloors.B7 = true := by kernel_rfl
set_option maxHeartbeats 8000000 in
set_option maxRecDepth 100000 in
theorem cobweblaw02_FracFloors.calls (k : Nat) (a0_0 : Int) (a0_1 : Int) (a0_2 : Int) (a0_3 : Int) (r : Bool) (w : World) (h : cobweblaw02_FracFloors.f k a0_0 a0_1 a0_2 a0_3 = some r) :
  Calls Try.prog 4 #[.agg #[.int .i64 a0_0, .int .u64 a0_1, .int .i64 a0_2, .int .u64 a0_3]] w fun e w' => e = .returned (.bool r) ∧ Below w.heap.size w w' := by
 have hu26 := Try.underlying26; have hu24 := Try.underlying24; have HB := Aside0.mk (Below.refl w.heap.size w); have H : ((frac_Floor.f k a0_0 a0_1 a0_2 a0_3).bind fun bt596 => ((wide_Sign.f a0_2 a0_3).bind fun t599 => (if t599 ≤ 0 then ((cobweblaw02_alive.f k).bind fun t600 => (if t600 = true then (if (bt596.1 == 0 && (bt596.2 == 0)) = true then ((frac_Right.f a0_0 a0_1 a0_2 a0_3).bind fun t601 => (some (!t601))) else (none)) else (none))) else ((cobweblaw02_num.f k bt596.1 bt596.2).bind fun bt602 => ((cobweblaw02_Old.f k a0_0 a0_1 a0_2 a0_3).bind fun bt606 => ((cobwebref02_Floor.f k bt606.1 bt606.2.1 bt606.2.2.1 bt606.2.2.2).bind fun bt614 => ((cobwebref01_Cmp.f k bt602.1 bt602.2 bt614.1 bt614.2).bind fun t618 => (if t618 = 0 then ((wide_Of.f 1).bind fun bt619 => ((frac_Cmp.f k bt596.1 bt596.2 bt619.1 bt619.2 a0_0 a0_1 a0_2 a0_3).bind fun t621 => (cobweblaw02_FracFloors.j0 k (decide (t621 > 0)) a0_0 a0_1 a0_2 a0_3 bt596.1 bt596.2))) else (cobweblaw02_FracFloors.j0 k true a0_0 a0_1 a0_2 a0_3 bt596.1 bt596.2))))))))) = some r := h; clear h; replace H := Option.bind_eq_some_iff.mp H; obtain ⟨⟨t596, t597⟩, A20, H⟩ := H; replace H : ((wide_Sign.f a0_2 a0_3).bind fun t599 => (if t599 ≤ 0 then ((cobweblaw02_alive.f k).bind fun t600 => (if t600 = true then (if (t596 == 0 && (t597 == 0)) = true then ((frac_Right.f a0_0 a0_1 a0_2 a0_3).bind fun t601 => (some (!t601))) else (none)) else (none))) else ((cobweblaw02_num.f k t596 t597).bind fun bt602 => ((cobweblaw02_Old.f k a0_0 a0_1 a0_2 a0_3).bind fun bt606 => ((cobwebref02_Floor.f k bt606.1 bt606.2.1 bt606.2.2.1 bt606.2.2.2).bind fun bt614 => ((cobwebref01_Cmp.f k bt602.1 bt602.2 bt614.1 bt614.2).bind fun t618 => (if t618 = 0 then ((wide_Of.f 1).bind fun bt619 => ((frac_Cmp.f k t596 t597 bt619.1 bt619.2 a0_0 a0_1 a0_2 a0_3).bind fun t621 => (cobweblaw02_FracFloors.j0 k (decide (t621 > 0)) a0_0 a0_1 a0_2 a0_3 t596 t597))) else (cobweblaw02_FracFloors.j0 k true a0_0 a0_1 a0_2 a0_3 t596 t597)))))))) = some r := H; have A2 := Aside0.mk A20; clear A20; replace H := Option.bind_eq_some_iff.mp H; obtain ⟨t599, A30, H⟩ := H
 replace H : (if t599 ≤ 0 then ((cobweblaw02_alive.f k).bind fun t600 => (if t600 = true then (if (t596 == 0 && (t597 == 0)) = true then ((frac_Right.f a0_0 a0_1 a0_2 a0_3).bind fun t601 => (some (!t601))) else (none)) else (none))) else ((cobweblaw02_num.f k t596 t597).bind fun bt602 => ((cobweblaw02_Old.f k a0_0 a0_1 a0_2 a0_3).bind fun bt606 => ((cobwebref02_Floor.f k bt606.1 bt606.2.1 bt606.2.2.1 bt606.2.2.2).bind fun bt614 => ((cobwebref01_Cmp.f k bt602.1 bt602.2 bt614.1 bt614.2).bind fun t618 => (if t618 = 0 then ((wide_Of.f 1).bind fun bt619 => ((frac_Cmp.f k t596 t597 bt619.1 bt619.2 a0_0 a0_1 a0_2 a0_3).bind fun t621 => (cobweblaw02_FracFloors.j0 k (decide (t621 > 0)) a0_0 a0_1 a0_2 a0_3 t596 t597))) else (cobweblaw02_FracFloors.j0 k true a0_0 a0_1 a0_2 a0_3 t596 t597))))))) = some r := H; have A3 := Aside0.mk A30; clear A30
 by_cases c4 : t599 ≤ 0
 ·rw [if_pos c4] at H
  have c4b0 : decide (t599 ≤ 0) = true := decide_eq_true c4; clear c4; replace H := Option.bind_eq_some_iff.mp H; obtain ⟨t600, A50, H⟩ := H; replace H : (if t600 = true then (if (t596 == 0 && (t597 == 0)) = true then ((frac_Right.f a0_0 a0_1 a0_2 a0_3).bind fun t601 => (some (!t601))) else (none)) else (none)) = some r := H; have A5 := Aside0.mk A50; clear A50
  by_cases c6 : t600 = true
  rotate_left
  ·replace c6 := Bool.eq_false_iff.mpr c6; subst c6
   have H1 : (none) = some r := by rw [if_neg (show ¬ (false = true) by decide)] at H; exact H
   clear H; have H := H1; clear H1; exact absurd H (by simp)
  subst c6
  have H1 : (if (t596 == 0 && (t597 == 0)) = true then ((frac_Right.f a0_0 a0_1 a0_2 a0_3).bind fun t601 => (some (!t601))) else (none)) = some r := by rw [if_pos rfl] at H; exact H
  clear H; have H := H1; clear H1
  by_cases c7 : (t596 == 0 && (t597 == 0)) = true
  rotate_left
  ·rw [if_neg c7] at H
   exact absurd H (by simp)
  rw [if_pos c7] at H
  have c7b0 : (t596 == 0 && (t597 == 0)) = true := c7
  (try (have c7b1 : decide (t596 = 0 && (t597 == 0)) = true := by simpa using c7))
  (try (have c7b2 : (t596 == 0 && (t597 == 0)) = true := by simpa using c7))
  clear c7; replace H := Option.bind_eq_some_iff.mp H; obtain ⟨t601, A80, H⟩ := H; replace H : (some (!t601)) = some r := H; have A8 := Aside0.mk A80; clear A80; obtain rfl := Option.some.inj H
  go_enter Try.func4, Try.ntmps4
  go_wp2_with (first | ((with_reducible refine gate_dst (N := 1) rfl ?_); refine box_event ?hg (N := 1) ?hd (cs := #[.int .i64 a0_0, .int .u64 a0_1, .int .i64 a0_2, .int .u64 a0_3]) (t := 26) ?hr ?_; (case hd => rfl); (case hg => rfl); (case hr => first | (go_simp; done) | (go_simp; rfl)); intro gb595 hg w9 hbox hb; have BK595 := Aside0.mk (hbox); have GW595 := kS HB hg; have GE595 := kS HB hg; replace HB := kB HB hb; clear hb hbox hg; have hcz10_0 : w9.cell? ⟨gb595, 0, none⟩ = some (.int .i64 a0_0) := kc BK595 0; have hcz10_1 : w9.cell? ⟨gb595, 1, none⟩ = some (.int .u64 a0_1) := kc BK595 1; have hcz10_2 : w9.cell? ⟨gb595, 2, none⟩ = some (.int .i64 a0_2) := kc BK595 2; have hcz10_3 : w9.cell? ⟨gb595, 3, none⟩ = some (.int .u64 a0_3) := kc BK595 3; have hfz10_0 := blk_frozen BK595.out 0; have hfz10_1 := blk_frozen BK595.out 1; have hfz10_2 := blk_frozen BK595.out 2; have hfz10_3 := blk_frozen BK595.out 3) | ((with_reducible refine gate_callee (f := 19) rfl ?_); refine goesL_ (some 7) rfl rfl Try.func19 (by kernel_rfl) rfl #[.agg #[.int .i64 a0_0, .int .u64 a0_1, .int .i64 a0_2, .int .u64 a0_3]] rfl (by (try simp only [zm, zc, zn]); first | done | rfl | (simp only [zd, zt]; rfl)) ?_; (with_reducible refine (frac_Floor.calls k a0_0 a0_1 a0_2 a0_3 t596 t597 _ A2.out).mono ?_); rintro e w11 ⟨rfl, hb⟩; refine ⟨_, rfl, ?_⟩; replace BK595 := kb BK595 hb; replace HB := kB HB hb; (try clear hb); (try clear hb2); (try clear hk); (try clear hi)) | ((with_reducible refine gate_dst (N := 3) rfl ?_); refine box_event ?hg (N := 3) ?hd (cs := #[.int .i64 0, .int .u64 0]) (t := 24) ?hr ?_; (case hd => rfl); (case hg => rfl); (case hr => first | (go_simp; done) | (go_simp; rfl)); intro gb598 hg w12 hbox hb; have BK598 := Aside0.mk (hbox); have GW598 := kS HB hg; have GE598 := kS HB hg; have NB595_598 := kN BK595 hg; have NB598_595 := kM BK595 hg; replace BK595 := kb BK595 hb; replace HB := kB HB hb; clear hb hbox hg; have hnb13 := NB598_595.out; have hnc13 := NB595_598.out; have hcz14_0 : w12.cell? ⟨gb598, 0, none⟩ = some (.int .i64 0) := kc BK598 0; have hcz14_1 : w12.cell? ⟨gb598, 1, none⟩ = some (.int .u64 0) := kc BK598 1; have hfz14_0 := blk_frozen BK598.out 0; have hfz14_1 := blk_frozen BK598.out 1; have hcz15_0 : w12.cell? ⟨gb595, 0, none⟩ = some (.int .i64 a0_0) := kc BK595 0; have hcz15_1 : w12.cell? ⟨gb595, 1, none⟩ = some (.int .u64 a0_1) := kc BK595 1; have hcz15_2 : w12.cell? ⟨gb595, 2, none⟩ = some (.int .i64 a0_2) := kc BK595 2; have hcz15_3 : w12.cell? ⟨gb595, 3, none⟩ = some (.int .u64 a0_3) := kc BK595 3; have hfz15_0 := blk_frozen BK595.out 0; have hfz15_1 := blk_frozen BK595.out 1; have hfz15_2 := blk_frozen BK595.out 2; have hfz15_3 := blk_frozen BK595.out 3) | ((with_reducible refine gate_callee (f := 15) rfl ?_); refine goesL_ (some 10) rfl rfl Try.func15 (by kernel_rfl) rfl #[.agg #[.int .i64 a0_2, .int .u64 a0_3]] rfl (by (try simp only [zm, zc, zn]); first | done | rfl | (simp only [zd, zt]; rfl)) ?_; (with_reducible refine (wide_Sign.calls a0_2 a0_3 t599 _ A3.out).mono ?_); rintro e w16 ⟨rfl, hb⟩; refine ⟨_, rfl, ?_⟩; have n0_ := kb BK595 hb; have n1_ := Aside0.mk (blk_below (g := gb598) (o := .cells #[.int .i64 t596, .int .u64 t597] 24 (0, 0)) (by (with_reducible repeat (first | refine zr ?_ _ | refine zw ?_ | refine za ?_ _)); refine blk_put (cs := #[.int .i64 t596, .int .u64 0]) ?_ 1 _ rfl; (with_reducible repeat (first | refine zr ?_ _ | refine zw ?_ | refine za ?_ _)); refine blk_put (cs := #[.int .i64 0, .int .u64 0]) ?_ 0 _ rfl; (with_reducible repeat (first | refine zr ?_ _ | refine zw ?_ | refine za ?_ _)); exact BK598.out) hb); have n2_ := kB HB hb; clear BK595; clear BK598; clear HB; have BK595 := n0_; have BK598 := n1_; have HB := n2_; clear n0_ n1_ n2_; (try clear hb); (try clear hb2); (try clear hk); (try clear hi)) | ((with_reducible refine gate_callee (f := 16) rfl ?_); refine goesL_ (some 12) rfl rfl Try.func16 (by kernel_rfl) rfl #[] rfl (by (try simp only [zm, zc, zn]); first | done | rfl | (simp only [zd, zt]; rfl)) ?_; (with_reducible refine (cobweblaw02_alive.calls k  true _ A5.out).mono ?_); rintro e w17 ⟨rfl, hb⟩; refine ⟨_, rfl, ?_⟩; replace BK595 := kb BK595 hb; replace BK598 := kb BK598 hb; replace HB := kB HB hb; (try clear hb); (try clear hb2); (try clear hk); (try clear hi); have hcz18_0 : w17.cell? ⟨gb598, 0, none⟩ = some (.int .i64 t596) := kc BK598 0; have hcz18_1 : w17.cell? ⟨gb598, 1, none⟩ = some (.int .u64 t597) := kc BK598 1; have hfz18_0 := blk_frozen BK598.out 0; have hfz18_1 := blk_frozen BK598.out 1; have hcz19_0 : w17.cell? ⟨gb595, 0, none⟩ = some (.int .i64 a0_0) := kc BK595 0; have hcz19_1 : w17.cell? ⟨gb595, 1, none⟩ = some (.int .u64 a0_1) := kc BK595 1; have hcz19_2 : w17.cell? ⟨gb595, 2, none⟩ = some (.int .i64 a0_2) := kc BK595 2; have hcz19_3 : w17.cell? ⟨gb595, 3, none⟩ = some (.int .u64 a0_3) := kc BK595 3; have hfz19_0 := blk_frozen BK595.out 0; have hfz19_1 := blk_frozen BK595.out 1; have hfz19_2 := blk_frozen BK595.out 2; have hfz19_3 := blk_frozen BK595.out 3) | (go_at_call 20; (with_reducible refine (frac_Right.calls a0_0 a0_1 a0_2 a0_3 t601 _ A8.out).mono ?_); rintro e w20 ⟨rfl, hb⟩; replace BK595 := kb BK595 hb; replace BK598 := kb BK598 hb; replace HB := kB HB hb; (try clear hb); (try clear hb2); (try clear hk); (try clear hi)))
  go_ret
  exact ⟨by first | rfl | (simp [errW_none, errW_some] <;> rfl) | (simp [*, errW_none, errW_some] <;> rfl), ky HB⟩
 rw [if_neg c4] at H
 have c4b0 : decide (t599 ≤ 0) = false := decide_eq_false c4; clear c4; have HC21 := Aside0.mk H; clear H
 go_enter Try.func4, Try.ntmps4
 go_upto_region 4 with (first | ((with_reducible refine gate_dst (N := 1) rfl ?_); refine box_event ?hg (N := 1) ?hd (cs := #[.int .i64 a0_0, .int .u64 a0_1, .int .i64 a0_2, .int .u64 a0_3]) (t := 26) ?hr ?_; (case hd => rfl); (case hg => rfl); (case hr => first | (go_simp; done) | (go_simp; rfl)); intro gb595 hg w22 hbox hb; have BK595 := Aside0.mk (hbox); have GW595 := kS HB hg; have GE595 := kS HB hg; replace HB := kB HB hb; clear hb hbox hg; have hcz23_0 : w22.cell? ⟨gb595, 0, none⟩ = some (.int .i64 a0_0) := kc BK595 0; have hcz23_1 : w22.cell? ⟨gb595, 1, none⟩ = some (.int .u64 a0_1) := kc BK595 1; have hcz23_2 : w22.cell? ⟨gb595, 2, none⟩ = some (.int .i64 a0_2) := kc BK595 2; have hcz23_3 : w22.cell? ⟨gb595, 3, none⟩ = some (.int .u64 a0_3) := kc BK595 3; have hfz23_0 := blk_frozen BK595.out 0; have hfz23_1 := blk_frozen BK595.out 1; have hfz23_2 := blk_frozen BK595.out 2; have hfz23_3 := blk_frozen BK595.out 3) | ((with_reducible refine gate_callee (f := 19) rfl ?_); refine goesL_ (some 7) rfl rfl Try.func19 (by kernel_rfl) rfl #[.agg #[.int .i64 a0_0, .int .u64 a0_1, .int .i64 a0_2, .int .u64 a0_3]] rfl (by (try simp only [zm, zc, zn]); first | done | rfl | (simp only [zd, zt]; rfl)) ?_; (with_reducible refine (frac_Floor.calls k a0_0 a0_1 a0_2 a0_3 t596 t597 _ A2.out).mono ?_); rintro e w24 ⟨rfl, hb⟩; refine ⟨_, rfl, ?_⟩; replace BK595 := kb BK595 hb; replace HB := kB HB hb; (try clear hb); (try clear hb2); (try clear hk); (try clear hi)) | ((with_reducible refine gate_dst (N := 3) rfl ?_); refine box_event ?hg (N := 3) ?hd (cs := #[.int .i64 0, .int .u64 0]) (t := 24) ?hr ?_; (case hd => rfl); (case hg => rfl); (case hr => first | (go_simp; done) | (go_simp; rfl)); intro gb598 hg w25 hbox hb; have BK598 := Aside0.mk (hbox); have GW598 := kS HB hg; have GE598 := kS HB hg; have NB595_598 := kN BK595 hg; have NB598_595 := kM BK595 hg; replace BK595 := kb BK595 hb; replace HB := kB HB hb; clear hb hbox hg; have hnb26 := NB598_595.out; have hnc26 := NB595_598.out; have hcz27_0 : w25.cell? ⟨gb598, 0, none⟩ = some (.int .i64 0) := kc BK598 0; have hcz27_1 : w25.cell? ⟨gb598, 1, none⟩ = some (.int .u64 0) := kc BK598 1; have hfz27_0 := blk_frozen BK598.out 0; have hfz27_1 := blk_frozen BK598.out 1; have hcz28_0 : w25.cell? ⟨gb595, 0, none⟩ = some (.int .i64 a0_0) := kc BK595 0; have hcz28_1 : w25.cell? ⟨gb595, 1, none⟩ = some (.int .u64 a0_1) := kc BK595 1; have hcz28_2 : w25.cell? ⟨gb595, 2, none⟩ = some (.int .i64 a0_2) := kc BK595 2; have hcz28_3 : w25.cell? ⟨gb595, 3, none⟩ = some (.int .u64 a0_3) := kc BK595 3; have hfz28_0 := blk_frozen BK595.out 0; have hfz28_1 := blk_frozen BK595.out 1; have hfz28_2 := blk_frozen BK595.out 2; have hfz28_3 := blk_frozen BK595.out 3) | ((with_reducible refine gate_callee (f := 15) rfl ?_); refine goesL_ (some 10) rfl rfl Try.func15 (by kernel_rfl) rfl #[.agg #[.int .i64 a0_2, .int .u64 a0_3]] rfl (by (try simp only [zm, zc, zn]); first | done | rfl | (simp only [zd, zt]; rfl)) ?_; (with_reducible refine (wide_Sign.calls a0_2 a0_3 t599 _ A3.out).mono ?_); rintro e w29 ⟨rfl, hb⟩; refine ⟨_, rfl, ?_⟩; have n0_ := kb BK595 hb; have n1_ := Aside0.mk (blk_below (g := gb598) (o := .cells #[.int .i64 t596, .int .u64 t597] 24 (0, 0)) (by (with_reducible repeat (first | refine zr ?_ _ | refine zw ?_ | refine za ?_ _)); refine blk_put (cs := #[.int .i64 t596, .int .u64 0]) ?_ 1 _ rfl; (with_reducible repeat (first | refine zr ?_ _ | refine zw ?_ | refine za ?_ _)); refine blk_put (cs := #[.int .i64 0, .int .u64 0]) ?_ 0 _ rfl; (with_reducible repeat (first | refine zr ?_ _ | refine zw ?_ | refine za ?_ _)); exact BK598.out) hb); have n2_ := kB HB hb; clear BK595; clear BK598; clear HB; have BK595 := n0_; have BK598 := n1_; have HB := n2_; clear n0_ n1_ n2_; (try clear hb); (try clear hb2); (try clear hk); (try clear hi)))
 (try simp only [Act.put, s1, s2, s3])
 go_cut [37] (fun v37 wc => ∃ (kq : Nat) (x37_20 : Bool), v37 = .bool x37_20 ∧ Aside0 (cobweblaw02_FracFloors.j0 kq x37_20 a0_0 a0_1 a0_2 a0_3 t596 t597 = some r) ∧ Aside0 (kq ≤ k) ∧ Aside0 (wc.heap[gb595]? = some (.cells #[.int .i64 a0_0, .int .u64 a0_1, .int .i64 a0_2, .int .u64 a0_3] 26 (0, 0))) ∧ Aside0 (wc.heap[gb598]? = some (.cells #[.int .i64 t596, .int .u64 t597] 24 (0, 0))) ∧ Aside0 (Below w.heap.size w wc))
 case first =>
  have H := HC21.out; clear HC21; replace H := Option.bind_eq_some_iff.mp H; obtain ⟨⟨t602, t603⟩, A300, H⟩ := H; replace H : ((cobweblaw02_Old.f k a0_0 a0_1 a0_2 a0_3).bind fun bt606 => ((cobwebref02_Floor.f k bt606.1 bt606.2.1 bt606.2.2.1 bt606.2.2.2).bind fun bt614 => ((cobwebref01_Cmp.f k t602 t603 bt614.1 bt614.2).bind fun t618 => (if t618 = 0 then ((wide_Of.f 1).bind fun bt619 => ((frac_Cmp.f k t596 t597 bt619.1 bt619.2 a0_0 a0_1 a0_2 a0_3).bind fun t621 => (cobweblaw02_FracFloors.j0 k (decide (t621 > 0)) a0_0 a0_1 a0_2 a0_3 t596 t597))) else (cobweblaw02_FracFloors.j0 k true a0_0 a0_1 a0_2 a0_3 t596 t597))))) = some r := H; have A30 := Aside0.mk A300; clear A300; replace H := Option.bind_eq_some_iff.mp H; obtain ⟨⟨t606, t607, t610, t611⟩, A310, H⟩ := H; replace H : ((cobwebref02_Floor.f k t606 t607 t610 t611).bind fun bt614 => ((cobwebref01_Cmp.f k t602 t603 bt614.1 bt614.2).bind fun t618 => (if t618 = 0 then ((wide_Of.f 1).bind fun bt619 => ((frac_Cmp.f k t596 t597 bt619.1 bt619.2 a0_0 a0_1 a0_2 a0_3).bind fun t621 => (cobweblaw02_FracFloors.j0 k (decide (t621 > 0)) a0_0 a0_1 a0_2 a0_3 t596 t597))) else (cobweblaw02_FracFloors.j0 k true a0_0 a0_1 a0_2 a0_3 t596 t597)))) = some r := H; have A31 := Aside0.mk A310; clear A310; replace H := Option.bind_eq_some_iff.mp H; obtain ⟨⟨t614, t615⟩, A320, H⟩ := H; replace H : ((cobwebref01_Cmp.f k t602 t603 t614 t615).bind fun t618 => (if t618 = 0 then ((wide_Of.f 1).bind fun bt619 => ((frac_Cmp.f k t596 t597 bt619.1 bt619.2 a0_0 a0_1 a0_2 a0_3).bind fun t621 => (cobweblaw02_FracFloors.j0 k (decide (t621 > 0)) a0_0 a0_1 a0_2 a0_3 t596 t597))) else (cobweblaw02_FracFloors.j0 k true a0_0 a0_1 a0_2 a0_3 t596 t597))) = some r := H; have A32 := Aside0.mk A320; clear A320; replace H := Option.bind_eq_some_iff.mp H; obtain ⟨t618, A330, H⟩ := H; replace H : (if t618 = 0 then ((wide_Of.f 1).bind fun bt619 => ((frac_Cmp.f k t596 t597 bt619.1 bt619.2 a0_0 a0_1 a0_2 a0_3).bind fun t621 => (cobweblaw02_FracFloors.j0 k (decide (t621 > 0)) a0_0 a0_1 a0_2 a0_3 t596 t597))) else (cobweblaw02_FracFloors.j0 k true a0_0 a0_1 a0_2 a0_3 t596 t597)) = some r := H; have A33 := Aside0.mk A330; clear A330
  by_cases c34 : t618 = 0
  rotate_left
  ·rw [if_neg c34] at H
   have c34b0 : (t618 == 0) = false := beq_eq_false_iff_ne.mpr c34; have c34b1 : (t618 != 0) = true := bne_iff_ne.mpr c34
   (first | rw [c34b0] | (simp only [i64_w, i32_w]; rw [c34b0]) | skip)
   have H' := Aside0.mk H; clear H
   try go_wp2
   replace BK595 := Aside0.mk (blk_drew BK595.out); replace BK598 := Aside0.mk (blk_drew BK598.out); replace HB := Aside0.mk (below_drew1 HB.out); refine start_ (n := 15) (S := fun w' => w'.cell? ⟨gb598, 0, none⟩ = some (.int .i64 t596) ∧ w'.cell? ⟨gb598, 1, none⟩ = some (.int .u64 t597) ∧ w'.cell? ⟨gb595, 0, none⟩ = some (.int .i64 a0_0) ∧ w'.cell? ⟨gb595, 1, none⟩ = some (.int .u64 a0_1) ∧ w'.cell? ⟨gb595, 2, none⟩ = some (.int .i64 a0_2) ∧ w'.cell? ⟨gb595, 3, none⟩ = some (.int .u64 a0_3)) (ds := []) #[O, O, O, O, O, O, O, O, O, O, O, O, O, O, O] (by kernel_rfl) rfl rfl ⟨kc BK598 0, kc BK598 1, kc BK595 0, kc BK595 1, kc BK595 2, kc BK595 3⟩ (fun hHeld => ?_); refine with_tabW cobweblaw02_FracFloors.tab4 cobweblaw02_FracFloors.bits4 (fun HT_ HW_ => ?_)
   generalize w29.drew = w48 at BK595 BK598 HB hHeld ⊢
   refine take_ (i := 0) (N := some 23) (v := ?_) (a' := ?_) #[T, O, O, O, O, O, O, O, O, O, O, O, O, O, O] rfl rfl (take_ofW HT_.out HW_.out (by kernel_rfl)) (fun _ _ _ h => h) (Or.inl ⟨by rfl, ?_⟩) hHeld ?_ ?_; rotate_left; focus (rintro w' ⟨s0, s1, s2, s3, s4, s5⟩; go_simp; with_reducible rfl)
   rotate_left; focus (simp only [Act.put, s1, s2, s3, i64_w, i32_w]; rfl)
   refine take_ (i := 2) (N := some 25) (v := ?_) (a' := ?_) #[T, O, T, O, O, O, O, O, O, O, O, O, O, O, O] rfl rfl (take_ofW HT_.out HW_.out (by kernel_rfl)) (fun _ _ _ h => h) (Or.inl ⟨by rfl, ?_⟩) hHeld ?_ ?_; rotate_left; focus (rintro w' ⟨s0, s1, s2, s3, s4, s5⟩; go_simp; with_reducible rfl)
   rotate_left; focus (simp only [Act.put, s1, s2, s3, i64_w, i32_w]; rfl)
   refine one_ (i := 1) (N := some 24) #[T, T, T, O, O, O, O, O, O, O, O, O, O, O, O] rfl rfl (one_of HT_.out (by kernel_rfl)) (by decide) (fun K hK => ?_); refine goes_ Try.func22 (by kernel_rfl) rfl #[.agg #[.int .i64 t596, .int .u64 t597]] (by rfl) rfl rfl (by (try simp only [zm, zc, zn]); first | done | rfl | (simp only [zd, zt]; rfl)) ?_
   with_reducible refine (cobweblaw02_num.calls k t596 t597 t602 t603 _ A30.out).mono ?_
   rintro e w49 ⟨v604, rfl, ho0, hb⟩; refine ⟨_, rfl, ?_⟩; have HO605 := Aside0.mk (Kd.V_lower (Kd.V_mono (ok' := fun k_ => k_ ≠ gb595 ∧ k_ ≠ gb598) ho0 (fun k_ hk_ => ⟨(kF BK595 k_ hk_), (kF BK598 k_ hk_)⟩)) (ko HB)); replace BK595 := kb BK595 hb; replace BK598 := kb BK598 hb; replace HB := kB HB hb
   (try clear hb); (try clear hb2); (try clear hk); (try clear hi); (try clear ho0)
   refine hK.out _ _ ⟨kc BK598 0, kc BK598 1, kc BK595 0, kc BK595 1, kc BK595 2, kc BK595 3⟩ (fun hHeld => ?_); clear hK K
   refine norm_ (a' := ?_) ?_ ?_; rotate_left; focus (show Act.put _ (some 24) _ = _; simp only [Act.put, s1, s2, s3, i64_w, i32_w]; rfl)
   refine one_ (i := 3) (N := some 26) #[T, T, T, T, O, O, O, O, O, O, O, O, O, O, O] rfl rfl (one_of HT_.out (by kernel_rfl)) (by decide) (fun K hK => ?_); refine goes_ Try.func18 (by kernel_rfl) rfl #[.agg #[.int .i64 a0_0, .int .u64 a0_1, .int .i64 a0_2, .int .u64 a0_3]] (by rfl) rfl rfl (by (try simp only [zm, zc, zn]); first | done | rfl | (simp only [zd, zt]; rfl)) ?_
   with_reducible refine (cobweblaw02_Old.calls k a0_0 a0_1 a0_2 a0_3 t606 t607 t610 t611 _ A31.out).mono ?_
   rintro e w50 ⟨v608, v612, rfl, ho0, ho1, hb⟩; refine ⟨_, rfl, ?_⟩; have HO609 := Aside0.mk (Kd.V_lower (Kd.V_mono (ok' := fun k_ => k_ ≠ gb595 ∧ k_ ≠ gb598) ho0 (fun k_ hk_ => ⟨(kF BK595 k_ hk_), (kF BK598 k_ hk_)⟩)) (ko HB)); have HO613 := Aside0.mk (Kd.V_lower (Kd.V_mono (ok' := fun k_ => k_ ≠ gb595 ∧ k_ ≠ gb598) ho1 (fun k_ hk_ => ⟨(kF BK595 k_ hk_), (kF BK598 k_ hk_)⟩)) (ko HB)); replace HO605 := kV HO605 hb; replace BK595 := kb BK595 hb; replace BK598 := kb BK598 hb; replace HB := kB HB hb
   (try clear hb); (try clear hb2); (try clear hk); (try clear hi); (try clear ho0); (try clear ho1)
   obtain ⟨Ao51, co51, eo51⟩ := Kd.V_slice HO609.out
   (first | subst eo51 | (injection eo51 with f1_ f2_ f3_; have f4_ := f1_.symm; have f5_ := f3_.symm; clear f1_ f2_ f3_; subst f4_; subst f5_))
   obtain ⟨Ao52, co52, eo52⟩ := Kd.V_slice HO613.out
   (first | subst eo52 | (injection eo52 with f1_ f2_ f3_; have f4_ := f1_.symm; have f5_ := f3_.symm; clear f1_ f2_ f3_; subst f4_; subst f5_))
   refine hK.out _ _ ⟨kc BK598 0, kc BK598 1, kc BK595 0, kc BK595 1, kc BK595 2, kc BK595 3⟩ (fun hHeld => ?_); clear hK K
   refine norm_ (a' := ?_) ?_ ?_; rotate_left; focus (show Act.put _ (some 26) _ = _; simp only [Act.put, s1, s2, s3, i64_w, i32_w]; rfl)
   refine one_ (i := 4) (N := some 27) #[T, T, T, T, T, O, O, O, O, O, O, O, O, O, O] rfl rfl (one_of HT_.out (by kernel_rfl)) (by decide) (fun K hK => ?_); refine goes_ Try.func23 (by kernel_rfl) rfl #[.agg #[.bool t606, .slice Ao51 t607.length co51, .bool t610, .slice Ao52 t611.length co52]] (by rfl) rfl rfl (by (try simp only [zm, zc, zn]); first | done | rfl | (simp only [zd, zt]; rfl)) ?_
   with_reducible refine (cobwebref02_Floor.calls k t606 _ _ t607 t610 (fun k_ => (k_ ≠ gb595 ∧ k_ ≠ gb598)) _ _ t611 t614 t615 _ ?side1 ?side2 ?side3 A32.out).mono ?_
   (case side1 => repeat (first | exact (Kd.V_reads' HO609.out).2.2 | (with_reducible refine Kd.C_alloc ?_ _) | (with_reducible refine Kd.C_drewN ?_ _) | (with_reducible refine Kd.C_drew ?_)))
   (case side2 => exact (Kd.V_reads' HO609.out).2.1)
   (case side3 => exact HO613.out)
   rintro e w53 ⟨v616, rfl, ho0, hb⟩; refine ⟨_, rfl, ?_⟩; have HO617 := Aside0.mk (Kd.V_lower (Kd.V_mono (ok' := fun k_ => k_ ≠ gb595 ∧ k_ ≠ gb598) ho0 (fun k_ hk_ => ⟨Or.elim hk_ (fun hs_ => hs_.1) (fun hn_ => (Kd.freshB (g := gb595) (o := .cells #[.int .i64 a0_0, .int .u64 a0_1, .int .i64 a0_2, .int .u64 a0_3] 26 (0, 0)) (kx BK595) k_ hn_)), Or.elim hk_ (fun hs_ => hs_.2) (fun hn_ => (Kd.freshB (g := gb598) (o := .cells #[.int .i64 t596, .int .u64 t597] 24 (0, 0)) (kx BK598) k_ hn_))⟩)) (ko HB)); replace HO605 := kV HO605 hb; replace HO609 := kV HO609 hb; replace HO613 := kV HO613 hb; replace BK595 := kb BK595 hb; replace BK598 := kb BK598 hb; replace HB := kB HB hb
   (try clear hb); (try clear hb2); (try clear hk); (try clear hi); (try clear ho0)
   obtain ⟨Ao54, co54, eo54⟩ := Kd.V_slice HO605.out
   (first | subst eo54 | (injection eo54 with f1_ f2_ f3_; have f4_ := f1_.symm; have f5_ := f3_.symm; clear f1_ f2_ f3_; subst f4_; subst f5_))
   obtain ⟨Ao55, co55, eo55⟩ := Kd.V_slice HO617.out
   (first | subst eo55 | (injection eo55 with f1_ f2_ f3_; have f4_ := f1_.symm; have f5_ := f3_.symm; clear f1_ f2_ f3_; subst f4_; subst f5_))
   refine hK.out _ _ ⟨kc BK598 0, kc BK598 1, kc BK595 0, kc BK595 1, kc BK595 2, kc BK595 3⟩ (fun hHeld => ?_); clear hK K
   refine norm_ (a' := ?_) ?_ ?_; rotate_left; focus (show Act.put _ (some 27) _ = _; simp only [Act.put, s1, s2, s3, i64_w, i32_w]; rfl)
   refine one_ (i := 5) (N := some 28) #[T, T, T, T, T, T, O, O, O, O, O, O, O, O, O] rfl rfl (one_of HT_.out (by kernel_rfl)) (by decide) (fun K hK => ?_); refine goes_ Try.func21 (by kernel_rfl) rfl #[.agg #[.bool t602, .slice Ao54 t603.length co54], .agg #[.bool t614, .slice Ao55 t615.length co55]] (by rfl) rfl rfl (by (try simp only [zm, zc, zn]); first | done | rfl | (simp only [zd, zt]; rfl)) ?_
   with_reducible refine (cobwebref01_Cmp.calls k t602 _ _ t603 t614 _ _ t615 t618 _ ?side1 ?side2 ?side3 ?side4 A33.out).mono ?_
   (case side1 => repeat (first | exact (Kd.V_reads' HO605.out).2.2 | (with_reducible refine Kd.C_alloc ?_ _) | (with_reducible refine Kd.C_drewN ?_ _) | (with_reducible refine Kd.C_drew ?_)))
   (case side2 => exact (Kd.V_reads' HO605.out).2.1)
   (case side3 => repeat (first | exact (Kd.V_reads' HO617.out).2.2 | (with_reducible refine Kd.C_alloc ?_ _) | (with_reducible refine Kd.C_drewN ?_ _) | (with_reducible refine Kd.C_drew ?_)))
   (case side4 => exact (Kd.V_reads' HO617.out).2.1)
   rintro e w56 ⟨rfl, hb⟩; refine ⟨_, rfl, ?_⟩; replace HO605 := kV HO605 hb; replace HO609 := kV HO609 hb; replace HO613 := kV HO613 hb; replace HO617 := kV HO617 hb; replace BK595 := kb BK595 hb; replace BK598 := kb BK598 hb; replace HB := kB HB hb
   (try clear hb); (try clear hb2); (try clear hk); (try clear hi)
   refine hK.out _ _ ⟨kc BK598 0, kc BK598 1, kc BK595 0, kc BK595 1, kc BK595 2, kc BK595 3⟩ (fun hHeld => ?_); clear hK K
   refine norm_ (a' := ?_) ?_ ?_; rotate_left; focus (show Act.put _ (some 28) _ = _; simp only [Act.put, s1, s2, s3, i64_w, i32_w]; rfl)
   refine pure_ (i := 6) (N := some 29) (v := ?_) (a' := ?_) #[T, T, T, T, T, T, T, O, O, O, O, O, O, O, O] rfl rfl (any_of HT_.out (by kernel_rfl)) (fun _ _ _ h => h) (Or.inl ⟨by rfl, ?_⟩) ?_ ?_; rotate_left; focus (intro w'; go_simp; with_reducible rfl)
   rotate_left; focus (simp only [Act.put, s1, s2, s3, i64_w, i32_w]; rfl)
   refine pure_ (i := 7) (N := some 30) (v := ?_) (a' := ?_) #[T, T, T, T, T, T, T, T, O, O, O, O, O, O, O] rfl rfl (any_of HT_.out (by kernel_rfl)) (fun _ _ _ h => h) (Or.inl ⟨by rfl, ?_⟩) ?_ ?_; rotate_left; focus (intro w'; go_simp; with_reducible rfl)
   rotate_left; focus (simp only [Act.put, s1, s2, s3, i64_w, i32_w]; rfl)
   refine pure_ (i := 8) (N := some 31) (v := undef) (a' := ?_) #[T, T, T, T, T, T, T, T, T, O, O, O, O, O, O] rfl rfl (any_of HT_.out (by kernel_rfl)) (fun _ _ _ h => h) (Or.inr ⟨by rfl, rfl⟩) ?_ ?_; rotate_left; focus (simp only [Act.put, s1, s2, s3, i64_w, i32_w]; rfl)
   refine pure_ (i := 9) (N := some 32) (v := undef) (a' := ?_) #[T, T, T, T, T, T, T, T, T, T, O, O, O, O, O] rfl rfl (any_of HT_.out (by kernel_rfl)) (fun _ _ _ h => h) (Or.inr ⟨by rfl, rfl⟩) ?_ ?_; rotate_left; focus (simp only [Act.put, s1, s2, s3, i64_w, i32_w]; rfl)
   refine pure_ (i := 10) (N := some 33) (v := undef) (a' := ?_) #[T, T, T, T, T, T, T, T, T, T, T, O, O, O, O] rfl rfl (any_of HT_.out (by kernel_rfl)) (fun _ _ _ h => h) (Or.inr ⟨by rfl, rfl⟩) ?_ ?_; rotate_left; focus (simp only [Act.put, s1, s2, s3, i64_w, i32_w]; rfl)
   refine pure_ (i := 11) (N := some 34) (v := undef) (a' := ?_) #[T, T, T, T, T, T, T, T, T, T, T, T, O, O, O] rfl rfl (any_of HT_.out (by kernel_rfl)) (fun _ _ _ h => h) (Or.inr ⟨by rfl, rfl⟩) ?_ ?_; rotate_left; focus (simp only [Act.put, s1, s2, s3, i64_w, i32_w]; rfl)
   refine pure_ (i := 12) (N := some 35) (v := undef) (a' := ?_) #[T, T, T, T, T, T, T, T, T, T, T, T, T, O, O] rfl rfl (any_of HT_.out (by kernel_rfl)) (fun _ _ _ h => h) (Or.inr ⟨by rfl, rfl⟩) ?_ ?_; rotate_left; focus (simp only [Act.put, s1, s2, s3, i64_w, i32_w]; rfl)
   refine pure_ (i := 13) (N := some 36) (v := undef) (a' := ?_) #[T, T, T, T, T, T, T, T, T, T, T, T, T, T, O] rfl rfl (any_of HT_.out (by kernel_rfl)) (fun _ _ _ h => h) (Or.inr ⟨by rfl, rfl⟩) ?_ ?_; rotate_left; focus (simp only [Act.put, s1, s2, s3, i64_w, i32_w]; rfl)
   refine pure_ (i := 14) (N := some 37) (v := ?_) (a' := ?_) #[T, T, T, T, T, T, T, T, T, T, T, T, T, T, T] rfl rfl (any_of HT_.out (by kernel_rfl)) (fun _ _ _ h => h) (Or.inl ⟨by rfl, ?_⟩) ?_ ?_; rotate_left; focus (intro w'; go_simp; with_reducible rfl)
   rotate_left; focus (simp only [Act.put, s1, s2, s3, i64_w, i32_w]; rfl)
   refine done_ (done_of HT_.out (by kernel_rfl)) ?_
   try go_wp2
   go_meet
   case rel => exact ⟨_, (true), (by first | rfl | (simp; done) | (simp [*]; done)), H', ⟨by first | omega | exact Nat.le_refl _⟩, ⟨kx BK595⟩, ⟨kx BK598⟩, ⟨ky HB⟩⟩
  rw [if_pos c34] at H
  have c34b0 : (t618 == 0) = true := beq_iff_eq.mpr c34; have c34b1 : (t618 != 0) = false := bne_eq_false_iff_eq.mpr c34; clear c34
  (first | rw [c34b0] | (simp only [i64_w, i32_w]; rw [c34b0]) | skip)
  replace H := Option.bind_eq_some_iff.mp H; obtain ⟨⟨t619, t620⟩, A350, H⟩ := H; replace H : ((frac_Cmp.f k t596 t597 t619 t620 a0_0 a0_1 a0_2 a0_3).bind fun t621 => (cobweblaw02_FracFloors.j0 k (decide (t621 > 0)) a0_0 a0_1 a0_2 a0_3 t596 t597)) = some r := H; have A35 := Aside0.mk A350; clear A350; replace H := Option.bind_eq_some_iff.mp H; obtain ⟨t621, A360, H⟩ := H; replace H : (cobweblaw02_FracFloors.j0 k (decide (t621 > 0)) a0_0 a0_1 a0_2 a0_3 t596 t597) = some r := H; have A36 := Aside0.mk A360; clear A360; have H' := Aside0.mk H; clear H
  try go_wp2
  replace BK595 := Aside0.mk (blk_drew BK595.out); replace BK598 := Aside0.mk (blk_drew BK598.out); replace HB := Aside0.mk (below_drew1 HB.out); refine start_ (n := 15) (S := fun w' => w'.cell? ⟨gb598, 0, none⟩ = some (.int .i64 t596) ∧ w'.cell? ⟨gb598, 1, none⟩ = some (.int .u64 t597) ∧ w'.cell? ⟨gb595, 0, none⟩ = some (.int .i64 a0_0) ∧ w'.cell? ⟨gb595, 1, none⟩ = some (.int .u64 a0_1) ∧ w'.cell? ⟨gb595, 2, none⟩ = some (.int .i64 a0_2) ∧ w'.cell? ⟨gb595, 3, none⟩ = some (.int .u64 a0_3)) (ds := []) #[O, O, O, O, O, O, O, O, O, O, O, O, O, O, O] (by kernel_rfl) rfl rfl ⟨kc BK598 0, kc BK598 1, kc BK595 0, kc BK595 1, kc BK595 2, kc BK595 3⟩ (fun hHeld => ?_); refine with_tabW cobweblaw02_FracFloors.tab4 cobweblaw02_FracFloors.bits4 (fun HT_ HW_ => ?_)
  generalize w29.drew = w37 at BK595 BK598 HB hHeld ⊢
  refine take_ (i := 0) (N := some 23) (v := ?_) (a' := ?_) #[T, O, O, O, O, O, O, O, O, O, O, O, O, O, O] rfl rfl (take_ofW HT_.out HW_.out (by kernel_rfl)) (fun _ _ _ h => h) (Or.inl ⟨by rfl, ?_⟩) hHeld ?_ ?_; rotate_left; focus (rintro w' ⟨s0, s1, s2, s3, s4, s5⟩; go_simp; with_reducible rfl)
  rotate_left; focus (simp only [Act.put, s1, s2, s3, i64_w, i32_w]; rfl)
  refine take_ (i := 2) (N := some 25) (v := ?_) (a' := ?_) #[T, O, T, O, O, O, O, O, O, O, O, O, O, O, O] rfl rfl (take_ofW HT_.out HW_.out (by kernel_rfl)) (fun _ _ _ h => h) (Or.inl ⟨by rfl, ?_⟩) hHeld ?_ ?_; rotate_left; focus (rintro w' ⟨s0, s1, s2, s3, s4, s5⟩; go_simp; with_reducible rfl)
  rotate_left; focus (simp only [Act.put, s1, s2, s3, i64_w, i32_w]; rfl)
  refine one_ (i := 1) (N := some 24) #[T, T, T, O, O, O, O, O, O, O, O, O, O, O, O] rfl rfl (one_of HT_.out (by kernel_rfl)) (by decide) (fun K hK => ?_); refine goes_ Try.func22 (by kernel_rfl) rfl #[.agg #[.int .i64 t596, .int .u64 t597]] (by rfl) rfl rfl (by (try simp only [zm, zc, zn]); first | done | rfl | (simp only [zd, zt]; rfl)) ?_
  with_reducible refine (cobweblaw02_num.calls k t596 t597 t602 t603 _ A30.out).mono ?_
  rintro e w38 ⟨v604, rfl, ho0, hb⟩; refine ⟨_, rfl, ?_⟩; have HO605 := Aside0.mk (Kd.V_lower (Kd.V_mono (ok' := fun k_ => k_ ≠ gb595 ∧ k_ ≠ gb598) ho0 (fun k_ hk_ => ⟨(kF BK595 k_ hk_), (kF BK598 k_ hk_)⟩)) (ko HB)); replace BK595 := kb BK595 hb; replace BK598 := kb BK598 hb; replace HB := kB HB hb
  (try clear hb); (try clear hb2); (try clear hk); (try clear hi); (try clear ho0)
  refine hK.out _ _ ⟨kc BK598 0, kc BK598 1, kc BK595 0, kc BK595 1, kc BK595 2, kc BK595 3⟩ (fun hHeld => ?_); clear hK K
  refine norm_ (a' := ?_) ?_ ?_; rotate_left; focus (show Act.put _ (some 24) _ = _; simp only [Act.put, s1, s2, s3, i64_w, i32_w]; rfl)
  refine one_ (i := 3) (N := some 26) #[T, T, T, T, O, O, O, O, O, O, O, O, O, O, O] rfl rfl (one_of HT_.out (by kernel_rfl)) (by decide) (fun K hK => ?_); refine goes_ Try.func18 (by kernel_rfl) rfl #[.agg #[.int .i64 a0_0, .int .u64 a0_1, .int .i64 a0_2, .int .u64 a0_3]] (by rfl) rfl rfl (by (try simp only [zm, zc, zn]); first | done | rfl | (simp only [zd, zt]; rfl)) ?_
  with_reducible refine (cobweblaw02_Old.calls k a0_0 a0_1 a0_2 a0_3 t606 t607 t610 t611 _ A31.out).mono ?_
  rintro e w39 ⟨v608, v612, rfl, ho0, ho1, hb⟩; refine ⟨_, rfl, ?_⟩; have HO609 := Aside0.mk (Kd.V_lower (Kd.V_mono (ok' := fun k_ => k_ ≠ gb595 ∧ k_ ≠ gb598) ho0 (fun k_ hk_ => ⟨(kF BK595 k_ hk_), (kF BK598 k_ hk_)⟩)) (ko HB)); have HO613 := Aside0.mk (Kd.V_lower (Kd.V_mono (ok' := fun k_ => k_ ≠ gb595 ∧ k_ ≠ gb598) ho1 (fun k_ hk_ => ⟨(kF BK595 k_ hk_), (kF BK598 k_ hk_)⟩)) (ko HB)); replace HO605 := kV HO605 hb; replace BK595 := kb BK595 hb; replace BK598 := kb BK598 hb; replace HB := kB HB hb
  (try clear hb); (try clear hb2); (try clear hk); (try clear hi); (try clear ho0); (try clear ho1)
  obtain ⟨Ao40, co40, eo40⟩ := Kd.V_slice HO609.out
  (first | subst eo40 | (injection eo40 with f1_ f2_ f3_; have f4_ := f1_.symm; have f5_ := f3_.symm; clear f1_ f2_ f3_; subst f4_; subst f5_))
  obtain ⟨Ao41, co41, eo41⟩ := Kd.V_slice HO613.out
  (first | subst eo41 | (injection eo41 with f1_ f2_ f3_; have f4_ := f1_.symm; have f5_ := f3_.symm; clear f1_ f2_ f3_; subst f4_; subst f5_))
  refine hK.out _ _ ⟨kc BK598 0, kc BK598 1, kc BK595 0, kc BK595 1, kc BK595 2, kc BK595 3⟩ (fun hHeld => ?_); clear hK K
  refine norm_ (a' := ?_) ?_ ?_; rotate_left; focus (show Act.put _ (some 26) _ = _; simp only [Act.put, s1, s2, s3, i64_w, i32_w]; rfl)
  refine one_ (i := 4) (N := some 27) #[T, T, T, T, T, O, O, O, O, O, O, O, O, O, O] rfl rfl (one_of HT_.out (by kernel_rfl)) (by decide) (fun K hK => ?_); refine goes_ Try.func23 (by kernel_rfl) rfl #[.agg #[.bool t606, .slice Ao40 t607.length co40, .bool t610, .slice Ao41 t611.length co41]] (by rfl) rfl rfl (by (try simp only [zm, zc, zn]); first | done | rfl | (simp only [zd, zt]; rfl)) ?_
  with_reducible refine (cobwebref02_Floor.calls k t606 _ _ t607 t610 (fun k_ => (k_ ≠ gb595 ∧ k_ ≠ gb598)) _ _ t611 t614 t615 _ ?side1 ?side2 ?side3 A32.out).mono ?_
  (case side1 => repeat (first | exact (Kd.V_reads' HO609.out).2.2 | (with_reducible refine Kd.C_alloc ?_ _) | (with_reducible refine Kd.C_drewN ?_ _) | (with_reducible refine Kd.C_drew ?_)))
  (case side2 => exact (Kd.V_reads' HO609.out).2.1)
  (case side3 => exact HO613.out)
  rintro e w42 ⟨v616, rfl, ho0, hb⟩; refine ⟨_, rfl, ?_⟩; have HO617 := Aside0.mk (Kd.V_lower (Kd.V_mono (ok' := fun k_ => k_ ≠ gb595 ∧ k_ ≠ gb598) ho0 (fun k_ hk_ => ⟨Or.elim hk_ (fun hs_ => hs_.1) (fun hn_ => (Kd.freshB (g := gb595) (o := .cells #[.int .i64 a0_0, .int .u64 a0_1, .int .i64 a0_2, .int .u64 a0_3] 26 (0, 0)) (kx BK595) k_ hn_)), Or.elim hk_ (fun hs_ => hs_.2) (fun hn_ => (Kd.freshB (g := gb598) (o := .cells #[.int .i64 t596, .int .u64 t597] 24 (0, 0)) (kx BK598) k_ hn_))⟩)) (ko HB)); replace HO605 := kV HO605 hb; replace HO609 := kV HO609 hb; replace HO613 := kV HO613 hb; replace BK595 := kb BK595 hb; replace BK598 := kb BK598 hb; replace HB := kB HB hb
  (try clear hb); (try clear hb2); (try clear hk); (try clear hi); (try clear ho0)
  obtain ⟨Ao43, co43, eo43⟩ := Kd.V_slice HO605.out
  (first | subst eo43 | (injection eo43 with f1_ f2_ f3_; have f4_ := f1_.symm; have f5_ := f3_.symm; clear f1_ f2_ f3_; subst f4_; subst f5_))
  obtain ⟨Ao44, co44, eo44⟩ := Kd.V_slice HO617.out
  (first | subst eo44 | (injection eo44 with f1_ f2_ f3_; have f4_ := f1_.symm; have f5_ := f3_.symm; clear f1_ f2_ f3_; subst f4_; subst f5_))
  refine hK.out _ _ ⟨kc BK598 0, kc BK598 1, kc BK595 0, kc BK595 1, kc BK595 2, kc BK595 3⟩ (fun hHeld => ?_); clear hK K
  refine norm_ (a' := ?_) ?_ ?_; rotate_left; focus (show Act.put _ (some 27) _ = _; simp only [Act.put, s1, s2, s3, i64_w, i32_w]; rfl)
  refine one_ (i := 5) (N := some 28) #[T, T, T, T, T, T, O, O, O, O, O, O, O, O, O] rfl rfl (one_of HT_.out (by kernel_rfl)) (by decide) (fun K hK => ?_); refine goes_ Try.func21 (by kernel_rfl) rfl #[.agg #[.bool t602, .slice Ao43 t603.length co43], .agg #[.bool t614, .slice Ao44 t615.length co44]] (by rfl) rfl rfl (by (try simp only [zm, zc, zn]); first | done | rfl | (simp only [zd, zt]; rfl)) ?_
  with_reducible refine (cobwebref01_Cmp.calls k t602 _ _ t603 t614 _ _ t615 t618 _ ?side1 ?side2 ?side3 ?side4 A33.out).mono ?_
  (case side1 => repeat (first | exact (Kd.V_reads' HO605.out).2.2 | (with_reducible refine Kd.C_alloc ?_ _) | (with_reducible refine Kd.C_drewN ?_ _) | (with_reducible refine Kd.C_drew ?_)))
  (case side2 => exact (Kd.V_reads' HO605.out).2.1)
  (case side3 => repeat (first | exact (Kd.V_reads' HO617.out).2.2 | (with_reducible refine Kd.C_alloc ?_ _) | (with_reducible refine Kd.C_drewN ?_ _) | (with_reducible refine Kd.C_drew ?_)))
  (case side4 => exact (Kd.V_reads' HO617.out).2.1)
  rintro e w45 ⟨rfl, hb⟩; refine ⟨_, rfl, ?_⟩; replace HO605 := kV HO605 hb; replace HO609 := kV HO609 hb; replace HO613 := kV HO613 hb; replace HO617 := kV HO617 hb; replace BK595 := kb BK595 hb; replace BK598 := kb BK598 hb; replace HB := kB HB hb
  (try clear hb); (try clear hb2); (try clear hk); (try clear hi)
  refine hK.out _ _ ⟨kc BK598 0, kc BK598 1, kc BK595 0, kc BK595 1, kc BK595 2, kc BK595 3⟩ (fun hHeld => ?_); clear hK K
  refine norm_ (a' := ?_) ?_ ?_; rotate_left; focus (show Act.put _ (some 28) _ = _; simp only [Act.put, s1, s2, s3, i64_w, i32_w]; rfl)
  refine pure_ (i := 6) (N := some 29) (v := ?_) (a' := ?_) #[T, T, T, T, T, T, T, O, O, O, O, O, O, O, O] rfl rfl (any_of HT_.out (by kernel_rfl)) (fun _ _ _ h => h) (Or.inl ⟨by rfl, ?_⟩) ?_ ?_; rotate_left; focus (intro w'; go_simp; with_reducible rfl)
  rotate_left; focus (simp only [Act.put, s1, s2, s3, i64_w, i32_w]; rfl)
  refine pure_ (i := 7) (N := some 30) (v := ?_) (a' := ?_) #[T, T, T, T, T, T, T, T, O, O, O, O, O, O, O] rfl rfl (any_of HT_.out (by kernel_rfl)) (fun _ _ _ h => h) (Or.inl ⟨by rfl, ?_⟩) ?_ ?_; rotate_left; focus (intro w'; go_simp; with_reducible rfl)
  rotate_left; focus (simp only [Act.put, s1, s2, s3, i64_w, i32_w]; rfl)
  refine take_ (i := 8) (N := some 31) (v := ?_) (a' := ?_) #[T, T, T, T, T, T, T, T, T, O, O, O, O, O, O] rfl rfl (take_ofW HT_.out HW_.out (by kernel_rfl)) (fun _ _ _ h => h) (Or.inl ⟨by rfl, ?_⟩) hHeld ?_ ?_; rotate_left; focus (rintro w' ⟨s0, s1, s2, s3, s4, s5⟩; go_simp; with_reducible rfl)
  rotate_left; focus (simp only [Act.put, s1, s2, s3, i64_w, i32_w]; rfl)
  refine take_ (i := 11) (N := some 34) (v := ?_) (a' := ?_) #[T, T, T, T, T, T, T, T, T, O, O, T, O, O, O] rfl rfl (take_ofW HT_.out HW_.out (by kernel_rfl)) (fun _ _ _ h => h) (Or.inl ⟨by rfl, ?_⟩) hHeld ?_ ?_; rotate_left; focus (rintro w' ⟨s0, s1, s2, s3, s4, s5⟩; go_simp; with_reducible rfl)
  rotate_left; focus (simp only [Act.put, s1, s2, s3, i64_w, i32_w]; rfl)
  refine one_ (i := 9) (N := some 32) #[T, T, T, T, T, T, T, T, T, T, O, T, O, O, O] rfl rfl (one_of HT_.out (by kernel_rfl)) (by decide) (fun K hK => ?_); refine goes_ Try.func24 (by kernel_rfl) rfl #[.int .i64 1] (by rfl) rfl rfl (by (try simp only [zm, zc, zn]); first | done | rfl | (simp only [zd, zt]; rfl)) ?_
  with_reducible refine (wide_Of.calls 1 t619 t620 _ A35.out).mono ?_
  rintro e w46 ⟨rfl, hb⟩; refine ⟨_, rfl, ?_⟩; replace HO605 := kV HO605 hb; replace HO609 := kV HO609 hb; replace HO613 := kV HO613 hb; replace HO617 := kV HO617 hb; replace BK595 := kb BK595 hb; replace BK598 := kb BK598 hb; replace HB := kB HB hb
  (try clear hb); (try clear hb2); (try clear hk); (try clear hi)
  refine hK.out _ _ ⟨kc BK598 0, kc BK598 1, kc BK595 0, kc BK595 1, kc BK595 2, kc BK595 3⟩ (fun hHeld => ?_); clear hK K
  refine norm_ (a' := ?_) ?_ ?_; rotate_left; focus (show Act.put _ (some 32) _ = _; simp only [Act.put, s1, s2, s3, i64_w, i32_w]; rfl)
  refine pure_ (i := 10) (N := some 33) (v := ?_) (a' := ?_) #[T, T, T, T, T, T, T, T, T, T, T, T, O, O, O] rfl rfl (any_of HT_.out (by kernel_rfl)) (fun _ _ _ h => h) (Or.inl ⟨by rfl, ?_⟩) ?_ ?_; rotate_left; focus (intro w'; go_simp; with_reducible rfl)
  rotate_left; focus (simp only [Act.put, s1, s2, s3, i64_w, i32_w]; rfl)
  refine one_ (i := 12) (N := some 35) #[T, T, T, T, T, T, T, T, T, T, T, T, T, O, O] rfl rfl (one_of HT_.out (by kernel_rfl)) (by decide) (fun K hK => ?_); refine goes_ Try.func14 (by kernel_rfl) rfl #[.agg #[.int .i64 t596, .int .u64 t597, .int .i64 t619, .int .u64 t620], .agg #[.int .i64 a0_0, .int .u64 a0_1, .int .i64 a0_2, .int .u64 a0_3]] (by rfl) rfl rfl (by (try simp only [zm, zc, zn]); first | done | rfl | (simp only [zd, zt]; rfl)) ?_
  with_reducible refine (frac_Cmp.calls k t596 t597 t619 t620 a0_0 a0_1 a0_2 a0_3 t621 _ A36.out).mono ?_
  rintro e w47 ⟨rfl, hb⟩; refine ⟨_, rfl, ?_⟩; replace HO605 := kV HO605 hb; replace HO609 := kV HO609 hb; replace HO613 := kV HO613 hb; replace HO617 := kV HO617 hb; replace BK595 := kb BK595 hb; replace BK598 := kb BK598 hb; replace HB := kB HB hb
  (try clear hb); (try clear hb2); (try clear hk); (try clear hi)
  refine hK.out _ _ ⟨kc BK598 0, kc BK598 1, kc BK595 0, kc BK595 1, kc BK595 2, kc BK595 3⟩ (fun hHeld => ?_); clear hK K
  refine norm_ (a' := ?_) ?_ ?_; rotate_left; focus (show Act.put _ (some 35) _ = _; simp only [Act.put, s1, s2, s3, i64_w, i32_w]; rfl)
  refine pure_ (i := 13) (N := some 36) (v := ?_) (a' := ?_) #[T, T, T, T, T, T, T, T, T, T, T, T, T, T, O] rfl rfl (any_of HT_.out (by kernel_rfl)) (fun _ _ _ h => h) (Or.inl ⟨by rfl, ?_⟩) ?_ ?_; rotate_left; focus (intro w'; go_simp; with_reducible rfl)
  rotate_left; focus (simp only [Act.put, s1, s2, s3, i64_w, i32_w]; rfl)
  refine pure_ (i := 14) (N := some 37) (v := ?_) (a' := ?_) #[T, T, T, T, T, T, T, T, T, T, T, T, T, T, T] rfl rfl (any_of HT_.out (by kernel_rfl)) (fun _ _ _ h => h) (Or.inl ⟨by rfl, ?_⟩) ?_ ?_; rotate_left; focus (intro w'; go_simp; with_reducible rfl)
  rotate_left; focus (simp only [Act.put, s1, s2, s3, i64_w, i32_w]; rfl)
  refine done_ (done_of HT_.out (by kernel_rfl)) ?_
  try go_wp2
  go_meet
  case rel => exact ⟨_, (decide (t621 > 0)), (by first | rfl | (simp; done) | (simp [*]; done)), H', ⟨by first | omega | exact Nat.le_refl _⟩, ⟨kx BK595⟩, ⟨kx BK598⟩, ⟨ky HB⟩⟩
 case rest =>
  clear HC21; try clear c1; try clear c2; try clear p2; try clear c3; try clear c14; try clear c18; try clear c21; try clear c22; try clear c23; try clear c24; try clear c34; try clear c34b0; try clear c34b1
  obtain ⟨kq, x37_20, rfl, HA, HJ20, BK595, BK598, HB⟩ := hcut
  cases kq with
  | zero => exact absurd HA.out (by simp [cobweblaw02_FracFloors.j0])
  | succ kj20 =>
   have H := HA.out; clear HA
   simp only [cobweblaw02_FracFloors.j0] at H
   by_cases c57 : x37_20 = true
   ·subst c57
    have H1 : (some false) = some r := by rw [if_pos rfl] at H; exact H
    clear H; have H := H1; clear H1; obtain rfl := Option.some.inj H
    go_wp2
    go_ret
    exact ⟨by first | rfl | (simp [errW_none, errW_some] <;> rfl) | (simp [*, errW_none, errW_some] <;> rfl), ky HB⟩
   replace c57 := Bool.eq_false_iff.mpr c57; subst c57
   have H1 : ((wide_Of.f 1).bind fun bt622 => ((wide_Add.f t596 t597 bt622.1 bt622.2).bind fun bt624 => ((cobweblaw02_alive.f kj20).bind fun t628 => (if t628 = true then (if bt624.2.2 = true then ((wide_Of.f 1).bind fun bt629 => ((frac_Cmp.f kj20 bt624.1 bt624.2.1 bt629.1 bt629.2 a0_0 a0_1 a0_2 a0_3).bind fun t631 => (some (decide (t631 > 0))))) else (some true)) else (none))))) = some r := by rw [if_neg (show ¬ (false = true) by decide)] at H; exact H
   clear H; have H := H1; clear H1; replace H := Option.bind_eq_some_iff.mp H; obtain ⟨⟨t622, t623⟩, A580, H⟩ := H; replace H : ((wide_Add.f t596 t597 t622 t623).bind fun bt624 => ((cobweblaw02_alive.f kj20).bind fun t628 => (if t628 = true then (if bt624.2.2 = true then ((wide_Of.f 1).bind fun bt629 => ((frac_Cmp.f kj20 bt624.1 bt624.2.1 bt629.1 bt629.2 a0_0 a0_1 a0_2 a0_3).bind fun t631 => (some (decide (t631 > 0))))) else (some true)) else (none)))) = some r := H; have A58 := Aside0.mk A580; clear A580; replace H := Option.bind_eq_some_iff.mp H; obtain ⟨⟨t624, t625, t626⟩, A590, H⟩ := H; replace H : ((cobweblaw02_alive.f kj20).bind fun t628 => (if t628 = true then (if t626 = true then ((wide_Of.f 1).bind fun bt629 => ((frac_Cmp.f kj20 t624 t625 bt629.1 bt629.2 a0_0 a0_1 a0_2 a0_3).bind fun t631 => (some (decide (t631 > 0))))) else (some true)) else (none))) = some r := H; have A59 := Aside0.mk A590; clear A590; replace H := Option.bind_eq_some_iff.mp H; obtain ⟨t628, A600, H⟩ := H; replace H : (if t628 = true then (if t626 = true then ((wide_Of.f 1).bind fun bt629 => ((frac_Cmp.f kj20 t624 t625 bt629.1 bt629.2 a0_0 a0_1 a0_2 a0_3).bind fun t631 => (some (decide (t631 > 0))))) else (some true)) else (none)) = some r := H; have A60 := Aside0.mk A600; clear A600
   by_cases c61 : t628 = true
   rotate_left
   ·replace c61 := Bool.eq_false_iff.mpr c61; subst c61
    have H1 : (none) = some r := by rw [if_neg (show ¬ (false = true) by decide)] at H; exact H
    clear H; have H := H1; clear H1; exact absurd H (by simp)

   subst c61
   have H1 : (if t626 = true then ((wide_Of.f 1).bind fun bt629 => ((frac_Cmp.f kj20 t624 t625 bt629.1 bt629.2 a0_0 a0_1 a0_2 a0_3).bind fun t631 => (some (decide (t631 > 0))))) else (some true)) = some r := by rw [if_pos rfl] at H; exact H
   clear H; have H := H1; clear H1
   by_cases c62 : t626 = true
   rotate_left
   ·replace c62 := Bool.eq_false_iff.mpr c62; subst c62
    have H1 : (some true) = some r := by rw [if_neg (show ¬ (false = true) by decide)] at H; exact H
    clear H; have H := H1; clear H1; obtain rfl := Option.some.inj H
    try go_wp2
    replace BK595 := Aside0.mk (blk_drew BK595.out); replace BK598 := Aside0.mk (blk_drew BK598.out); replace HB := Aside0.mk (below_drew1 HB.out); refine start_ (n := 9) (S := fun w' => w'.cell? ⟨gb598, 0, none⟩ = some (.int .i64 t596) ∧ w'.cell? ⟨gb598, 1, none⟩ = some (.int .u64 t597)) (ds := []) #[O, O, O, O, O, O, O, O, O] (by kernel_rfl) rfl rfl ⟨kc BK598 0, kc BK598 1⟩ (fun hHeld => ?_); refine with_tabW cobweblaw02_FracFloors.tab6 cobweblaw02_FracFloors.bits6 (fun HT_ HW_ => ?_)
    generalize wc.drew = w77 at BK595 BK598 HB hHeld ⊢
    refine take_ (i := 0) (N := some 39) (v := ?_) (a' := ?_) #[T, O, O, O, O, O, O, O, O] rfl rfl (take_ofW HT_.out HW_.out (by kernel_rfl)) (fun _ _ _ h => h) (Or.inl ⟨by rfl, ?_⟩) hHeld ?_ ?_; rotate_left; focus (rintro w' ⟨s0, s1⟩; go_simp; with_reducible rfl)
    rotate_left; focus (simp only [Act.put, s1, s2, s3, i64_w, i32_w]; rfl)
    refine join_ (σ := Nat) 2 #[T, T, T, T, T, T, T, O, O] (fun s_ => [(40, .agg #[.int .i64 t622, .int .u64 t623]), (41, .tuple #[.agg #[.int .i64 t624, .int .u64 t625], .bool false]), (4, .pointer (some ⟨s_, 0, none⟩)), (38, .tuple #[.agg #[.int .i64 t624, .int .u64 t625], .bool false]), (42, .agg #[.int .i64 t624, .int .u64 t625]), (43, .bool false)]) (fun s_ w' => (w'.cell? ⟨gb598, 0, none⟩ = some (.int .i64 t596) ∧ w'.cell? ⟨gb598, 1, none⟩ = some (.int .u64 t597)) ∧ (w'.heap[gb595]? = some (.cells #[.int .i64 a0_0, .int .u64 a0_1, .int .i64 a0_2, .int .u64 a0_3] 26 (0, 0))) ∧ (w'.heap[gb598]? = some (.cells #[.int .i64 t596, .int .u64 t597] 24 (0, 0))) ∧ (w'.heap[s_]? = some (.cells #[.int .i64 0, .int .u64 0] 24 (0, 0))) ∧ (w.heap.size ≤ s_) ∧ (w.heap.size ≤ s_) ∧ (gb595 ≠ s_) ∧ (s_ ≠ gb595) ∧ (gb598 ≠ s_) ∧ (s_ ≠ gb598) ∧ (Below w.heap.size w w')) ?_ ?_; rotate_left
    ·intro hCont; refine two_ (i := 1) (j := 6) (Ni := some 40) (Nj := some 4) #[T, T, O, O, O, O, O, O, O] #[T, O, O, O, O, O, T, O, O] rfl rfl rfl rfl (two_of HT_.out (by kernel_rfl)) (by decide) (by decide) (fun K hK => ?_) (fun K hK => ?_)
     ·skip; refine goes_ Try.func24 (by kernel_rfl) rfl #[.int .i64 1] (by rfl) rfl rfl (by (try simp only [zm, zc, zn]); first | done | rfl | (simp only [zd, zt]; rfl)) ?_
      with_reducible refine (wide_Of.calls 1 t622 t623 _ A58.out).mono ?_
      rintro e w78 ⟨rfl, hb⟩; refine ⟨_, rfl, ?_⟩; replace BK595 := kb BK595 hb; replace BK598 := kb BK598 hb; replace HB := kB HB hb
      (try clear hb); (try clear hb2); (try clear hk); (try clear hi)
      refine hK.out _ _ ⟨kc BK598 0, kc BK598 1⟩ (fun hHeld => ?_); clear hK K
      refine norm_ (a' := ?_) ?_ ?_; rotate_left; focus (show Act.put _ (some 40) _ = _; simp only [Act.put, s1, s2, s3, i64_w, i32_w]; rfl)
      refine two_ (i := 2) (j := 6) (Ni := some 41) (Nj := some 4) #[T, T, T, O, O, O, O, O, O] #[T, T, O, O, O, O, T, O, O] rfl rfl rfl rfl (two_of HT_.out (by kernel_rfl)) (by decide) (by decide) (fun K hK => ?_) (fun K hK => ?_)
      ·skip; refine goes_ Try.func25 (by kernel_rfl) rfl #[.agg #[.int .i64 t596, .int .u64 t597], .agg #[.int .i64 t622, .int .u64 t623]] (by rfl) rfl rfl (by (try simp only [zm, zc, zn]); first | done | rfl | (simp only [zd, zt]; rfl)) ?_
       with_reducible refine (wide_Add.calls t596 t597 t622 t623 t624 t625 false _ A59.out).mono ?_
       rintro e w79 ⟨rfl, hb⟩; refine ⟨_, rfl, ?_⟩; replace BK595 := kb BK595 hb; replace BK598 := kb BK598 hb; replace HB := kB HB hb
       (try clear hb); (try clear hb2); (try clear hk); (try clear hi)
       refine hK.out _ _ ⟨kc BK598 0, kc BK598 1⟩ (fun hHeld => ?_); clear hK K
       refine norm_ (a' := ?_) ?_ ?_; rotate_left; focus (show Act.put _ (some 41) _ = _; simp only [Act.put, s1, s2, s3, i64_w, i32_w]; rfl)
       refine pure_ (i := 3) (N := some 38) (v := ?_) (a' := ?_) #[T, T, T, T, O, O, O, O, O] rfl rfl (any_of HT_.out (by kernel_rfl)) (fun _ _ _ h => h) (Or.inl ⟨by rfl, ?_⟩) ?_ ?_; rotate_left; focus (intro w'; go_simp; with_reducible rfl)
       rotate_left; focus (simp only [Act.put, s1, s2, s3, i64_w, i32_w]; rfl)
       refine pure_ (i := 4) (N := some 42) (v := ?_) (a' := ?_) #[T, T, T, T, T, O, O, O, O] rfl rfl (any_of HT_.out (by kernel_rfl)) (fun _ _ _ h => h) (Or.inl ⟨by rfl, ?_⟩) ?_ ?_; rotate_left; focus (intro w'; go_simp; with_reducible rfl)
       rotate_left; focus (simp only [Act.put, s1, s2, s3, i64_w, i32_w]; rfl)
       refine pure_ (i := 5) (N := some 43) (v := ?_) (a' := ?_) #[T, T, T, T, T, T, O, O, O] rfl rfl (any_of HT_.out (by kernel_rfl)) (fun _ _ _ h => h) (Or.inl ⟨by rfl, ?_⟩) ?_ ?_; rotate_left; focus (intro w'; go_simp; with_reducible rfl)
       rotate_left; focus (simp only [Act.put, s1, s2, s3, i64_w, i32_w]; rfl)
       refine one_ (i := 6) (N := some 4) #[T, T, T, T, T, T, T, O, O] rfl rfl (one_of HT_.out (by kernel_rfl)) (by decide) (fun K hK => ?_)
       refine box_step ?hg (N := 4) ?hd (cs := #[.int .i64 0, .int .u64 0]) (t := 24) ?hr ?_; (case hd => rfl); (case hg => rfl); (case hr => first | (go_simp; done) | (go_simp; rfl))
       intro gb627 hg w80 hbox hb; have BK627 := Aside0.mk (hbox); have GW627 := kS HB hg; have GE627 := kS HB hg; have NB595_627 := kN BK595 hg; have NB627_595 := kM BK595 hg; have NB598_627 := kN BK598 hg; have NB627_598 := kM BK598 hg; replace BK595 := kb BK595 hb; replace BK598 := kb BK598 hb; replace HB := kB HB hb; clear hb hbox hg; refine hK.out _ _ ⟨kc BK598 0, kc BK598 1⟩ (fun hHeld => ?_); clear hK K
       refine norm_ (a' := ?_) ?_ ?_; rotate_left; focus (show Act.put _ (some 4) _ = _; simp only [Act.put, s1, s2, s3, i64_w, i32_w]; rfl)
       exact norm_ (by simp only [putAll, Act.put, s1, s2, s3]) (hCont (gb627) _ ⟨hHeld, (kx BK595), (kx BK598), (kx BK627), GW627.out, GE627.out, NB595_627.out, NB627_595.out, NB598_627.out, NB627_598.out, (ky HB)⟩)
      ·skip
       refine box_step ?hg (N := 4) ?hd (cs := #[.int .i64 0, .int .u64 0]) (t := 24) ?hr ?_; (case hd => rfl); (case hg => rfl); (case hr => first | (go_simp; done) | (go_simp; rfl))
       intro gb627 hg w79 hbox hb; have BK627 := Aside0.mk (hbox); have GW627 := kS HB hg; have GE627 := kS HB hg; have NB595_627 := kN BK595 hg; have NB627_595 := kM BK595 hg; have NB598_627 := kN BK598 hg; have NB627_598 := kM BK598 hg; replace BK595 := kb BK595 hb; replace BK598 := kb BK598 hb; replace HB := kB HB hb; clear hb hbox hg; refine hK.out _ _ ⟨kc BK598 0, kc BK598 1⟩ (fun hHeld => ?_); clear hK K
       refine norm_ (a' := ?_) ?_ ?_; rotate_left; focus (show Act.put _ (some 4) _ = _; simp only [Act.put, s1, s2, s3, i64_w, i32_w]; rfl)
       refine one_ (i := 2) (N := some 41) #[T, T, T, O, O, O, T, O, O] rfl rfl (one_of HT_.out (by kernel_rfl)) (by decide) (fun K hK => ?_); refine goes_ Try.func25 (by kernel_rfl) rfl #[.agg #[.int .i64 t596, .int .u64 t597], .agg #[.int .i64 t622, .int .u64 t623]] (by rfl) rfl rfl (by (try simp only [zm, zc, zn]); first | done | rfl | (simp only [zd, zt]; rfl)) ?_
       with_reducible refine (wide_Add.calls t596 t597 t622 t623 t624 t625 false _ A59.out).mono ?_
       rintro e w80 ⟨rfl, hb⟩; refine ⟨_, rfl, ?_⟩; replace BK595 := kb BK595 hb; replace BK598 := kb BK598 hb; replace BK627 := kb BK627 hb; replace HB := kB HB hb
       (try clear hb); (try clear hb2); (try clear hk); (try clear hi)
       refine hK.out _ _ ⟨kc BK598 0, kc BK598 1⟩ (fun hHeld => ?_); clear hK K
       refine norm_ (a' := ?_) ?_ ?_; rotate_left; focus (show Act.put _ (some 41) _ = _; simp only [Act.put, s1, s2, s3, i64_w, i32_w]; rfl)
       refine pure_ (i := 3) (N := some 38) (v := ?_) (a' := ?_) #[T, T, T, T, O, O, T, O, O] rfl rfl (any_of HT_.out (by kernel_rfl)) (fun _ _ _ h => h) (Or.inl ⟨by rfl, ?_⟩) ?_ ?_; rotate_left; focus (intro w'; go_simp; with_reducible rfl)
       rotate_left; focus (simp only [Act.put, s1, s2, s3, i64_w, i32_w]; rfl)
       refine pure_ (i := 4) (N := some 42) (v := ?_) (a' := ?_) #[T, T, T, T, T, O, T, O, O] rfl rfl (any_of HT_.out (by kernel_rfl)) (fun _ _ _ h => h) (Or.inl ⟨by rfl, ?_⟩) ?_ ?_; rotate_left; focus (intro w'; go_simp; with_reducible rfl)
       rotate_left; focus (simp only [Act.put, s1, s2, s3, i64_w, i32_w]; rfl)
       refine pure_ (i := 5) (N := some 43) (v := ?_) (a' := ?_) #[T, T, T, T, T, T, T, O, O] rfl rfl (any_of HT_.out (by kernel_rfl)) (fun _ _ _ h => h) (Or.inl ⟨by rfl, ?_⟩) ?_ ?_; rotate_left; focus (intro w'; go_simp; with_reducible rfl)
       rotate_left; focus (simp only [Act.put, s1, s2, s3, i64_w, i32_w]; rfl)
       exact norm_ (by simp only [putAll, Act.put, s1, s2, s3]) (hCont (gb627) _ ⟨hHeld, (kx BK595), (kx BK598), (kx BK627), GW627.out, GE627.out, NB595_627.out, NB627_595.out, NB598_627.out, NB627_598.out, (ky HB)⟩)
     ·skip
      refine box_step ?hg (N := 4) ?hd (cs := #[.int .i64 0, .int .u64 0]) (t := 24) ?hr ?_; (case hd => rfl); (case hg => rfl); (case hr => first | (go_simp; done) | (go_simp; rfl))
      intro gb627 hg w78 hbox hb; have BK627 := Aside0.mk (hbox); have GW627 := kS HB hg; have GE627 := kS HB hg; have NB595_627 := kN BK595 hg; have NB627_595 := kM BK595 hg; have NB598_627 := kN BK598 hg; have NB627_598 := kM BK598 hg; replace BK595 := kb BK595 hb; replace BK598 := kb BK598 hb; replace HB := kB HB hb; clear hb hbox hg; refine hK.out _ _ ⟨kc BK598 0, kc BK598 1⟩ (fun hHeld => ?_); clear hK K
      refine norm_ (a' := ?_) ?_ ?_; rotate_left; focus (show Act.put _ (some 4) _ = _; simp only [Act.put, s1, s2, s3, i64_w, i32_w]; rfl)
      refine one_ (i := 1) (N := some 40) #[T, T, O, O, O, O, T, O, O] rfl rfl (one_of HT_.out (by kernel_rfl)) (by decide) (fun K hK => ?_); refine goes_ Try.func24 (by kernel_rfl) rfl #[.int .i64 1] (by rfl) rfl rfl (by (try simp only [zm, zc, zn]); first | done | rfl | (simp only [zd, zt]; rfl)) ?_
      with_reducible refine (wide_Of.calls 1 t622 t623 _ A58.out).mono ?_
      rintro e w79 ⟨rfl, hb⟩; refine ⟨_, rfl, ?_⟩; replace BK595 := kb BK595 hb; replace BK598 := kb BK598 hb; replace BK627 := kb BK627 hb; replace HB := kB HB hb
      (try clear hb); (try clear hb2); (try clear hk); (try clear hi)
      refine hK.out _ _ ⟨kc BK598 0, kc BK598 1⟩ (fun hHeld => ?_); clear hK K
      refine norm_ (a' := ?_) ?_ ?_; rotate_left; focus (show Act.put _ (some 40) _ = _; simp only [Act.put, s1, s2, s3, i64_w, i32_w]; rfl)
      refine one_ (i := 2) (N := some 41) #[T, T, T, O, O, O, T, O, O] rfl rfl (one_of HT_.out (by kernel_rfl)) (by decide) (fun K hK => ?_); refine goes_ Try.func25 (by kernel_rfl) rfl #[.agg #[.int .i64 t596, .int .u64 t597], .agg #[.int .i64 t622, .int .u64 t623]] (by rfl) rfl rfl (by (try simp only [zm, zc, zn]); first | done | rfl | (simp only [zd, zt]; rfl)) ?_
      with_reducible refine (wide_Add.calls t596 t597 t622 t623 t624 t625 false _ A59.out).mono ?_
      rintro e w80 ⟨rfl, hb⟩; refine ⟨_, rfl, ?_⟩; replace BK595 := kb BK595 hb; replace BK598 := kb BK598 hb; replace BK627 := kb BK627 hb; replace HB := kB HB hb
      (try clear hb); (try clear hb2); (try clear hk); (try clear hi)
      refine hK.out _ _ ⟨kc BK598 0, kc BK598 1⟩ (fun hHeld => ?_); clear hK K
      refine norm_ (a' := ?_) ?_ ?_; rotate_left; focus (show Act.put _ (some 41) _ = _; simp only [Act.put, s1, s2, s3, i64_w, i32_w]; rfl)
      refine pure_ (i := 3) (N := some 38) (v := ?_) (a' := ?_) #[T, T, T, T, O, O, T, O, O] rfl rfl (any_of HT_.out (by kernel_rfl)) (fun _ _ _ h => h) (Or.inl ⟨by rfl, ?_⟩) ?_ ?_; rotate_left; focus (intro w'; go_simp; with_reducible rfl)
      rotate_left; focus (simp only [Act.put, s1, s2, s3, i64_w, i32_w]; rfl)
      refine pure_ (i := 4) (N := some 42) (v := ?_) (a' := ?_) #[T, T, T, T, T, O, T, O, O] rfl rfl (any_of HT_.out (by kernel_rfl)) (fun _ _ _ h => h) (Or.inl ⟨by rfl, ?_⟩) ?_ ?_; rotate_left; focus (intro w'; go_simp; with_reducible rfl)
      rotate_left; focus (simp only [Act.put, s1, s2, s3, i64_w, i32_w]; rfl)
      refine pure_ (i := 5) (N := some 43) (v := ?_) (a' := ?_) #[T, T, T, T, T, T, T, O, O] rfl rfl (any_of HT_.out (by kernel_rfl)) (fun _ _ _ h => h) (Or.inl ⟨by rfl, ?_⟩) ?_ ?_; rotate_left; focus (intro w'; go_simp; with_reducible rfl)
      rotate_left; focus (simp only [Act.put, s1, s2, s3, i64_w, i32_w]; rfl)
      exact norm_ (by simp only [putAll, Act.put, s1, s2, s3]) (hCont (gb627) _ ⟨hHeld, (kx BK595), (kx BK598), (kx BK627), GW627.out, GE627.out, NB595_627.out, NB627_595.out, NB598_627.out, NB627_598.out, (ky HB)⟩)
    rintro gb627 w81 ⟨hS_, h0_, h1_, h2_, h3_, h4_, h5_, h6_, h7_, h8_, h9_⟩; clear BK595 BK598 HB; have BK595 := A0 h0_; have BK598 := A0 h1_; have BK627 := A0 h2_; have GW627 := A0 h3_; have GE627 := A0 h4_; have NB595_627 := A0 h5_; have NB627_595 := A0 h6_; have NB598_627 := A0 h7_; have NB627_598 := A0 h8_; have HB := A0 h9_; clear h0_ h1_ h2_ h3_ h4_ h5_ h6_ h7_ h8_ h9_; have hHeld := hS_
    refine norm_ (a' := ?_) ?_ ?_; rotate_left; focus (simp only [putAll, Act.put, s1, s2, s3]; rfl)
    refine one_ (i := 7) (N := none) #[T, T, T, T, T, T, T, T, O] rfl rfl (one_of HT_.out (by kernel_rfl)) (by decide) (fun K hK => ?_); have hs82 : w81.cell? ⟨gb627, 0, none⟩ = some (.int .i64 0) := kc BK627 0; have hfs82 := blk_frozen BK627.out 0; have hns82_0 := NB595_627.out; have hns82_1 := NB598_627.out; have hms82_0 := NB627_595.out; have hms82_1 := NB627_598.out; have hs83 : w81.cell? ⟨gb627, 1, none⟩ = some (.int .u64 0) := kc BK627 1; have hfs83 := blk_frozen BK627.out 1; have hns83_0 := NB595_627.out; have hns83_1 := NB598_627.out; have hms83_0 := NB627_595.out; have hms83_1 := NB627_598.out; refine skip_ (w1 := ?_) (by rfl) rfl ?_ ?_; rotate_left
    ·go_simp
     rfl
    refine hK.out _ _ ⟨((cell_far (p := ⟨gb627, _, none⟩) NB598_627.out _).trans (((cell_far (p := ⟨gb627, _, none⟩) NB598_627.out _).trans (hHeld.1)))), ((cell_far (p := ⟨gb627, _, none⟩) NB598_627.out _).trans (((cell_far (p := ⟨gb627, _, none⟩) NB598_627.out _).trans (hHeld.2))))⟩ (fun hHeld => ?_); clear hK K
    refine pure_ (i := 8) (N := some 5) (v := ?_) (a' := ?_) #[T, T, T, T, T, T, T, T, T] rfl rfl (any_of HT_.out (by kernel_rfl)) (fun _ _ _ h => h) (Or.inl ⟨by rfl, ?_⟩) ?_ ?_; rotate_left; focus (intro w'; go_simp; with_reducible rfl)
    rotate_left; focus (simp only [Act.put, s1, s2, s3, i64_w, i32_w]; rfl)
    refine done_ (done_of HT_.out (by kernel_rfl)) ?_
    try go_wp2
    have n0_ : Aside0 (((w81.setCell ⟨gb627, 0, none⟩ (.int .i64 t624)).setCell ⟨gb627, 1, none⟩ (.int .u64 t625)).heap[gb595]? = some (.cells #[.int .i64 a0_0, .int .u64 a0_1, .int .i64 a0_2, .int .u64 a0_3] 26 (0, 0))) := ⟨kx BK595⟩; have n1_ : Aside0 (((w81.setCell ⟨gb627, 0, none⟩ (.int .i64 t624)).setCell ⟨gb627, 1, none⟩ (.int .u64 t625)).heap[gb598]? = some (.cells #[.int .i64 t596, .int .u64 t597] 24 (0, 0))) := ⟨kx BK598⟩; have n2_ : Aside0 (((w81.setCell ⟨gb627, 0, none⟩ (.int .i64 t624)).setCell ⟨gb627, 1, none⟩ (.int .u64 t625)).heap[gb627]? = some (.cells #[.int .i64 t624, .int .u64 t625] 24 (0, 0))) := ⟨by (with_reducible repeat (first | refine zr ?_ _ | refine zw ?_ | refine za ?_ _)); refine blk_put (cs := #[.int .i64 t624, .int .u64 0]) ?_ 1 _ rfl; (with_reducible repeat (first | refine zr ?_ _ | refine zw ?_ | refine za ?_ _)); refine blk_put (cs := #[.int .i64 0, .int .u64 0]) ?_ 0 _ rfl; (with_reducible repeat (first | refine zr ?_ _ | refine zw ?_ | refine za ?_ _)); exact BK627.out⟩; have n3_ : Aside0 (Below w.heap.size w ((w81.setCell ⟨gb627, 0, none⟩ (.int .i64 t624)).setCell ⟨gb627, 1, none⟩ (.int .u64 t625))) := ⟨ky HB⟩
    (try clear BK595); (try clear BK598); (try clear BK627); (try clear HB)
    generalize ((w81.setCell ⟨gb627, 0, none⟩ (.int .i64 t624)).setCell ⟨gb627, 1, none⟩ (.int .u64 t625)) = w84 at n0_ n1_ n2_ n3_ ⊢
    have BK595 := n0_; have BK598 := n1_; have BK627 := n2_; have HB := n3_; clear n0_ n1_ n2_ n3_; replace BK595 := Aside0.mk (blk_drew BK595.out); replace BK598 := Aside0.mk (blk_drew BK598.out); replace BK627 := Aside0.mk (blk_drew BK627.out); replace HB := Aside0.mk (below_drew1 HB.out); refine start_ (n := 14) (S := fun w' => True) (ds := []) #[O, O, O, O, O, O, O, O, O, O, O, O, O, O] (by kernel_rfl) rfl rfl trivial (fun hHeld => ?_); refine with_tabW cobweblaw02_FracFloors.tab7 cobweblaw02_FracFloors.bits7 (fun HT_ HW_ => ?_)
    generalize w84.drew = w85 at BK595 BK598 BK627 HB hHeld ⊢
    refine one_ (i := 0) (N := some 44) #[T, O, O, O, O, O, O, O, O, O, O, O, O, O] rfl rfl (one_of HT_.out (by kernel_rfl)) (by decide) (fun K hK => ?_); refine goes_ Try.func16 (by kernel_rfl) rfl #[] (by rfl) rfl rfl (by (try simp only [zm, zc, zn]); first | done | rfl | (simp only [zd, zt]; rfl)) ?_
    with_reducible refine (cobweblaw02_alive.calls kj20  true _ A60.out).mono ?_
    rintro e w86 ⟨rfl, hb⟩; refine ⟨_, rfl, ?_⟩; replace BK595 := kb BK595 hb; replace BK598 := kb BK598 hb; replace BK627 := kb BK627 hb; replace HB := kB HB hb
    (try clear hb); (try clear hb2); (try clear hk); (try clear hi)
    refine hK.out _ _ trivial (fun hHeld => ?_); clear hK K
    refine norm_ (a' := ?_) ?_ ?_; rotate_left; focus (show Act.put _ (some 44) _ = _; simp only [Act.put, s1, s2, s3, i64_w, i32_w]; rfl)
    refine pure_ (i := 1) (N := some 45) (v := ?_) (a' := ?_) #[T, T, O, O, O, O, O, O, O, O, O, O, O, O] rfl rfl (any_of HT_.out (by kernel_rfl)) (fun _ _ _ h => h) (Or.inl ⟨by rfl, ?_⟩) ?_ ?_; rotate_left; focus (intro w'; go_simp; with_reducible rfl)
    rotate_left; focus (simp only [Act.put, s1, s2, s3, i64_w, i32_w]; rfl)
    refine pure_ (i := 2) (N := some 46) (v := ?_) (a' := ?_) #[T, T, T, O, O, O, O, O, O, O, O, O, O, O] rfl rfl (any_of HT_.out (by kernel_rfl)) (fun _ _ _ h => h) (Or.inl ⟨by rfl, ?_⟩) ?_ ?_; rotate_left; focus (intro w'; go_simp; with_reducible rfl)
    rotate_left; focus (simp only [Act.put, s1, s2, s3, i64_w, i32_w]; rfl)
    refine pure_ (i := 3) (N := some 47) (v := ?_) (a' := ?_) #[T, T, T, T, O, O, O, O, O, O, O, O, O, O] rfl rfl (any_of HT_.out (by kernel_rfl)) (fun _ _ _ h => h) (Or.inl ⟨by rfl, ?_⟩) ?_ ?_; rotate_left; focus (intro w'; go_simp; with_reducible rfl)
    rotate_left; focus (simp only [Act.put, s1, s2, s3, i64_w, i32_w]; rfl)
    refine pure_ (i := 4) (N := some 48) (v := ?_) (a' := ?_) #[T, T, T, T, T, O, O, O, O, O, O, O, O, O] rfl rfl (any_of HT_.out (by kernel_rfl)) (fun _ _ _ h => h) (Or.inl ⟨by rfl, ?_⟩) ?_ ?_; rotate_left; focus (intro w'; go_simp; with_reducible rfl)
    rotate_left; focus (simp only [Act.put, s1, s2, s3, i64_w, i32_w]; rfl)
    refine pure_ (i := 5) (N := some 49) (v := undef) (a' := ?_) #[T, T, T, T, T, T, O, O, O, O, O, O, O, O] rfl rfl (any_of HT_.out (by kernel_rfl)) (fun _ _ _ h => h) (Or.inr ⟨by rfl, rfl⟩) ?_ ?_; rotate_left; focus (simp only [Act.put, s1, s2, s3, i64_w, i32_w]; rfl)
    refine pure_ (i := 6) (N := some 50) (v := undef) (a' := ?_) #[T, T, T, T, T, T, T, O, O, O, O, O, O, O] rfl rfl (any_of HT_.out (by kernel_rfl)) (fun _ _ _ h => h) (Or.inr ⟨by rfl, rfl⟩) ?_ ?_; rotate_left; focus (simp only [Act.put, s1, s2, s3, i64_w, i32_w]; rfl)
    refine pure_ (i := 7) (N := some 51) (v := undef) (a' := ?_) #[T, T, T, T, T, T, T, T, O, O, O, O, O, O] rfl rfl (any_of HT_.out (by kernel_rfl)) (fun _ _ _ h => h) (Or.inr ⟨by rfl, rfl⟩) ?_ ?_; rotate_left; focus (simp only [Act.put, s1, s2, s3, i64_w, i32_w]; rfl)
    refine pure_ (i := 8) (N := some 52) (v := undef) (a' := ?_) #[T, T, T, T, T, T, T, T, T, O, O, O, O, O] rfl rfl (any_of HT_.out (by kernel_rfl)) (fun _ _ _ h => h) (Or.inr ⟨by rfl, rfl⟩) ?_ ?_; rotate_left; focus (simp only [Act.put, s1, s2, s3, i64_w, i32_w]; rfl)
    refine pure_ (i := 9) (N := some 53) (v := undef) (a' := ?_) #[T, T, T, T, T, T, T, T, T, T, O, O, O, O] rfl rfl (any_of HT_.out (by kernel_rfl)) (fun _ _ _ h => h) (Or.inr ⟨by rfl, rfl⟩) ?_ ?_; rotate_left; focus (simp only [Act.put, s1, s2, s3, i64_w, i32_w]; rfl)
    refine pure_ (i := 10) (N := some 54) (v := undef) (a' := ?_) #[T, T, T, T, T, T, T, T, T, T, T, O, O, O] rfl rfl (any_of HT_.out (by kernel_rfl)) (fun _ _ _ h => h) (Or.inr ⟨by rfl, rfl⟩) ?_ ?_; rotate_left; focus (simp only [Act.put, s1, s2, s3, i64_w, i32_w]; rfl)
    refine pure_ (i := 11) (N := some 55) (v := ?_) (a' := ?_) #[T, T, T, T, T, T, T, T, T, T, T, T, O, O] rfl rfl (any_of HT_.out (by kernel_rfl)) (fun _ _ _ h => h) (Or.inl ⟨by rfl, ?_⟩) ?_ ?_; rotate_left; focus (intro w'; go_simp; with_reducible rfl)
    rotate_left; focus (simp only [Act.put, s1, s2, s3, i64_w, i32_w]; rfl)
    refine pure_ (i := 12) (N := some 56) (v := ?_) (a' := ?_) #[T, T, T, T, T, T, T, T, T, T, T, T, T, O] rfl rfl (any_of HT_.out (by kernel_rfl)) (fun _ _ _ h => h) (Or.inl ⟨by rfl, ?_⟩) ?_ ?_; rotate_left; focus (intro w'; go_simp; with_reducible rfl)
    rotate_left; focus (simp only [Act.put, s1, s2, s3, i64_w, i32_w]; rfl)
    refine pure_ (i := 13) (N := some 2) (v := ?_) (a' := ?_) #[T, T, T, T, T, T, T, T, T, T, T, T, T, T] rfl rfl (any_of HT_.out (by kernel_rfl)) (fun _ _ _ h => h) (Or.inl ⟨by rfl, ?_⟩) ?_ ?_; rotate_left; focus (intro w'; go_simp; with_reducible rfl)
    rotate_left; focus (simp only [Act.put, s1, s2, s3, i64_w, i32_w]; rfl)
    refine done_ (done_of HT_.out (by kernel_rfl)) ?_
    try go_wp2
    go_ret
    exact ⟨by first | rfl | (simp [errW_none, errW_some] <;> rfl) | (simp [*, errW_none, errW_some] <;> rfl), ky HB⟩
   subst c62
   have H1 : ((wide_Of.f 1).bind fun bt629 => ((frac_Cmp.f kj20 t624 t625 bt629.1 bt629.2 a0_0 a0_1 a0_2 a0_3).bind fun t631 => (some (decide (t631 > 0))))) = some r := by rw [if_pos rfl] at H; exact H
   clear H; have H := H1; clear H1; replace H := Option.bind_eq_some_iff.mp H; obtain ⟨⟨t629, t630⟩, A630, H⟩ := H; replace H : ((frac_Cmp.f kj20 t624 t625 t629 t630 a0_0 a0_1 a0_2 a0_3).bind fun t631 => (some (decide (t631 > 0)))) = some r := H; have A63 := Aside0.mk A630; clear A630; replace H := Option.bind_eq_some_iff.mp H; obtain ⟨t631, A640, H⟩ := H; replace H : (some (decide (t631 > 0))) = some r := H; have A64 := Aside0.mk A640; clear A640; obtain rfl := Option.some.inj H
   try go_wp2
   replace BK595 := Aside0.mk (blk_drew BK595.out); replace BK598 := Aside0.mk (blk_drew BK598.out); replace HB := Aside0.mk (below_drew1 HB.out); refine start_ (n := 9) (S := fun w' => w'.cell? ⟨gb598, 0, none⟩ = some (.int .i64 t596) ∧ w'.cell? ⟨gb598, 1, none⟩ = some (.int .u64 t597)) (ds := []) #[O, O, O, O, O, O, O, O, O] (by kernel_rfl) rfl rfl ⟨kc BK598 0, kc BK598 1⟩ (fun hHeld => ?_); refine with_tabW cobweblaw02_FracFloors.tab6 cobweblaw02_FracFloors.bits6 (fun HT_ HW_ => ?_)
   generalize wc.drew = w65 at BK595 BK598 HB hHeld ⊢
   refine take_ (i := 0) (N := some 39) (v := ?_) (a' := ?_) #[T, O, O, O, O, O, O, O, O] rfl rfl (take_ofW HT_.out HW_.out (by kernel_rfl)) (fun _ _ _ h => h) (Or.inl ⟨by rfl, ?_⟩) hHeld ?_ ?_; rotate_left; focus (rintro w' ⟨s0, s1⟩; go_simp; with_reducible rfl)
   rotate_left; focus (simp only [Act.put, s1, s2, s3, i64_w, i32_w]; rfl)
   refine join_ (σ := Nat) 2 #[T, T, T, T, T, T, T, O, O] (fun s_ => [(40, .agg #[.int .i64 t622, .int .u64 t623]), (41, .tuple #[.agg #[.int .i64 t624, .int .u64 t625], .bool true]), (4, .pointer (some ⟨s_, 0, none⟩)), (38, .tuple #[.agg #[.int .i64 t624, .int .u64 t625], .bool true]), (42, .agg #[.int .i64 t624, .int .u64 t625]), (43, .bool true)]) (fun s_ w' => (w'.cell? ⟨gb598, 0, none⟩ = some (.int .i64 t596) ∧ w'.cell? ⟨gb598, 1, none⟩ = some (.int .u64 t597)) ∧ (w'.heap[gb595]? = some (.cells #[.int .i64 a0_0, .int .u64 a0_1, .int .i64 a0_2, .int .u64 a0_3] 26 (0, 0))) ∧ (w'.heap[gb598]? = some (.cells #[.int .i64 t596, .int .u64 t597] 24 (0, 0))) ∧ (w'.heap[s_]? = some (.cells #[.int .i64 0, .int .u64 0] 24 (0, 0))) ∧ (w.heap.size ≤ s_) ∧ (w.heap.size ≤ s_) ∧ (gb595 ≠ s_) ∧ (s_ ≠ gb595) ∧ (gb598 ≠ s_) ∧ (s_ ≠ gb598) ∧ (Below w.heap.size w w')) ?_ ?_; rotate_left
   ·intro hCont; refine two_ (i := 1) (j := 6) (Ni := some 40) (Nj := some 4) #[T, T, O, O, O, O, O, O, O] #[T, O, O, O, O, O, T, O, O] rfl rfl rfl rfl (two_of HT_.out (by kernel_rfl)) (by decide) (by decide) (fun K hK => ?_) (fun K hK => ?_)
    ·skip; refine goes_ Try.func24 (by kernel_rfl) rfl #[.int .i64 1] (by rfl) rfl rfl (by (try simp only [zm, zc, zn]); first | done | rfl | (simp only [zd, zt]; rfl)) ?_
     with_reducible refine (wide_Of.calls 1 t622 t623 _ A58.out).mono ?_
     rintro e w66 ⟨rfl, hb⟩; refine ⟨_, rfl, ?_⟩; replace BK595 := kb BK595 hb; replace BK598 := kb BK598 hb; replace HB := kB HB hb
     (try clear hb); (try clear hb2); (try clear hk); (try clear hi)
     refine hK.out _ _ ⟨kc BK598 0, kc BK598 1⟩ (fun hHeld => ?_); clear hK K
     refine norm_ (a' := ?_) ?_ ?_; rotate_left; focus (show Act.put _ (some 40) _ = _; simp only [Act.put, s1, s2, s3, i64_w, i32_w]; rfl)
     refine two_ (i := 2) (j := 6) (Ni := some 41) (Nj := some 4) #[T, T, T, O, O, O, O, O, O] #[T, T, O, O, O, O, T, O, O] rfl rfl rfl rfl (two_of HT_.out (by kernel_rfl)) (by decide) (by decide) (fun K hK => ?_) (fun K hK => ?_)
     ·skip; refine goes_ Try.func25 (by kernel_rfl) rfl #[.agg #[.int .i64 t596, .int .u64 t597], .agg #[.int .i64 t622, .int .u64 t623]] (by rfl) rfl rfl (by (try simp only [zm, zc, zn]); first | done | rfl | (simp only [zd, zt]; rfl)) ?_
      with_reducible refine (wide_Add.calls t596 t597 t622 t623 t624 t625 true _ A59.out).mono ?_
      rintro e w67 ⟨rfl, hb⟩; refine ⟨_, rfl, ?_⟩; replace BK595 := kb BK595 hb; replace BK598 := kb BK598 hb; replace HB := kB HB hb
      (try clear hb); (try clear hb2); (try clear hk); (try clear hi)
      refine hK.out _ _ ⟨kc BK598 0, kc BK598 1⟩ (fun hHeld => ?_); clear hK K
      refine norm_ (a' := ?_) ?_ ?_; rotate_left; focus (show Act.put _ (some 41) _ = _; simp only [Act.put, s1, s2, s3, i64_w, i32_w]; rfl)
      refine pure_ (i := 3) (N := some 38) (v := ?_) (a' := ?_) #[T, T, T, T, O, O, O, O, O] rfl rfl (any_of HT_.out (by kernel_rfl)) (fun _ _ _ h => h) (Or.inl ⟨by rfl, ?_⟩) ?_ ?_; rotate_left; focus (intro w'; go_simp; with_reducible rfl)
      rotate_left; focus (simp only [Act.put, s1, s2, s3, i64_w, i32_w]; rfl)
      refine pure_ (i := 4) (N := some 42) (v := ?_) (a' := ?_) #[T, T, T, T, T, O, O, O, O] rfl rfl (any_of HT_.out (by kernel_rfl)) (fun _ _ _ h => h) (Or.inl ⟨by rfl, ?_⟩) ?_ ?_; rotate_left; focus (intro w'; go_simp; with_reducible rfl)
      rotate_left; focus (simp only [Act.put, s1, s2, s3, i64_w, i32_w]; rfl)
      refine pure_ (i := 5) (N := some 43) (v := ?_) (a' := ?_) #[T, T, T, T, T, T, O, O, O] rfl rfl (any_of HT_.out (by kernel_rfl)) (fun _ _ _ h => h) (Or.inl ⟨by rfl, ?_⟩) ?_ ?_; rotate_left; focus (intro w'; go_simp; with_reducible rfl)
      rotate_left; focus (simp only [Act.put, s1, s2, s3, i64_w, i32_w]; rfl)
      refine one_ (i := 6) (N := some 4) #[T, T, T, T, T, T, T, O, O] rfl rfl (one_of HT_.out (by kernel_rfl)) (by decide) (fun K hK => ?_)
      refine box_step ?hg (N := 4) ?hd (cs := #[.int .i64 0, .int .u64 0]) (t := 24) ?hr ?_; (case hd => rfl); (case hg => rfl); (case hr => first | (go_simp; done) | (go_simp; rfl))
      intro gb627 hg w68 hbox hb; have BK627 := Aside0.mk (hbox); have GW627 := kS HB hg; have GE627 := kS HB hg; have NB595_627 := kN BK595 hg; have NB627_595 := kM BK595 hg; have NB598_627 := kN BK598 hg; have NB627_598 := kM BK598 hg; replace BK595 := kb BK595 hb; replace BK598 := kb BK598 hb; replace HB := kB HB hb; clear hb hbox hg; refine hK.out _ _ ⟨kc BK598 0, kc BK598 1⟩ (fun hHeld => ?_); clear hK K
      refine norm_ (a' := ?_) ?_ ?_; rotate_left; focus (show Act.put _ (some 4) _ = _; simp only [Act.put, s1, s2, s3, i64_w, i32_w]; rfl)
      exact norm_ (by simp only [putAll, Act.put, s1, s2, s3]) (hCont (gb627) _ ⟨hHeld, (kx BK595), (kx BK598), (kx BK627), GW627.out, GE627.out, NB595_627.out, NB627_595.out, NB598_627.out, NB627_598.out, (ky HB)⟩)
     ·skip
      refine box_step ?hg (N := 4) ?hd (cs := #[.int .i64 0, .int .u64 0]) (t := 24) ?hr ?_; (case hd => rfl); (case hg => rfl); (case hr => first | (go_simp; done) | (go_simp; rfl))
      intro gb627 hg w67 hbox hb; have BK627 := Aside0.mk (hbox); have GW627 := kS HB hg; have GE627 := kS HB hg; have NB595_627 := kN BK595 hg; have NB627_595 := kM BK595 hg; have NB598_627 := kN BK598 hg; have NB627_598 := kM BK598 hg; replace BK595 := kb BK595 hb; replace BK598 := kb BK598 hb; replace HB := kB HB hb; clear hb hbox hg; refine hK.out _ _ ⟨kc BK598 0, kc BK598 1⟩ (fun hHeld => ?_); clear hK K
      refine norm_ (a' := ?_) ?_ ?_; rotate_left; focus (show Act.put _ (some 4) _ = _; simp only [Act.put, s1, s2, s3, i64_w, i32_w]; rfl)
      refine one_ (i := 2) (N := some 41) #[T, T, T, O, O, O, T, O, O] rfl rfl (one_of HT_.out (by kernel_rfl)) (by decide) (fun K hK => ?_); refine goes_ Try.func25 (by kernel_rfl) rfl #[.agg #[.int .i64 t596, .int .u64 t597], .agg #[.int .i64 t622, .int .u64 t623]] (by rfl) rfl rfl (by (try simp only [zm, zc, zn]); first | done | rfl | (simp only [zd, zt]; rfl)) ?_
      with_reducible refine (wide_Add.calls t596 t597 t622 t623 t624 t625 true _ A59.out).mono ?_
      rintro e w68 ⟨rfl, hb⟩; refine ⟨_, rfl, ?_⟩; replace BK595 := kb BK595 hb; replace BK598 := kb BK598 hb; replace BK627 := kb BK627 hb; replace HB := kB HB hb
      (try clear hb); (try clear hb2); (try clear hk); (try clear hi)
      refine hK.out _ _ ⟨kc BK598 0, kc BK598 1⟩ (fun hHeld => ?_); clear hK K
      refine norm_ (a' := ?_) ?_ ?_; rotate_left; focus (show Act.put _ (some 41) _ = _; simp only [Act.put, s1, s2, s3, i64_w, i32_w]; rfl)
      refine pure_ (i := 3) (N := some 38) (v := ?_) (a' := ?_) #[T, T, T, T, O, O, T, O, O] rfl rfl (any_of HT_.out (by kernel_rfl)) (fun _ _ _ h => h) (Or.inl ⟨by rfl, ?_⟩) ?_ ?_; rotate_left; focus (intro w'; go_simp; with_reducible rfl)
      rotate_left; focus (simp only [Act.put, s1, s2, s3, i64_w, i32_w]; rfl)
      refine pure_ (i := 4) (N := some 42) (v := ?_) (a' := ?_) #[T, T, T, T, T, O, T, O, O] rfl rfl (any_of HT_.out (by kernel_rfl)) (fun _ _ _ h => h) (Or.inl ⟨by rfl, ?_⟩) ?_ ?_; rotate_left; focus (intro w'; go_simp; with_reducible rfl)
      rotate_left; focus (simp only [Act.put, s1, s2, s3, i64_w, i32_w]; rfl)
      refine pure_ (i := 5) (N := some 43) (v := ?_) (a' := ?_) #[T, T, T, T, T, T, T, O, O] rfl rfl (any_of HT_.out (by kernel_rfl)) (fun _ _ _ h => h) (Or.inl ⟨by rfl, ?_⟩) ?_ ?_; rotate_left; focus (intro w'; go_simp; with_reducible rfl)
      rotate_left; focus (simp only [Act.put, s1, s2, s3, i64_w, i32_w]; rfl)
      exact norm_ (by simp only [putAll, Act.put, s1, s2, s3]) (hCont (gb627) _ ⟨hHeld, (kx BK595), (kx BK598), (kx BK627), GW627.out, GE627.out, NB595_627.out, NB627_595.out, NB598_627.out, NB627_598.out, (ky HB)⟩)
    ·skip
     refine box_step ?hg (N := 4) ?hd (cs := #[.int .i64 0, .int .u64 0]) (t := 24) ?hr ?_; (case hd => rfl); (case hg => rfl); (case hr => first | (go_simp; done) | (go_simp; rfl))
     intro gb627 hg w66 hbox hb; have BK627 := Aside0.mk (hbox); have GW627 := kS HB hg; have GE627 := kS HB hg; have NB595_627 := kN BK595 hg; have NB627_595 := kM BK595 hg; have NB598_627 := kN BK598 hg; have NB627_598 := kM BK598 hg; replace BK595 := kb BK595 hb; replace BK598 := kb BK598 hb; replace HB := kB HB hb; clear hb hbox hg; refine hK.out _ _ ⟨kc BK598 0, kc BK598 1⟩ (fun hHeld => ?_); clear hK K
     refine norm_ (a' := ?_) ?_ ?_; rotate_left; focus (show Act.put _ (some 4) _ = _; simp only [Act.put, s1, s2, s3, i64_w, i32_w]; rfl)
     refine one_ (i := 1) (N := some 40) #[T, T, O, O, O, O, T, O, O] rfl rfl (one_of HT_.out (by kernel_rfl)) (by decide) (fun K hK => ?_); refine goes_ Try.func24 (by kernel_rfl) rfl #[.int .i64 1] (by rfl) rfl rfl (by (try simp only [zm, zc, zn]); first | done | rfl | (simp only [zd, zt]; rfl)) ?_
     with_reducible refine (wide_Of.calls 1 t622 t623 _ A58.out).mono ?_
     rintro e w67 ⟨rfl, hb⟩; refine ⟨_, rfl, ?_⟩; replace BK595 := kb BK595 hb; replace BK598 := kb BK598 hb; replace BK627 := kb BK627 hb; replace HB := kB HB hb
     (try clear hb); (try clear hb2); (try clear hk); (try clear hi)
     refine hK.out _ _ ⟨kc BK598 0, kc BK598 1⟩ (fun hHeld => ?_); clear hK K
     refine norm_ (a' := ?_) ?_ ?_; rotate_left; focus (show Act.put _ (some 40) _ = _; simp only [Act.put, s1, s2, s3, i64_w, i32_w]; rfl)
     refine one_ (i := 2) (N := some 41) #[T, T, T, O, O, O, T, O, O] rfl rfl (one_of HT_.out (by kernel_rfl)) (by decide) (fun K hK => ?_); refine goes_ Try.func25 (by kernel_rfl) rfl #[.agg #[.int .i64 t596, .int .u64 t597], .agg #[.int .i64 t622, .int .u64 t623]] (by rfl) rfl rfl (by (try simp only [zm, zc, zn]); first | done | rfl | (simp only [zd, zt]; rfl)) ?_
     with_reducible refine (wide_Add.calls t596 t597 t622 t623 t624 t625 true _ A59.out).mono ?_
     rintro e w68 ⟨rfl, hb⟩; refine ⟨_, rfl, ?_⟩; replace BK595 := kb BK595 hb; replace BK598 := kb BK598 hb; replace BK627 := kb BK627 hb; replace HB := kB HB hb
     (try clear hb); (try clear hb2); (try clear hk); (try clear hi)
     refine hK.out _ _ ⟨kc BK598 0, kc BK598 1⟩ (fun hHeld => ?_); clear hK K
     refine norm_ (a' := ?_) ?_ ?_; rotate_left; focus (show Act.put _ (some 41) _ = _; simp only [Act.put, s1, s2, s3, i64_w, i32_w]; rfl)
     refine pure_ (i := 3) (N := some 38) (v := ?_) (a' := ?_) #[T, T, T, T, O, O, T, O, O] rfl rfl (any_of HT_.out (by kernel_rfl)) (fun _ _ _ h => h) (Or.inl ⟨by rfl, ?_⟩) ?_ ?_; rotate_left; focus (intro w'; go_simp; with_reducible rfl)
     rotate_left; focus (simp only [Act.put, s1, s2, s3, i64_w, i32_w]; rfl)
     refine pure_ (i := 4) (N := some 42) (v := ?_) (a' := ?_) #[T, T, T, T, T, O, T, O, O] rfl rfl (any_of HT_.out (by kernel_rfl)) (fun _ _ _ h => h) (Or.inl ⟨by rfl, ?_⟩) ?_ ?_; rotate_left; focus (intro w'; go_simp; with_reducible rfl)
     rotate_left; focus (simp only [Act.put, s1, s2, s3, i64_w, i32_w]; rfl)
     refine pure_ (i := 5) (N := some 43) (v := ?_) (a' := ?_) #[T, T, T, T, T, T, T, O, O] rfl rfl (any_of HT_.out (by kernel_rfl)) (fun _ _ _ h => h) (Or.inl ⟨by rfl, ?_⟩) ?_ ?_; rotate_left; focus (intro w'; go_simp; with_reducible rfl)
     rotate_left; focus (simp only [Act.put, s1, s2, s3, i64_w, i32_w]; rfl)
     exact norm_ (by simp only [putAll, Act.put, s1, s2, s3]) (hCont (gb627) _ ⟨hHeld, (kx BK595), (kx BK598), (kx BK627), GW627.out, GE627.out, NB595_627.out, NB627_595.out, NB598_627.out, NB627_598.out, (ky HB)⟩)
   rintro gb627 w69 ⟨hS_, h0_, h1_, h2_, h3_, h4_, h5_, h6_, h7_, h8_, h9_⟩; clear BK595 BK598 HB; have BK595 := A0 h0_; have BK598 := A0 h1_; have BK627 := A0 h2_; have GW627 := A0 h3_; have GE627 := A0 h4_; have NB595_627 := A0 h5_; have NB627_595 := A0 h6_; have NB598_627 := A0 h7_; have NB627_598 := A0 h8_; have HB := A0 h9_; clear h0_ h1_ h2_ h3_ h4_ h5_ h6_ h7_ h8_ h9_; have hHeld := hS_
   refine norm_ (a' := ?_) ?_ ?_; rotate_left; focus (simp only [putAll, Act.put, s1, s2, s3]; rfl)
   refine one_ (i := 7) (N := none) #[T, T, T, T, T, T, T, T, O] rfl rfl (one_of HT_.out (by kernel_rfl)) (by decide) (fun K hK => ?_); have hs70 : w69.cell? ⟨gb627, 0, none⟩ = some (.int .i64 0) := kc BK627 0; have hfs70 := blk_frozen BK627.out 0; have hns70_0 := NB595_627.out; have hns70_1 := NB598_627.out; have hms70_0 := NB627_595.out; have hms70_1 := NB627_598.out; have hs71 : w69.cell? ⟨gb627, 1, none⟩ = some (.int .u64 0) := kc BK627 1; have hfs71 := blk_frozen BK627.out 1; have hns71_0 := NB595_627.out; have hns71_1 := NB598_627.out; have hms71_0 := NB627_595.out; have hms71_1 := NB627_598.out; refine skip_ (w1 := ?_) (by rfl) rfl ?_ ?_; rotate_left
   ·go_simp
    rfl
   refine hK.out _ _ ⟨((cell_far (p := ⟨gb627, _, none⟩) NB598_627.out _).trans (((cell_far (p := ⟨gb627, _, none⟩) NB598_627.out _).trans (hHeld.1)))), ((cell_far (p := ⟨gb627, _, none⟩) NB598_627.out _).trans (((cell_far (p := ⟨gb627, _, none⟩) NB598_627.out _).trans (hHeld.2))))⟩ (fun hHeld => ?_); clear hK K
   refine pure_ (i := 8) (N := some 5) (v := ?_) (a' := ?_) #[T, T, T, T, T, T, T, T, T] rfl rfl (any_of HT_.out (by kernel_rfl)) (fun _ _ _ h => h) (Or.inl ⟨by rfl, ?_⟩) ?_ ?_; rotate_left; focus (intro w'; go_simp; with_reducible rfl)
   rotate_left; focus (simp only [Act.put, s1, s2, s3, i64_w, i32_w]; rfl)
   refine done_ (done_of HT_.out (by kernel_rfl)) ?_
   try go_wp2
   have n0_ : Aside0 (((w69.setCell ⟨gb627, 0, none⟩ (.int .i64 t624)).setCell ⟨gb627, 1, none⟩ (.int .u64 t625)).heap[gb595]? = some (.cells #[.int .i64 a0_0, .int .u64 a0_1, .int .i64 a0_2, .int .u64 a0_3] 26 (0, 0))) := ⟨kx BK595⟩; have n1_ : Aside0 (((w69.setCell ⟨gb627, 0, none⟩ (.int .i64 t624)).setCell ⟨gb627, 1, none⟩ (.int .u64 t625)).heap[gb598]? = some (.cells #[.int .i64 t596, .int .u64 t597] 24 (0, 0))) := ⟨kx BK598⟩; have n2_ : Aside0 (((w69.setCell ⟨gb627, 0, none⟩ (.int .i64 t624)).setCell ⟨gb627, 1, none⟩ (.int .u64 t625)).heap[gb627]? = some (.cells #[.int .i64 t624, .int .u64 t625] 24 (0, 0))) := ⟨by (with_reducible repeat (first | refine zr ?_ _ | refine zw ?_ | refine za ?_ _)); refine blk_put (cs := #[.int .i64 t624, .int .u64 0]) ?_ 1 _ rfl; (with_reducible repeat (first | refine zr ?_ _ | refine zw ?_ | refine za ?_ _)); refine blk_put (cs := #[.int .i64 0, .int .u64 0]) ?_ 0 _ rfl; (with_reducible repeat (first | refine zr ?_ _ | refine zw ?_ | refine za ?_ _)); exact BK627.out⟩; have n3_ : Aside0 (Below w.heap.size w ((w69.setCell ⟨gb627, 0, none⟩ (.int .i64 t624)).setCell ⟨gb627, 1, none⟩ (.int .u64 t625))) := ⟨ky HB⟩
   (try clear BK595); (try clear BK598); (try clear BK627); (try clear HB)
   generalize ((w69.setCell ⟨gb627, 0, none⟩ (.int .i64 t624)).setCell ⟨gb627, 1, none⟩ (.int .u64 t625)) = w72 at n0_ n1_ n2_ n3_ ⊢
   have BK595 := n0_; have BK598 := n1_; have BK627 := n2_; have HB := n3_; clear n0_ n1_ n2_ n3_; replace BK595 := Aside0.mk (blk_drew BK595.out); replace BK598 := Aside0.mk (blk_drew BK598.out); replace BK627 := Aside0.mk (blk_drew BK627.out); replace HB := Aside0.mk (below_drew1 HB.out); refine start_ (n := 14) (S := fun w' => w'.cell? ⟨gb627, 0, none⟩ = some (.int .i64 t624) ∧ w'.cell? ⟨gb627, 1, none⟩ = some (.int .u64 t625) ∧ w'.cell? ⟨gb595, 0, none⟩ = some (.int .i64 a0_0) ∧ w'.cell? ⟨gb595, 1, none⟩ = some (.int .u64 a0_1) ∧ w'.cell? ⟨gb595, 2, none⟩ = some (.int .i64 a0_2) ∧ w'.cell? ⟨gb595, 3, none⟩ = some (.int .u64 a0_3)) (ds := []) #[O, O, O, O, O, O, O, O, O, O, O, O, O, O] (by kernel_rfl) rfl rfl ⟨kc BK627 0, kc BK627 1, kc BK595 0, kc BK595 1, kc BK595 2, kc BK595 3⟩ (fun hHeld => ?_); refine with_tabW cobweblaw02_FracFloors.tab7 cobweblaw02_FracFloors.bits7 (fun HT_ HW_ => ?_)
   generalize w72.drew = w73 at BK595 BK598 BK627 HB hHeld ⊢
   refine one_ (i := 0) (N := some 44) #[T, O, O, O, O, O, O, O, O, O, O, O, O, O] rfl rfl (one_of HT_.out (by kernel_rfl)) (by decide) (fun K hK => ?_); refine goes_ Try.func16 (by kernel_rfl) rfl #[] (by rfl) rfl rfl (by (try simp only [zm, zc, zn]); first | done | rfl | (simp only [zd, zt]; rfl)) ?_
   with_reducible refine (cobweblaw02_alive.calls kj20  true _ A60.out).mono ?_
   rintro e w74 ⟨rfl, hb⟩; refine ⟨_, rfl, ?_⟩; replace BK595 := kb BK595 hb; replace BK598 := kb BK598 hb; replace BK627 := kb BK627 hb; replace HB := kB HB hb
   (try clear hb); (try clear hb2); (try clear hk); (try clear hi)
   refine hK.out _ _ ⟨kc BK627 0, kc BK627 1, kc BK595 0, kc BK595 1, kc BK595 2, kc BK595 3⟩ (fun hHeld => ?_); clear hK K
   refine norm_ (a' := ?_) ?_ ?_; rotate_left; focus (show Act.put _ (some 44) _ = _; simp only [Act.put, s1, s2, s3, i64_w, i32_w]; rfl)
   refine pure_ (i := 1) (N := some 45) (v := ?_) (a' := ?_) #[T, T, O, O, O, O, O, O, O, O, O, O, O, O] rfl rfl (any_of HT_.out (by kernel_rfl)) (fun _ _ _ h => h) (Or.inl ⟨by rfl, ?_⟩) ?_ ?_; rotate_left; focus (intro w'; go_simp; with_reducible rfl)
   rotate_left; focus (simp only [Act.put, s1, s2, s3, i64_w, i32_w]; rfl)
   refine pure_ (i := 2) (N := some 46) (v := ?_) (a' := ?_) #[T, T, T, O, O, O, O, O, O, O, O, O, O, O] rfl rfl (any_of HT_.out (by kernel_rfl)) (fun _ _ _ h => h) (Or.inl ⟨by rfl, ?_⟩) ?_ ?_; rotate_left; focus (intro w'; go_simp; with_reducible rfl)
   rotate_left; focus (simp only [Act.put, s1, s2, s3, i64_w, i32_w]; rfl)
   refine pure_ (i := 3) (N := some 47) (v := ?_) (a' := ?_) #[T, T, T, T, O, O, O, O, O, O, O, O, O, O] rfl rfl (any_of HT_.out (by kernel_rfl)) (fun _ _ _ h => h) (Or.inl ⟨by rfl, ?_⟩) ?_ ?_; rotate_left; focus (intro w'; go_simp; with_reducible rfl)
   rotate_left; focus (simp only [Act.put, s1, s2, s3, i64_w, i32_w]; rfl)
   refine pure_ (i := 4) (N := some 48) (v := ?_) (a' := ?_) #[T, T, T, T, T, O, O, O, O, O, O, O, O, O] rfl rfl (any_of HT_.out (by kernel_rfl)) (fun _ _ _ h => h) (Or.inl ⟨by rfl, ?_⟩) ?_ ?_; rotate_left; focus (intro w'; go_simp; with_reducible rfl)
   rotate_left; focus (simp only [Act.put, s1, s2, s3, i64_w, i32_w]; rfl)
   refine take_ (i := 5) (N := some 49) (v := ?_) (a' := ?_) #[T, T, T, T, T, T, O, O, O, O, O, O, O, O] rfl rfl (take_ofW HT_.out HW_.out (by kernel_rfl)) (fun _ _ _ h => h) (Or.inl ⟨by rfl, ?_⟩) hHeld ?_ ?_; rotate_left; focus (rintro w' ⟨s0, s1, s2, s3, s4, s5⟩; go_simp; with_reducible rfl)
   rotate_left; focus (simp only [Act.put, s1, s2, s3, i64_w, i32_w]; rfl)
   refine take_ (i := 8) (N := some 52) (v := ?_) (a' := ?_) #[T, T, T, T, T, T, O, O, T, O, O, O, O, O] rfl rfl (take_ofW HT_.out HW_.out (by kernel_rfl)) (fun _ _ _ h => h) (Or.inl ⟨by rfl, ?_⟩) hHeld ?_ ?_; rotate_left; focus (rintro w' ⟨s0, s1, s2, s3, s4, s5⟩; go_simp; with_reducible rfl)
   rotate_left; focus (simp only [Act.put, s1, s2, s3, i64_w, i32_w]; rfl)
   refine one_ (i := 6) (N := some 50) #[T, T, T, T, T, T, T, O, T, O, O, O, O, O] rfl rfl (one_of HT_.out (by kernel_rfl)) (by decide) (fun K hK => ?_); refine goes_ Try.func24 (by kernel_rfl) rfl #[.int .i64 1] (by rfl) rfl rfl (by (try simp only [zm, zc, zn]); first | done | rfl | (simp only [zd, zt]; rfl)) ?_
   with_reducible refine (wide_Of.calls 1 t629 t630 _ A63.out).mono ?_
   rintro e w75 ⟨rfl, hb⟩; refine ⟨_, rfl, ?_⟩; replace BK595 := kb BK595 hb; replace BK598 := kb BK598 hb; replace BK627 := kb BK627 hb; replace HB := kB HB hb
   (try clear hb); (try clear hb2); (try clear hk); (try clear hi)
   refine hK.out _ _ ⟨kc BK627 0, kc BK627 1, kc BK595 0, kc BK595 1, kc BK595 2, kc BK595 3⟩ (fun hHeld => ?_); clear hK K
   refine norm_ (a' := ?_) ?_ ?_; rotate_left; focus (show Act.put _ (some 50) _ = _; simp only [Act.put, s1, s2, s3, i64_w, i32_w]; rfl)
   refine pure_ (i := 7) (N := some 51) (v := ?_) (a' := ?_) #[T, T, T, T, T, T, T, T, T, O, O, O, O, O] rfl rfl (any_of HT_.out (by kernel_rfl)) (fun _ _ _ h => h) (Or.inl ⟨by rfl, ?_⟩) ?_ ?_; rotate_left; focus (intro w'; go_simp; with_reducible rfl)
   rotate_left; focus (simp only [Act.put, s1, s2, s3, i64_w, i32_w]; rfl)
   refine one_ (i := 9) (N := some 53) #[T, T, T, T, T, T, T, T, T, T, O, O, O, O] rfl rfl (one_of HT_.out (by kernel_rfl)) (by decide) (fun K hK => ?_); refine goes_ Try.func14 (by kernel_rfl) rfl #[.agg #[.int .i64 t624, .int .u64 t625, .int .i64 t629, .int .u64 t630], .agg #[.int .i64 a0_0, .int .u64 a0_1, .int .i64 a0_2, .int .u64 a0_3]] (by rfl) rfl rfl (by (try simp only [zm, zc, zn]); first | done | rfl | (simp only [zd, zt]; rfl)) ?_
   with_reducible refine (frac_Cmp.calls kj20 t624 t625 t629 t630 a0_0 a0_1 a0_2 a0_3 t631 _ A64.out).mono ?_
   rintro e w76 ⟨rfl, hb⟩; refine ⟨_, rfl, ?_⟩; replace BK595 := kb BK595 hb; replace BK598 := kb BK598 hb; replace BK627 := kb BK627 hb; replace HB := kB HB hb
   (try clear hb); (try clear hb2); (try clear hk); (try clear hi)
   refine hK.out _ _ ⟨kc BK627 0, kc BK627 1, kc BK595 0, kc BK595 1, kc BK595 2, kc BK595 3⟩ (fun hHeld => ?_); clear hK K
   refine norm_ (a' := ?_) ?_ ?_; rotate_left; focus (show Act.put _ (some 53) _ = _; simp only [Act.put, s1, s2, s3, i64_w, i32_w]; rfl)
   refine pure_ (i := 10) (N := some 54) (v := ?_) (a' := ?_) #[T, T, T, T, T, T, T, T, T, T, T, O, O, O] rfl rfl (any_of HT_.out (by kernel_rfl)) (fun _ _ _ h => h) (Or.inl ⟨by rfl, ?_⟩) ?_ ?_; rotate_left; focus (intro w'; go_simp; with_reducible rfl)
   rotate_left; focus (simp only [Act.put, s1, s2, s3, i64_w, i32_w]; rfl)
   refine pure_ (i := 11) (N := some 55) (v := ?_) (a' := ?_) #[T, T, T, T, T, T, T, T, T, T, T, T, O, O] rfl rfl (any_of HT_.out (by kernel_rfl)) (fun _ _ _ h => h) (Or.inl ⟨by rfl, ?_⟩) ?_ ?_; rotate_left; focus (intro w'; go_simp; with_reducible rfl)
   rotate_left; focus (simp only [Act.put, s1, s2, s3, i64_w, i32_w]; rfl)
   refine pure_ (i := 12) (N := some 56) (v := ?_) (a' := ?_) #[T, T, T, T, T, T, T, T, T, T, T, T, T, O] rfl rfl (any_of HT_.out (by kernel_rfl)) (fun _ _ _ h => h) (Or.inl ⟨by rfl, ?_⟩) ?_ ?_; rotate_left; focus (intro w'; go_simp; with_reducible rfl)
   rotate_left; focus (simp only [Act.put, s1, s2, s3, i64_w, i32_w]; rfl)
   refine pure_ (i := 13) (N := some 2) (v := ?_) (a' := ?_) #[T, T, T, T, T, T, T, T, T, T, T, T, T, T] rfl rfl (any_of HT_.out (by kernel_rfl)) (fun _ _ _ h => h) (Or.inl ⟨by rfl, ?_⟩) ?_ ?_; rotate_left; focus (intro w'; go_simp; with_reducible rfl)
   rotate_left; focus (simp only [Act.put, s1, s2, s3, i64_w, i32_w]; rfl)
   refine done_ (done_of HT_.out (by kernel_rfl)) ?_
   try go_wp2
   go_ret
   exact ⟨by first | rfl | (simp [errW_none, errW_some] <;> rfl) | (simp [*, errW_none, errW_some] <;> rfl), ky HB⟩
end Go.Proofs.Ytpjbniihdndlmab.Q
