-- Printed by wip/pp.sh (a session's own turning of the kit's print) for this seat.
import Derived.Test.YtpjbniihdndlmabQx0
import Derived.Test.YtpjbniihdndlmabQx14
import Derived.Test.YtpjbniihdndlmabQx21
import Derived.Test.YtpjbniihdndlmabQx25
import Derived.Test.YtpjbniihdndlmabQx26
import Derived.Test.YtpjbniihdndlmabQx27
namespace Go.Proofs.Ytpjbniihdndlmab.Q
open Go.RowKit Go.Proofs.YtpjbniihdndlmabW.PrintWords Go.Proofs.YtpjbniihdndlmabW.PrintLast Go.Proofs.YtpjbniihdndlmabW.PrintMore
open Go.Proofs.Ytpjbniihdndlmab.H
attribute [local go_sem] hq_add64 hq_sub64 hq_not64 add64c_nn sub64c_nn sub64c_le
attribute [local go_sem] max2_int min2_int max_two min_two max_three min_three max_four min_four   -- for this text's walks alone
set_option linter.unusedVariables false
set_option linter.unusedSimpArgs false

/-! ### cobwebref03_Snap: function 34 -/
def cobwebref03_Snap.f (k : Nat) (a0 : Int) (a1 : Int) : Option (Bool × List Int) := (cobwebref01_Of.f k a0).bind fun bt762 => ((cobwebref01_Of.f k 1).bind fun bt766 => ((cobwebref03_Rung.f a1).bind fun t771 => ((cobwebref02_Snap.f k bt762.1 bt762.2 bt766.1 bt766.2 t771).bind fun bt772 => (some (bt772.1, bt772.2)))))
theorem cobwebref03_Snap.mono : ∀ a0 a1 k, LeO (cobwebref03_Snap.f k a0 a1) (cobwebref03_Snap.f (k + 1) a0 a1) := by
 intro a0 a1 k
 unfold cobwebref03_Snap.f
 repeat' first
   | (with_reducible exact cobwebref01_Of.mono _ _)
   | (with_reducible exact cobwebref02_Snap.mono _ _ _ _ _ _)
   | (with_reducible exact LeO.refl _)
   | (with_reducible exact LeO.none _)
   | (with_reducible refine LeO.ite ?_ ?_)
   | (with_reducible refine LeO.bind ?_ (fun _ => ?_))
   | exact cobwebref01_Of.mono _ _
   | exact cobwebref02_Snap.mono _ _ _ _ _ _
   | exact LeO.none _
   | refine LeO.ite ?_ ?_
   | refine LeO.bind ?_ (fun _ => ?_)
set_option maxHeartbeats 8000000 in
set_option maxRecDepth 100000 in
theorem cobwebref03_Snap.calls (k : Nat) (a0 : Int) (a1 : Int) (r1 : Bool) (r2 : List Int) (w : World) (h : cobwebref03_Snap.f k a0 a1 = some (r1, r2)) :
  Calls Try.prog 34 #[.int .i64 a0, .int .i64 a1] w fun e w' => ∃ v1_ : Value, e = .returned (.agg #[.bool r1, v1_]) ∧ Kd.V (Kd.int .i64) 3 w' w.heap.size (fun k_ => (w.heap.size ≤ k_)) v1_ r2 ∧ Below w.heap.size w w' := by
 have hu33 := Try.underlying33; have hu35 := Try.underlying35; have HB := Aside0.mk (Below.refl w.heap.size w); have H : ((cobwebref01_Of.f k a0).bind fun bt762 => ((cobwebref01_Of.f k 1).bind fun bt766 => ((cobwebref03_Rung.f a1).bind fun t771 => ((cobwebref02_Snap.f k bt762.1 bt762.2 bt766.1 bt766.2 t771).bind fun bt772 => (some (bt772.1, bt772.2)))))) = some (r1, r2) := h; clear h; replace H := Option.bind_eq_some_iff.mp H; obtain ⟨⟨t762, t763⟩, A30, H⟩ := H; replace H : ((cobwebref01_Of.f k 1).bind fun bt766 => ((cobwebref03_Rung.f a1).bind fun t771 => ((cobwebref02_Snap.f k t762 t763 bt766.1 bt766.2 t771).bind fun bt772 => (some (bt772.1, bt772.2))))) = some (r1, r2) := H; have A3 := Aside0.mk A30; clear A30; replace H := Option.bind_eq_some_iff.mp H; obtain ⟨⟨t766, t767⟩, A40, H⟩ := H; replace H : ((cobwebref03_Rung.f a1).bind fun t771 => ((cobwebref02_Snap.f k t762 t763 t766 t767 t771).bind fun bt772 => (some (bt772.1, bt772.2)))) = some (r1, r2) := H; have A4 := Aside0.mk A40; clear A40; replace H := Option.bind_eq_some_iff.mp H; obtain ⟨t771, A50, H⟩ := H; replace H : ((cobwebref02_Snap.f k t762 t763 t766 t767 t771).bind fun bt772 => (some (bt772.1, bt772.2))) = some (r1, r2) := H; have A5 := Aside0.mk A50; clear A50; replace H := Option.bind_eq_some_iff.mp H; obtain ⟨⟨t772, t773⟩, A60, H⟩ := H; replace H : (some (t772, t773)) = some (r1, r2) := H; have A6 := Aside0.mk A60; clear A60
 simp only [Option.some.injEq, Prod.mk.injEq] at H
 obtain ⟨rfl, rfl⟩ := H
 go_enter Try.func34, Try.ntmps34
 try go_wp2_with (first | ((with_reducible refine gate_dst (N := 4) rfl ?_); refine box_event ?hg (N := 4) ?hd (cs := #[.bool false, .slice none 0 0]) (t := 33) ?hr ?_; (case hd => rfl); (case hg => rfl); (case hr => first | (go_simp; done) | (go_simp; rfl)); intro gb761 hg w7 hbox hb; have BK761 := Aside0.mk (hbox); have GW761 := kS HB hg; have GE761 := kS HB hg; replace HB := kB HB hb; clear hb hbox hg) | ((with_reducible refine gate_callee (f := 33) rfl ?_); refine goesL_ (some 7) rfl rfl Try.func33 (by kernel_rfl) rfl #[.int .i64 a0] rfl (by (try simp only [zm, zc, zn]); first | done | rfl | (simp only [zd, zt]; rfl)) ?_; (with_reducible refine (cobwebref01_Of.calls k a0 t762 t763 _ A3.out).mono ?_); rintro e w8 ⟨v764, rfl, ho0, hb⟩; refine ⟨_, rfl, ?_⟩; have HO765 := Aside0.mk (Kd.R_lower (Kd.R_newM (M := fun k_ => (w.heap.size ≤ k_)) ho0 (ko HB) (fun k_ h_ => h_)) (ko HB)); replace BK761 := kb BK761 hb; replace HB := kB HB hb; (try clear hb); (try clear hb2); (try clear hk); (try clear hi); (try clear ho0)) | ((with_reducible refine gate_callee (f := 33) rfl ?_); refine goesL_ (some 8) rfl rfl Try.func33 (by kernel_rfl) rfl #[.int .i64 1] rfl (by (try simp only [zm, zc, zn]); first | done | rfl | (simp only [zd, zt]; rfl)) ?_; (with_reducible refine (cobwebref01_Of.calls k 1 t766 t767 _ A4.out).mono ?_); rintro e w9 ⟨v768, rfl, ho0, hb⟩; refine ⟨_, rfl, ?_⟩; have n0_ := Aside0.mk (Kd.R_elder' (kr HO765) (Kd.R_base ho0) hb); have n1_ := Aside0.mk (Kd.R_lower (Kd.R_new' (Kd.R_newM (M := fun k_ => (w.heap.size ≤ k_)) ho0 (ko HB) (fun k_ h_ => h_)) (Kd.R_lt (kr HO765))) (ko HB)); have n2_ := kb BK761 hb; have n3_ := kB HB hb; clear HO765; clear BK761; clear HB; have HO765 := n0_; have HO769 := n1_; have BK761 := n2_; have HB := n3_; clear n0_ n1_ n2_ n3_; (try clear hb); (try clear hb2); (try clear hk); (try clear hi); (try clear ho0); obtain ⟨Ao10, co10, eo10⟩ := Kd.R_slice HO769.out; subst eo10; obtain ⟨Ao11, co11, eo11⟩ := Kd.R_slice HO765.out; subst eo11) | ((with_reducible refine gate_dst (N := 5) rfl ?_); refine box_event ?hg (N := 5) ?hd (cs := #[.bool false, .slice none 0 0, .bool false, .slice none 0 0]) (t := 35) ?hr ?_; (case hd => rfl); (case hg => rfl); (case hr => first | (go_simp; done) | (go_simp; rfl)); intro gb770 hg w12 hbox hb; have BK770 := Aside0.mk (hbox); have GW770 := kS HB hg; have GE770 := kS HB hg; have NB761_770 := kN BK761 hg; have NB770_761 := kM BK761 hg; replace HO765 := kR HO765 hb; replace HO769 := kR HO769 hb; replace BK761 := kb BK761 hb; replace HB := kB HB hb; clear hb hbox hg; have hnb13 := NB770_761.out; have hnc13 := NB761_770.out; have hcz14_0 : w12.cell? ⟨gb770, 0, none⟩ = some (.bool false) := kc BK770 0; have hcz14_1 : w12.cell? ⟨gb770, 1, none⟩ = some (.slice none 0 0) := kc BK770 1; have hcz14_2 : w12.cell? ⟨gb770, 2, none⟩ = some (.bool false) := kc BK770 2; have hcz14_3 : w12.cell? ⟨gb770, 3, none⟩ = some (.slice none 0 0) := kc BK770 3; have hfz14_0 := blk_frozen BK770.out 0; have hfz14_1 := blk_frozen BK770.out 1; have hfz14_2 := blk_frozen BK770.out 2; have hfz14_3 := blk_frozen BK770.out 3))
 have n0_ : Aside0 (Kd.R (Kd.int .i64) 3 ((((w12.setCell ⟨gb770, 0, none⟩ (.bool t762)).setCell ⟨gb770, 1, none⟩ (.slice Ao11 t763.length co11)).setCell ⟨gb770, 2, none⟩ (.bool t766)).setCell ⟨gb770, 3, none⟩ (.slice Ao10 t767.length co10)) w.heap.size (fun k_ => (w.heap.size ≤ k_) ∧ some k_ ≠ (.slice Ao10 t767.length co10 : Value).ownBlock) (.slice Ao11 t763.length co11) t763) := ⟨by (with_reducible repeat (first | apply Kd.R_alloc | apply Kd.R_drewN | apply Kd.R_drew)); exact Kd.R_mono (Kd.R_far (p := ⟨gb770, 3, none⟩) (Kd.R_far (p := ⟨gb770, 2, none⟩) (Kd.R_far (p := ⟨gb770, 1, none⟩) (Kd.R_far (p := ⟨gb770, 0, none⟩) (Kd.R_types HO765.out BK770.out (by decide)) (fun _ hk => hk.2) (.bool t762)) (fun _ hk => hk.2) (.slice Ao11 t763.length co11)) (fun _ hk => hk.2) (.bool t766)) (fun _ hk => hk.2) (.slice Ao10 t767.length co10)) (fun _ hk => ⟨hk.1.1.1, hk.1.2⟩)⟩; have n1_ : Aside0 (Kd.R (Kd.int .i64) 3 ((((w12.setCell ⟨gb770, 0, none⟩ (.bool t762)).setCell ⟨gb770, 1, none⟩ (.slice Ao11 t763.length co11)).setCell ⟨gb770, 2, none⟩ (.bool t766)).setCell ⟨gb770, 3, none⟩ (.slice Ao10 t767.length co10)) w.heap.size (fun k_ => (w.heap.size ≤ k_) ∧ some k_ ≠ (.slice Ao11 t763.length co11 : Value).ownBlock) (.slice Ao10 t767.length co10) t767) := ⟨by (with_reducible repeat (first | apply Kd.R_alloc | apply Kd.R_drewN | apply Kd.R_drew)); exact Kd.R_mono (Kd.R_far (p := ⟨gb770, 3, none⟩) (Kd.R_far (p := ⟨gb770, 2, none⟩) (Kd.R_far (p := ⟨gb770, 1, none⟩) (Kd.R_far (p := ⟨gb770, 0, none⟩) (Kd.R_types HO769.out BK770.out (by decide)) (fun _ hk => hk.2) (.bool t762)) (fun _ hk => hk.2) (.slice Ao11 t763.length co11)) (fun _ hk => hk.2) (.bool t766)) (fun _ hk => hk.2) (.slice Ao10 t767.length co10)) (fun _ hk => ⟨hk.1.1.1, hk.1.2⟩)⟩; have n2_ : Aside0 (((((w12.setCell ⟨gb770, 0, none⟩ (.bool t762)).setCell ⟨gb770, 1, none⟩ (.slice Ao11 t763.length co11)).setCell ⟨gb770, 2, none⟩ (.bool t766)).setCell ⟨gb770, 3, none⟩ (.slice Ao10 t767.length co10)).heap[gb761]? = some (.cells #[.bool false, .slice none 0 0] 33 (0, 0))) := ⟨kx BK761⟩
 have n3_ : Aside0 (((((w12.setCell ⟨gb770, 0, none⟩ (.bool t762)).setCell ⟨gb770, 1, none⟩ (.slice Ao11 t763.length co11)).setCell ⟨gb770, 2, none⟩ (.bool t766)).setCell ⟨gb770, 3, none⟩ (.slice Ao10 t767.length co10)).heap[gb770]? = some (.cells #[.bool t762, .slice Ao11 t763.length co11, .bool t766, .slice Ao10 t767.length co10] 35 (0, 0))) := ⟨by (with_reducible repeat (first | refine zr ?_ _ | refine zw ?_ | refine za ?_ _)); refine blk_put (cs := #[.bool t762, .slice Ao11 t763.length co11, .bool t766, .slice none 0 0]) ?_ 3 _ rfl; (with_reducible repeat (first | refine zr ?_ _ | refine zw ?_ | refine za ?_ _)); refine blk_put (cs := #[.bool t762, .slice Ao11 t763.length co11, .bool false, .slice none 0 0]) ?_ 2 _ rfl; (with_reducible repeat (first | refine zr ?_ _ | refine zw ?_ | refine za ?_ _)); refine blk_put (cs := #[.bool t762, .slice none 0 0, .bool false, .slice none 0 0]) ?_ 1 _ rfl; (with_reducible repeat (first | refine zr ?_ _ | refine zw ?_ | refine za ?_ _)); refine blk_put (cs := #[.bool false, .slice none 0 0, .bool false, .slice none 0 0]) ?_ 0 _ rfl; (with_reducible repeat (first | refine zr ?_ _ | refine zw ?_ | refine za ?_ _)); exact BK770.out⟩; have n4_ : Aside0 (Below w.heap.size w ((((w12.setCell ⟨gb770, 0, none⟩ (.bool t762)).setCell ⟨gb770, 1, none⟩ (.slice Ao11 t763.length co11)).setCell ⟨gb770, 2, none⟩ (.bool t766)).setCell ⟨gb770, 3, none⟩ (.slice Ao10 t767.length co10))) := ⟨ky HB⟩
 (try clear HO765); (try clear HO769); (try clear BK761); (try clear BK770); (try clear HB)
 generalize ((((w12.setCell ⟨gb770, 0, none⟩ (.bool t762)).setCell ⟨gb770, 1, none⟩ (.slice Ao11 t763.length co11)).setCell ⟨gb770, 2, none⟩ (.bool t766)).setCell ⟨gb770, 3, none⟩ (.slice Ao10 t767.length co10)) = w15 at n0_ n1_ n2_ n3_ n4_ ⊢
 have HO765 := n0_; have HO769 := n1_; have BK761 := n2_; have BK770 := n3_; have HB := n4_; clear n0_ n1_ n2_ n3_ n4_; replace HO765 := Aside0.mk (Kd.R_drew HO765.out); replace HO769 := Aside0.mk (Kd.R_drew HO769.out); replace BK761 := Aside0.mk (blk_drew BK761.out); replace BK770 := Aside0.mk (blk_drew BK770.out); replace HB := Aside0.mk (below_drew1 HB.out); refine start_ (n := 5) (S := fun w' => w'.cell? ⟨gb770, 0, none⟩ = some (.bool t762) ∧ w'.cell? ⟨gb770, 1, none⟩ = some (.slice Ao11 t763.length co11) ∧ w'.cell? ⟨gb770, 2, none⟩ = some (.bool t766) ∧ w'.cell? ⟨gb770, 3, none⟩ = some (.slice Ao10 t767.length co10)) (ds := []) #[O, O, O, O, O] (by kernel_rfl) rfl rfl ⟨kc BK770 0, kc BK770 1, kc BK770 2, kc BK770 3⟩ (fun hHeld => ?_)
 generalize w15.drew = w16 at HO765 HO769 BK761 BK770 HB hHeld ⊢
 refine pure_ (i := 1) (N := some 11) (v := ?_) (a' := ?_) #[O, T, O, O, O] rfl rfl (by kernel_rfl) (fun _ _ _ h => h) (Or.inl ⟨by rfl, ?_⟩) ?_ ?_; rotate_left; focus (intro w'; go_simp; with_reducible rfl)
 rotate_left; focus (simp only [Act.put, s1, s2, s3, i64_w, i32_w]; rfl)
 refine take_ (i := 0) (N := some 10) (v := ?_) (a' := ?_) #[T, T, O, O, O] rfl rfl (by kernel_rfl) (fun _ _ _ h => h) (Or.inl ⟨by rfl, ?_⟩) hHeld ?_ ?_; rotate_left; focus (rintro w' ⟨s0, s1, s2, s3⟩; go_simp; with_reducible rfl)
 rotate_left; focus (simp only [Act.put, s1, s2, s3, i64_w, i32_w]; rfl)
 refine one_ (i := 2) (N := some 12) #[T, T, T, O, O] rfl rfl (by kernel_rfl) (by decide) (fun K hK => ?_); refine goes_ Try.func36 (by kernel_rfl) rfl #[.int .i64 a1] (by rfl) rfl rfl (by (try simp only [zm, zc, zn]); first | done | rfl | (simp only [zd, zt]; rfl)) ?_
 with_reducible refine (cobwebref03_Rung.calls a1 t771 _ A5.out).mono ?_
 rintro e w' ⟨rfl, ⟨nd, rfl⟩⟩; refine ⟨_, rfl, ?_⟩; refine hK.out _ _ ⟨kc BK770 0, kc BK770 1, kc BK770 2, kc BK770 3⟩ (fun hHeld => ?_); clear hK K
 refine norm_ (a' := ?_) ?_ ?_; rotate_left; focus (show Act.put _ (some 12) _ = _; simp only [Act.put, s1, s2, s3, i64_w, i32_w]; rfl)
 refine one_ (i := 3) (N := some 13) #[T, T, T, T, O] rfl rfl (by kernel_rfl) (by decide) (fun K hK => ?_); refine goes_ Try.func27 (by kernel_rfl) rfl #[.agg #[.bool t762, .slice Ao11 t763.length co11, .bool t766, .slice Ao10 t767.length co10], .int .i64 t771] (by rfl) rfl rfl (by (try simp only [zm, zc, zn]); first | done | rfl | (simp only [zd, zt]; rfl)) ?_
 with_reducible refine (cobwebref02_Snap.calls k t762 _ _ t763 t766 _ _ t767 t771 t772 t773 _ ?side1 ?side2 ?side3 ?side4 A6.out).mono ?_
 (case side1 => repeat (first | exact (Kd.R_reads' HO765.out).2.2 | (with_reducible refine Kd.C_alloc ?_ _) | (with_reducible refine Kd.C_drewN ?_ _) | (with_reducible refine Kd.C_drew ?_)))
 (case side2 => exact (Kd.R_reads' HO765.out).2.1)
 (case side3 => repeat (first | exact (Kd.R_reads' HO769.out).2.2 | (with_reducible refine Kd.C_alloc ?_ _) | (with_reducible refine Kd.C_drewN ?_ _) | (with_reducible refine Kd.C_drew ?_)))
 (case side4 => exact (Kd.R_reads' HO769.out).2.1)
 rintro e w17 ⟨v774, rfl, ho0, hb⟩; refine ⟨_, rfl, ?_⟩; have HO775 := Aside0.mk (Kd.V_lower (Kd.V_mono (ok' := fun k_ => (w.heap.size ≤ k_) ∧ some k_ ≠ (.slice Ao11 t763.length co11 : Value).ownBlock ∧ some k_ ≠ (.slice Ao10 t767.length co10 : Value).ownBlock ∧ k_ ≠ gb761 ∧ k_ ≠ gb770) ho0 (fun k_ hk_ => ⟨(Nat.le_trans (ko HB) hk_), (Kd.fresh' (Kd.R_lt (kr HO765)) k_ hk_), (Kd.fresh' (Kd.R_lt (kr HO769)) k_ hk_), (kF BK761 k_ hk_), (kF BK770 k_ hk_)⟩)) (ko HB)); replace HO765 := kR HO765 hb; replace HO769 := kR HO769 hb; replace BK761 := kb BK761 hb; replace BK770 := kb BK770 hb; replace HB := kB HB hb
 (try clear hb); (try clear hb2); (try clear hk); (try clear hi); (try clear ho0)
 obtain ⟨Ao19, co19, eo19⟩ := Kd.V_slice HO775.out
 (first | subst eo19 | (injection eo19 with f1_ f2_ f3_; have f4_ := f1_.symm; have f5_ := f3_.symm; clear f1_ f2_ f3_; subst f4_; subst f5_))
 refine hK.out _ _ ⟨kc BK770 0, kc BK770 1, kc BK770 2, kc BK770 3⟩ (fun hHeld => ?_); clear hK K
 refine norm_ (a' := ?_) ?_ ?_; rotate_left; focus (show Act.put _ (some 13) _ = _; simp only [Act.put, s1, s2, s3, i64_w, i32_w]; rfl)
 refine one_ (i := 4) (N := none) #[T, T, T, T, T] rfl rfl (by kernel_rfl) (by decide) (fun K hK => ?_); have hs18 : w17.cell? ⟨gb761, 0, none⟩ = some (.bool false) := kc BK761 0; have hfs18 := blk_frozen BK761.out 0; have hns18_1 := NB770_761.out; have hms18_1 := NB761_770.out; have hs20 : w17.cell? ⟨gb761, 1, none⟩ = some (.slice none 0 0) := kc BK761 1; have hfs20 := blk_frozen BK761.out 1; have hns20_1 := NB770_761.out; have hms20_1 := NB761_770.out; refine skip_ (w1 := ?_) (by rfl) rfl ?_ ?_; rotate_left
 ·go_simp
  rfl
 refine hK.out _ _ ⟨((cell_far (p := ⟨gb761, _, none⟩) NB770_761.out _).trans (((cell_far (p := ⟨gb761, _, none⟩) NB770_761.out _).trans (hHeld.1)))), ((cell_far (p := ⟨gb761, _, none⟩) NB770_761.out _).trans (((cell_far (p := ⟨gb761, _, none⟩) NB770_761.out _).trans (hHeld.2.1)))), ((cell_far (p := ⟨gb761, _, none⟩) NB770_761.out _).trans (((cell_far (p := ⟨gb761, _, none⟩) NB770_761.out _).trans (hHeld.2.2.1)))), ((cell_far (p := ⟨gb761, _, none⟩) NB770_761.out _).trans (((cell_far (p := ⟨gb761, _, none⟩) NB770_761.out _).trans (hHeld.2.2.2))))⟩ (fun hHeld => ?_); clear hK K; refine done_ (by kernel_rfl) ?_
 try go_wp2
 refine bodyPost_ret (results_cell_row rfl _ _ gb761 33 #[.bool t772, .slice Ao19 t773.length co19] (0, 0) _ rfl (by (with_reducible repeat (first | refine zr ?_ _ | refine zw ?_ | refine za ?_ _)); refine blk_put (cs := #[.bool t772, .slice none 0 0]) ?_ 1 _ rfl; (with_reducible repeat (first | refine zr ?_ _ | refine zw ?_ | refine za ?_ _)); refine blk_put (cs := #[.bool false, .slice none 0 0]) ?_ 0 _ rfl; (with_reducible repeat (first | refine zr ?_ _ | refine zw ?_ | refine za ?_ _)); exact BK761.out) Try.underlying33 rfl (by kernel_rfl)) rfl ?_; exact ⟨_, by first | rfl | (simp [errW_none, errW_some] <;> rfl) | (simp [*, errW_none, errW_some] <;> rfl), by (with_reducible repeat (first | apply Kd.V_alloc | apply Kd.V_drewN | apply Kd.V_drew)); exact Kd.V_mono (Kd.V_far (p := ⟨gb761, 1, none⟩) (Kd.V_far (p := ⟨gb761, 0, none⟩) (Kd.V_mono HO775.out (fun k_ hk => (⟨hk, hk.2.2.2.1⟩ : _ ∧ k_ ≠ gb761))) (fun _ hk => hk.2) (.bool t772)) (fun _ hk => hk.2) (.slice Ao19 t773.length co19)) (fun _ hk => hk.1.1), ky HB⟩

/-! ### cobweblaw03_GridSnaps: function 8 -/
def cobweblaw03_GridSnaps.j0 : Nat → Int → Int → Int → Int → Bool → Option (Bool)
 | 0, _, _, _, _, _ => none
 | k + 1, x0, x1, x2, x7, x27 => if x27 = true then (some false) else ((grid_Of.f x0 x1 x2).bind fun bt865 => ((cobweblaw03_alive.f k).bind fun t868 => (if t868 = true then (if bt865.1 = x7 then ((grid_Snap.f x1 x2).bind fun t869 => (if bt865.2 = t869 then (if x0 > x1 then (some true) else (some (decide (x7 ≤ bt865.2)))) else (none))) else (none)) else (none))))
def cobweblaw03_GridSnaps.f (k : Nat) (a0 : Int) (a1 : Int) (a2 : Int) : Option (Bool) := (grid_Snap.f a0 a2).bind fun t853 => ((cobwebref01_Of.f k t853).bind fun bt854 => ((cobwebref03_Snap.f k a0 a2).bind fun bt858 => ((cobwebref01_Cmp.f k bt854.1 bt854.2 bt858.1 bt858.2).bind fun t862 => (if t862 = 0 then ((grid_Right.f a2).bind fun t863 => ((cobwebref03_Rung.f a2).bind fun t864 => (cobweblaw03_GridSnaps.j0 k a0 a1 a2 t853 (t863 != (a2 == t864))))) else (cobweblaw03_GridSnaps.j0 k a0 a1 a2 t853 true)))))
theorem cobweblaw03_GridSnaps.mono_l : ∀ k, (∀ y0 y1 y2 y3 y4, LeO (cobweblaw03_GridSnaps.j0 k y0 y1 y2 y3 y4) (cobweblaw03_GridSnaps.j0 (k + 1) y0 y1 y2 y3 y4))
 | 0 => fun _ _ _ _ _ r h => by simp [cobweblaw03_GridSnaps.j0] at h
 | k + 1 => by
  have ih0 := cobweblaw03_GridSnaps.mono_l k
  ·intro y0 y1 y2 y3 y4
   unfold cobweblaw03_GridSnaps.j0
   repeat' first
   | (with_reducible exact ih0 _ _ _ _ _)
   | (with_reducible exact cobweblaw03_alive.mono _)
   | (with_reducible exact cobwebref01_Cmp.mono _ _ _ _ _)
   | (with_reducible exact cobwebref01_Of.mono _ _)
   | (with_reducible exact cobwebref03_Snap.mono _ _ _)
   | (with_reducible exact LeO.refl _)
   | (with_reducible exact LeO.none _)
   | (with_reducible refine LeO.ite ?_ ?_)
   | (with_reducible refine LeO.bind ?_ (fun _ => ?_))
   | exact ih0 _ _ _ _ _
   | exact cobweblaw03_alive.mono _
   | exact cobwebref01_Cmp.mono _ _ _ _ _
   | exact cobwebref01_Of.mono _ _
   | exact cobwebref03_Snap.mono _ _ _
   | exact LeO.none _
   | refine LeO.ite ?_ ?_
   | refine LeO.bind ?_ (fun _ => ?_)
theorem cobweblaw03_GridSnaps.mono : ∀ a0 a1 a2 k, LeO (cobweblaw03_GridSnaps.f k a0 a1 a2) (cobweblaw03_GridSnaps.f (k + 1) a0 a1 a2) := by
 intro a0 a1 a2 k; have ih0 := cobweblaw03_GridSnaps.mono_l k
 unfold cobweblaw03_GridSnaps.f
 repeat' first
   | (with_reducible exact ih0 _ _ _ _ _)
   | (with_reducible exact cobweblaw03_alive.mono _)
   | (with_reducible exact cobwebref01_Cmp.mono _ _ _ _ _)
   | (with_reducible exact cobwebref01_Of.mono _ _)
   | (with_reducible exact cobwebref03_Snap.mono _ _ _)
   | (with_reducible exact LeO.refl _)
   | (with_reducible exact LeO.none _)
   | (with_reducible refine LeO.ite ?_ ?_)
   | (with_reducible refine LeO.bind ?_ (fun _ => ?_))
   | exact ih0 _ _ _ _ _
   | exact cobweblaw03_alive.mono _
   | exact cobwebref01_Cmp.mono _ _ _ _ _
   | exact cobwebref01_Of.mono _ _
   | exact cobwebref03_Snap.mono _ _ _
   | exact LeO.none _
   | refine LeO.ite ?_ ?_
   | refine LeO.bind ?_ (fun _ => ?_)
def cobweblaw03_GridSnaps.T5 : Bool × List (List Nat × List Nat) := (true, [([], []), ([0, 0], [0]), ([1], [1]), ([2, 1], [1, 2]), ([1], [1]), ([3, 4, 1], [1, 3, 4]), ([1, 5], [1, 5]), ([6, 1], [6]), ([7], [7]), ([8, 7], [7, 8]), ([7], [7]), ([7], [7]), ([10, 11, 7, 7], [7, 10, 11]), ([9, 12, 7], [7, 9, 12]), ([7, 13], [7, 13]), ([14, 12], [14]), ([15], [15]), ([15], [15]), ([16, 17, 15], [15, 16, 17]), ([18, 15, 15], [15, 18]), ([19], [19]), ([19], [19]), ([21, 19], [19, 21]), ([20, 22, 19], [19, 20, 22]), ([19, 23, 15], [15, 19, 23]), ([15, 24], [15, 24]), ([25, 19, 0, 1, 2, 3, 4, 5, 6, 7, 8, 9, 10, 11, 12, 13, 14, 15, 16, 17, 18, 19, 20, 21, 22, 23, 24, 25], [25])])
def cobweblaw03_GridSnaps.B5 : List Nat := [0, 1, 3, 7, 3, 31, 63, 127, 255, 511, 255, 255, 3327, 8191, 16383, 32767, 65535, 65535, 262143, 524287, 1048575, 1048575, 3145727, 8388607, 16777215, 33554431, 67108863]
theorem cobweblaw03_GridSnaps.tab5 : rtab .any (opsOf Try.f8 5) = cobweblaw03_GridSnaps.T5 := by kernel_rfl
theorem cobweblaw03_GridSnaps.bits5 : waitsOk cobweblaw03_GridSnaps.T5.2 cobweblaw03_GridSnaps.B5 = true := by kernel_rfl
set_option maxHeartbeats 8000000 in
set_option maxRecDepth 100000 in
theorem cobweblaw03_GridSnaps.calls (k : Nat) (a0 : Int) (a1 : Int) (a2 : Int) (r : Bool) (w : World) (h : cobweblaw03_GridSnaps.f k a0 a1 a2 = some r) :
  Calls Try.prog 8 #[.int .i64 a0, .int .i64 a1, .int .i64 a2] w fun e w' => e = .returned (.bool r) ∧ Below w.heap.size w w' := by
 have hu62 := Try.underlying62; have hu60 := Try.underlying60; have HB := Aside0.mk (Below.refl w.heap.size w); have H : ((grid_Snap.f a0 a2).bind fun t853 => ((cobwebref01_Of.f k t853).bind fun bt854 => ((cobwebref03_Snap.f k a0 a2).bind fun bt858 => ((cobwebref01_Cmp.f k bt854.1 bt854.2 bt858.1 bt858.2).bind fun t862 => (if t862 = 0 then ((grid_Right.f a2).bind fun t863 => ((cobwebref03_Rung.f a2).bind fun t864 => (cobweblaw03_GridSnaps.j0 k a0 a1 a2 t853 (t863 != (a2 == t864))))) else (cobweblaw03_GridSnaps.j0 k a0 a1 a2 t853 true)))))) = some r := h; clear h; replace H := Option.bind_eq_some_iff.mp H; obtain ⟨t853, A40, H⟩ := H; replace H : ((cobwebref01_Of.f k t853).bind fun bt854 => ((cobwebref03_Snap.f k a0 a2).bind fun bt858 => ((cobwebref01_Cmp.f k bt854.1 bt854.2 bt858.1 bt858.2).bind fun t862 => (if t862 = 0 then ((grid_Right.f a2).bind fun t863 => ((cobwebref03_Rung.f a2).bind fun t864 => (cobweblaw03_GridSnaps.j0 k a0 a1 a2 t853 (t863 != (a2 == t864))))) else (cobweblaw03_GridSnaps.j0 k a0 a1 a2 t853 true))))) = some r := H; have A4 := Aside0.mk A40; clear A40; have HC5 := Aside0.mk H; clear H
 go_enter Try.func8, Try.ntmps8
 go_upto_region 2 with (first | ((with_reducible refine gate_callee (f := 32) rfl ?_); refine goesL_ (some 11) rfl rfl Try.func32 (by kernel_rfl) rfl #[.int .i64 a0, .int .i64 a2] rfl (by (try simp only [zm, zc, zn]); first | done | rfl | (simp only [zd, zt]; rfl)) ?_; (with_reducible refine (grid_Snap.calls a0 a2 t853 _ A4.out).mono ?_); rintro e w6 ⟨rfl, hb⟩; refine ⟨_, rfl, ?_⟩; replace HB := kB HB hb; (try clear hb); (try clear hb2); (try clear hk); (try clear hi)))
 (try simp only [Act.put, s1, s2, s3])
 go_cut [27] (fun v27 wc => ∃ (kq : Nat) (x27_4 : Bool), v27 = .bool x27_4 ∧ Aside0 (cobweblaw03_GridSnaps.j0 kq a0 a1 a2 t853 x27_4 = some r) ∧ Aside0 (kq ≤ k) ∧ Aside0 (Below w.heap.size w wc))
 case first =>
  have H := HC5.out; clear HC5; replace H := Option.bind_eq_some_iff.mp H; obtain ⟨⟨t854, t855⟩, A70, H⟩ := H; replace H : ((cobwebref03_Snap.f k a0 a2).bind fun bt858 => ((cobwebref01_Cmp.f k t854 t855 bt858.1 bt858.2).bind fun t862 => (if t862 = 0 then ((grid_Right.f a2).bind fun t863 => ((cobwebref03_Rung.f a2).bind fun t864 => (cobweblaw03_GridSnaps.j0 k a0 a1 a2 t853 (t863 != (a2 == t864))))) else (cobweblaw03_GridSnaps.j0 k a0 a1 a2 t853 true)))) = some r := H; have A7 := Aside0.mk A70; clear A70; replace H := Option.bind_eq_some_iff.mp H; obtain ⟨⟨t858, t859⟩, A80, H⟩ := H; replace H : ((cobwebref01_Cmp.f k t854 t855 t858 t859).bind fun t862 => (if t862 = 0 then ((grid_Right.f a2).bind fun t863 => ((cobwebref03_Rung.f a2).bind fun t864 => (cobweblaw03_GridSnaps.j0 k a0 a1 a2 t853 (t863 != (a2 == t864))))) else (cobweblaw03_GridSnaps.j0 k a0 a1 a2 t853 true))) = some r := H; have A8 := Aside0.mk A80; clear A80; replace H := Option.bind_eq_some_iff.mp H; obtain ⟨t862, A90, H⟩ := H; replace H : (if t862 = 0 then ((grid_Right.f a2).bind fun t863 => ((cobwebref03_Rung.f a2).bind fun t864 => (cobweblaw03_GridSnaps.j0 k a0 a1 a2 t853 (t863 != (a2 == t864))))) else (cobweblaw03_GridSnaps.j0 k a0 a1 a2 t853 true)) = some r := H; have A9 := Aside0.mk A90; clear A90
  by_cases c10 : t862 = 0
  rotate_left
  ·rw [if_neg c10] at H
   have c10b0 : (t862 == 0) = false := beq_eq_false_iff_ne.mpr c10; have c10b1 : (t862 != 0) = true := bne_iff_ne.mpr c10
   (first | rw [c10b0] | (simp only [i64_w, i32_w]; rw [c10b0]) | skip)
   have H' := Aside0.mk H; clear H
   go_wp2_with (first | ((with_reducible refine gate_callee (f := 33) rfl ?_); refine goesL_ (some 13) rfl rfl Try.func33 (by kernel_rfl) rfl #[.int .i64 t853] rfl (by (try simp only [zm, zc, zn]); first | done | rfl | (simp only [zd, zt]; rfl)) ?_; (with_reducible refine (cobwebref01_Of.calls k t853 t854 t855 _ A7.out).mono ?_); rintro e w18 ⟨v856, rfl, ho0, hb⟩; refine ⟨_, rfl, ?_⟩; have HO857 := Aside0.mk (Kd.R_lower ho0 (ko HB)); replace HB := kB HB hb; (try clear hb); (try clear hb2); (try clear hk); (try clear hi); (try clear ho0)) | ((with_reducible refine gate_callee (f := 34) rfl ?_); refine goesL_ (some 16) rfl rfl Try.func34 (by kernel_rfl) rfl #[.int .i64 a0, .int .i64 a2] rfl (by (try simp only [zm, zc, zn]); first | done | rfl | (simp only [zd, zt]; rfl)) ?_; (with_reducible refine (cobwebref03_Snap.calls k a0 a2 t858 t859 _ A8.out).mono ?_); rintro e w19 ⟨v860, rfl, ho0, hb⟩; refine ⟨_, rfl, ?_⟩; have HO861 := Aside0.mk (Kd.V_lower (Kd.V_mono (ok' := fun k_ => some k_ ≠ (v856 : Value).ownBlock) ho0 (fun k_ hk_ => (Kd.fresh' (Kd.R_lt (kr HO857)) k_ hk_))) (ko HB)); replace HO857 := kR HO857 hb; replace HB := kB HB hb; (try clear hb); (try clear hb2); (try clear hk); (try clear hi); (try clear ho0); obtain ⟨Ao20, co20, eo20⟩ := Kd.R_slice HO857.out; subst eo20; obtain ⟨Ao21, co21, eo21⟩ := Kd.V_slice HO861.out; subst eo21) | ((with_reducible refine gate_callee (f := 21) rfl ?_); refine goesL_ (some 17) rfl rfl Try.func21 (by kernel_rfl) rfl #[.agg #[.bool t854, .slice Ao20 t855.length co20], .agg #[.bool t858, .slice Ao21 t859.length co21]] rfl (by (try simp only [zm, zc, zn]); first | done | rfl | (simp only [zd, zt]; rfl)) ?_; (with_reducible refine (cobwebref01_Cmp.calls k t854 _ _ t855 t858 _ _ t859 t862 _ ?side1 ?side2 ?side3 ?side4 A9.out).mono ?_); (case side1 => repeat (first | exact (Kd.R_reads' HO857.out).2.2 | (with_reducible refine Kd.C_alloc ?_ _) | (with_reducible refine Kd.C_drewN ?_ _) | (with_reducible refine Kd.C_drew ?_))); (case side2 => exact (Kd.R_reads' HO857.out).2.1); (case side3 => repeat (first | exact (Kd.V_reads' HO861.out).2.2 | (with_reducible refine Kd.C_alloc ?_ _) | (with_reducible refine Kd.C_drewN ?_ _) | (with_reducible refine Kd.C_drew ?_))); (case side4 => exact (Kd.V_reads' HO861.out).2.1); rintro e w22 ⟨rfl, hb⟩; refine ⟨_, rfl, ?_⟩; replace HO857 := kR HO857 hb; replace HO861 := kV HO861 hb; replace HB := kB HB hb; (try clear hb); (try clear hb2); (try clear hk); (try clear hi)))
   go_meet
   case rel => exact ⟨_, (true), (by first | rfl | (simp; done) | (simp [*]; done)), H', ⟨by first | omega | exact Nat.le_refl _⟩, ⟨ky HB⟩⟩
  rw [if_pos c10] at H
  have c10b0 : (t862 == 0) = true := beq_iff_eq.mpr c10; have c10b1 : (t862 != 0) = false := bne_eq_false_iff_eq.mpr c10; clear c10
  (first | rw [c10b0] | (simp only [i64_w, i32_w]; rw [c10b0]) | skip)
  replace H := Option.bind_eq_some_iff.mp H; obtain ⟨t863, A110, H⟩ := H; replace H : ((cobwebref03_Rung.f a2).bind fun t864 => (cobweblaw03_GridSnaps.j0 k a0 a1 a2 t853 (t863 != (a2 == t864)))) = some r := H; have A11 := Aside0.mk A110; clear A110; replace H := Option.bind_eq_some_iff.mp H; obtain ⟨t864, A120, H⟩ := H; replace H : (cobweblaw03_GridSnaps.j0 k a0 a1 a2 t853 (t863 != (a2 == t864))) = some r := H; have A12 := Aside0.mk A120; clear A120; have H' := Aside0.mk H; clear H
  go_wp2_with (first | ((with_reducible refine gate_callee (f := 33) rfl ?_); refine goesL_ (some 13) rfl rfl Try.func33 (by kernel_rfl) rfl #[.int .i64 t853] rfl (by (try simp only [zm, zc, zn]); first | done | rfl | (simp only [zd, zt]; rfl)) ?_; (with_reducible refine (cobwebref01_Of.calls k t853 t854 t855 _ A7.out).mono ?_); rintro e w13 ⟨v856, rfl, ho0, hb⟩; refine ⟨_, rfl, ?_⟩; have HO857 := Aside0.mk (Kd.R_lower ho0 (ko HB)); replace HB := kB HB hb; (try clear hb); (try clear hb2); (try clear hk); (try clear hi); (try clear ho0)) | ((with_reducible refine gate_callee (f := 34) rfl ?_); refine goesL_ (some 16) rfl rfl Try.func34 (by kernel_rfl) rfl #[.int .i64 a0, .int .i64 a2] rfl (by (try simp only [zm, zc, zn]); first | done | rfl | (simp only [zd, zt]; rfl)) ?_; (with_reducible refine (cobwebref03_Snap.calls k a0 a2 t858 t859 _ A8.out).mono ?_); rintro e w14 ⟨v860, rfl, ho0, hb⟩; refine ⟨_, rfl, ?_⟩; have HO861 := Aside0.mk (Kd.V_lower (Kd.V_mono (ok' := fun k_ => some k_ ≠ (v856 : Value).ownBlock) ho0 (fun k_ hk_ => (Kd.fresh' (Kd.R_lt (kr HO857)) k_ hk_))) (ko HB)); replace HO857 := kR HO857 hb; replace HB := kB HB hb; (try clear hb); (try clear hb2); (try clear hk); (try clear hi); (try clear ho0); obtain ⟨Ao15, co15, eo15⟩ := Kd.R_slice HO857.out; subst eo15; obtain ⟨Ao16, co16, eo16⟩ := Kd.V_slice HO861.out; subst eo16) | ((with_reducible refine gate_callee (f := 21) rfl ?_); refine goesL_ (some 17) rfl rfl Try.func21 (by kernel_rfl) rfl #[.agg #[.bool t854, .slice Ao15 t855.length co15], .agg #[.bool t858, .slice Ao16 t859.length co16]] rfl (by (try simp only [zm, zc, zn]); first | done | rfl | (simp only [zd, zt]; rfl)) ?_; (with_reducible refine (cobwebref01_Cmp.calls k t854 _ _ t855 t858 _ _ t859 t862 _ ?side1 ?side2 ?side3 ?side4 A9.out).mono ?_); (case side1 => repeat (first | exact (Kd.R_reads' HO857.out).2.2 | (with_reducible refine Kd.C_alloc ?_ _) | (with_reducible refine Kd.C_drewN ?_ _) | (with_reducible refine Kd.C_drew ?_))); (case side2 => exact (Kd.R_reads' HO857.out).2.1); (case side3 => repeat (first | exact (Kd.V_reads' HO861.out).2.2 | (with_reducible refine Kd.C_alloc ?_ _) | (with_reducible refine Kd.C_drewN ?_ _) | (with_reducible refine Kd.C_drew ?_))); (case side4 => exact (Kd.V_reads' HO861.out).2.1); rintro e w17 ⟨rfl, hb⟩; refine ⟨_, rfl, ?_⟩; replace HO857 := kR HO857 hb; replace HO861 := kV HO861 hb; replace HB := kB HB hb; (try clear hb); (try clear hb2); (try clear hk); (try clear hi)) | (go_at_call 35; (with_reducible refine (grid_Right.calls a2 t863 _ A11.out).mono ?_); rintro e w' ⟨rfl, ⟨nd, rfl⟩⟩) | (go_at_call 36; (with_reducible refine (cobwebref03_Rung.calls a2 t864 _ A12.out).mono ?_); rintro e w' ⟨rfl, ⟨nd, rfl⟩⟩))
  go_meet
  case rel => exact ⟨_, ((t863 != (a2 == t864))), (by first | rfl | (simp; done) | (simp [*]; done)), H', ⟨by first | omega | exact Nat.le_refl _⟩, ⟨ky HB⟩⟩
 case rest =>
  clear HC5; try clear c1; try clear c2; try clear p2; try clear c3; try clear c8; try clear c10; try clear c10b0; try clear c10b1; try clear c21
  obtain ⟨kq, x27_4, rfl, HA, HJ4, HB⟩ := hcut
  cases kq with
  | zero => exact absurd HA.out (by simp [cobweblaw03_GridSnaps.j0])
  | succ kj4 =>
   have H := HA.out; clear HA
   simp only [cobweblaw03_GridSnaps.j0] at H
   by_cases c23 : x27_4 = true
   ·subst c23
    have H1 : (some false) = some r := by rw [if_pos rfl] at H; exact H
    clear H; have H := H1; clear H1; obtain rfl := Option.some.inj H
    go_wp2
    go_ret
    exact ⟨by first | rfl | (simp [errW_none, errW_some] <;> rfl) | (simp [*, errW_none, errW_some] <;> rfl), ky HB⟩
   replace c23 := Bool.eq_false_iff.mpr c23; subst c23
   have H1 : ((grid_Of.f a0 a1 a2).bind fun bt865 => ((cobweblaw03_alive.f kj4).bind fun t868 => (if t868 = true then (if bt865.1 = t853 then ((grid_Snap.f a1 a2).bind fun t869 => (if bt865.2 = t869 then (if a0 > a1 then (some true) else (some (decide (t853 ≤ bt865.2)))) else (none))) else (none)) else (none)))) = some r := by rw [if_neg (show ¬ (false = true) by decide)] at H; exact H
   clear H; have H := H1; clear H1; replace H := Option.bind_eq_some_iff.mp H; obtain ⟨⟨t865, t866⟩, A240, H⟩ := H; replace H : ((cobweblaw03_alive.f kj4).bind fun t868 => (if t868 = true then (if t865 = t853 then ((grid_Snap.f a1 a2).bind fun t869 => (if t866 = t869 then (if a0 > a1 then (some true) else (some (decide (t853 ≤ t866)))) else (none))) else (none)) else (none))) = some r := H; have A24 := Aside0.mk A240; clear A240; replace H := Option.bind_eq_some_iff.mp H; obtain ⟨t868, A250, H⟩ := H; replace H : (if t868 = true then (if t865 = t853 then ((grid_Snap.f a1 a2).bind fun t869 => (if t866 = t869 then (if a0 > a1 then (some true) else (some (decide (t853 ≤ t866)))) else (none))) else (none)) else (none)) = some r := H; have A25 := Aside0.mk A250; clear A250
   by_cases c26 : t868 = true
   rotate_left
   ·replace c26 := Bool.eq_false_iff.mpr c26; subst c26
    have H1 : (none) = some r := by rw [if_neg (show ¬ (false = true) by decide)] at H; exact H
    clear H; have H := H1; clear H1; exact absurd H (by simp)

   subst c26
   have H1 : (if t865 = t853 then ((grid_Snap.f a1 a2).bind fun t869 => (if t866 = t869 then (if a0 > a1 then (some true) else (some (decide (t853 ≤ t866)))) else (none))) else (none)) = some r := by rw [if_pos rfl] at H; exact H
   clear H; have H := H1; clear H1
   by_cases c27 : t865 = t853
   rotate_left
   ·rw [if_neg c27] at H
    exact absurd H (by simp)
   rw [if_pos c27] at H
   have c27b0 : (t865 == t853) = true := beq_iff_eq.mpr c27; have c27b1 : (t865 != t853) = false := bne_eq_false_iff_eq.mpr c27; clear c27; replace H := Option.bind_eq_some_iff.mp H; obtain ⟨t869, A280, H⟩ := H; replace H : (if t866 = t869 then (if a0 > a1 then (some true) else (some (decide (t853 ≤ t866)))) else (none)) = some r := H; have A28 := Aside0.mk A280; clear A280
   by_cases c29 : t866 = t869
   rotate_left
   ·rw [if_neg c29] at H
    exact absurd H (by simp)
   rw [if_pos c29] at H
   have c29b0 : (t866 == t869) = true := beq_iff_eq.mpr c29; have c29b1 : (t866 != t869) = false := bne_eq_false_iff_eq.mpr c29; clear c29
   by_cases c30 : a0 > a1
   ·rw [if_pos c30] at H
    have c30b0 : decide (a1 < a0) = true := decide_eq_true c30; clear c30; obtain rfl := Option.some.inj H
    try go_wp2_with (first | ((with_reducible refine gate_callee (f := 37) rfl ?_); refine goesL_ (some 32) rfl rfl Try.func37 (by kernel_rfl) rfl #[.agg #[.int .i64 a0, .int .i64 a1], .int .i64 a2] rfl (by (try simp only [zm, zc, zn]); first | done | rfl | (simp only [zd, zt]; rfl)) ?_; (with_reducible refine (grid_Of.calls a0 a1 a2 t865 t866 _ A24.out).mono ?_); rintro e w31 ⟨rfl, hb⟩; refine ⟨_, rfl, ?_⟩; replace HB := kB HB hb; (try clear hb); (try clear hb2); (try clear hk); (try clear hi)) | ((with_reducible refine gate_dst (N := 8) rfl ?_); refine box_event ?hg (N := 8) ?hd (cs := #[.int .i64 0, .int .i64 0]) (t := 60) ?hr ?_; (case hd => rfl); (case hg => rfl); (case hr => first | (go_simp; done) | (go_simp; rfl)); intro gb867 hg w32 hbox hb; have BK867 := Aside0.mk (hbox); have GW867 := kS HB hg; have GE867 := kS HB hg; replace HB := kB HB hb; clear hb hbox hg; have hcz33_0 : w32.cell? ⟨gb867, 0, none⟩ = some (.int .i64 0) := kc BK867 0; have hcz33_1 : w32.cell? ⟨gb867, 1, none⟩ = some (.int .i64 0) := kc BK867 1; have hfz33_0 := blk_frozen BK867.out 0; have hfz33_1 := blk_frozen BK867.out 1))
    have n0_ : Aside0 (((w32.setCell ⟨gb867, 0, none⟩ (.int .i64 t865)).setCell ⟨gb867, 1, none⟩ (.int .i64 t866)).heap[gb867]? = some (.cells #[.int .i64 t865, .int .i64 t866] 60 (0, 0))) := ⟨by (with_reducible repeat (first | refine zr ?_ _ | refine zw ?_ | refine za ?_ _)); refine blk_put (cs := #[.int .i64 t865, .int .i64 0]) ?_ 1 _ rfl; (with_reducible repeat (first | refine zr ?_ _ | refine zw ?_ | refine za ?_ _)); refine blk_put (cs := #[.int .i64 0, .int .i64 0]) ?_ 0 _ rfl; (with_reducible repeat (first | refine zr ?_ _ | refine zw ?_ | refine za ?_ _)); exact BK867.out⟩; have n1_ : Aside0 (Below w.heap.size w ((w32.setCell ⟨gb867, 0, none⟩ (.int .i64 t865)).setCell ⟨gb867, 1, none⟩ (.int .i64 t866))) := ⟨ky HB⟩
    (try clear BK867); (try clear HB)
    generalize ((w32.setCell ⟨gb867, 0, none⟩ (.int .i64 t865)).setCell ⟨gb867, 1, none⟩ (.int .i64 t866)) = w34 at n0_ n1_ ⊢
    have BK867 := n0_; have HB := n1_; clear n0_ n1_; replace BK867 := Aside0.mk (blk_drew BK867.out); replace HB := Aside0.mk (below_drew1 HB.out); refine start_ (n := 27) (S := fun w' => w'.cell? ⟨gb867, 0, none⟩ = some (.int .i64 t865) ∧ w'.cell? ⟨gb867, 1, none⟩ = some (.int .i64 t866)) (ds := []) #[O, O, O, O, O, O, O, O, O, O, O, O, O, O, O, O, O, O, O, O, O, O, O, O, O, O, O] (by kernel_rfl) rfl rfl ⟨kc BK867 0, kc BK867 1⟩ (fun hHeld => ?_); refine with_tabW cobweblaw03_GridSnaps.tab5 cobweblaw03_GridSnaps.bits5 (fun HT_ HW_ => ?_)
    generalize w34.drew = w35 at BK867 HB hHeld ⊢
    refine one_ (i := 0) (N := some 33) #[T, O, O, O, O, O, O, O, O, O, O, O, O, O, O, O, O, O, O, O, O, O, O, O, O, O, O] rfl rfl (one_of HT_.out (by kernel_rfl)) (by decide) (fun K hK => ?_); refine goes_ Try.func38 (by kernel_rfl) rfl #[] (by rfl) rfl rfl (by (try simp only [zm, zc, zn]); first | done | rfl | (simp only [zd, zt]; rfl)) ?_
    with_reducible refine (cobweblaw03_alive.calls kj4  true _ A25.out).mono ?_
    rintro e w36 ⟨rfl, hb⟩; refine ⟨_, rfl, ?_⟩; replace BK867 := kb BK867 hb; replace HB := kB HB hb
    (try clear hb); (try clear hb2); (try clear hk); (try clear hi)
    refine hK.out _ _ ⟨kc BK867 0, kc BK867 1⟩ (fun hHeld => ?_); clear hK K
    refine norm_ (a' := ?_) ?_ ?_; rotate_left; focus (show Act.put _ (some 33) _ = _; simp only [Act.put, s1, s2, s3, i64_w, i32_w]; rfl)
    refine pure_ (i := 1) (N := some 34) (v := ?_) (a' := ?_) #[T, T, O, O, O, O, O, O, O, O, O, O, O, O, O, O, O, O, O, O, O, O, O, O, O, O, O] rfl rfl (any_of HT_.out (by kernel_rfl)) (fun _ _ _ h => h) (Or.inl ⟨by rfl, ?_⟩) ?_ ?_; rotate_left; focus (intro w'; go_simp; with_reducible rfl)
    rotate_left; focus (simp only [Act.put, s1, s2, s3, i64_w, i32_w]; rfl)
    refine pure_ (i := 2) (N := some 35) (v := ?_) (a' := ?_) #[T, T, T, O, O, O, O, O, O, O, O, O, O, O, O, O, O, O, O, O, O, O, O, O, O, O, O] rfl rfl (any_of HT_.out (by kernel_rfl)) (fun _ _ _ h => h) (Or.inl ⟨by rfl, ?_⟩) ?_ ?_; rotate_left; focus (intro w'; go_simp; with_reducible rfl)
    rotate_left; focus (simp only [Act.put, s1, s2, s3, i64_w, i32_w]; rfl)
    refine pure_ (i := 4) (N := some 37) (v := ?_) (a' := ?_) #[T, T, T, O, T, O, O, O, O, O, O, O, O, O, O, O, O, O, O, O, O, O, O, O, O, O, O] rfl rfl (any_of HT_.out (by kernel_rfl)) (fun _ _ _ h => h) (Or.inl ⟨by rfl, ?_⟩) ?_ ?_; rotate_left; focus (intro w'; go_simp; with_reducible rfl)
    rotate_left; focus (simp only [Act.put, s1, s2, s3, i64_w, i32_w]; rfl)
    refine take_ (i := 3) (N := some 36) (v := ?_) (a' := ?_) #[T, T, T, T, T, O, O, O, O, O, O, O, O, O, O, O, O, O, O, O, O, O, O, O, O, O, O] rfl rfl (take_ofW HT_.out HW_.out (by kernel_rfl)) (fun _ _ _ h => h) (Or.inl ⟨by rfl, ?_⟩) hHeld ?_ ?_; rotate_left; focus (rintro w' ⟨s0, s1⟩; go_simp; with_reducible rfl)
    rotate_left; focus (simp only [Act.put, s1, s2, s3, i64_w, i32_w]; rfl)
    refine pure_ (i := 5) (N := some 38) (v := ?_) (a' := ?_) #[T, T, T, T, T, T, O, O, O, O, O, O, O, O, O, O, O, O, O, O, O, O, O, O, O, O, O] rfl rfl (any_of HT_.out (by kernel_rfl)) (fun _ _ _ h => h) (Or.inl ⟨by rfl, ?_⟩) ?_ ?_; rotate_left; focus (intro w'; go_simp; with_reducible rfl)
    rotate_left; focus (simp only [Act.put, s1, s2, s3, i64_w, i32_w]; rfl)
    refine pure_ (i := 6) (N := some 39) (v := ?_) (a' := ?_) #[T, T, T, T, T, T, T, O, O, O, O, O, O, O, O, O, O, O, O, O, O, O, O, O, O, O, O] rfl rfl (any_of HT_.out (by kernel_rfl)) (fun _ _ _ h => h) (Or.inl ⟨by rfl, ?_⟩) ?_ ?_; rotate_left; focus (intro w'; go_simp; with_reducible rfl)
    rotate_left; focus (simp only [Act.put, s1, s2, s3, i64_w, i32_w]; rfl)
    refine pure_ (i := 7) (N := some 40) (v := ?_) (a' := ?_) #[T, T, T, T, T, T, T, T, O, O, O, O, O, O, O, O, O, O, O, O, O, O, O, O, O, O, O] rfl rfl (any_of HT_.out (by kernel_rfl)) (fun _ _ _ h => h) (Or.inl ⟨by rfl, ?_⟩) ?_ ?_; rotate_left; focus (intro w'; go_simp; with_reducible rfl)
    rotate_left; focus (simp only [Act.put, s1, s2, s3, i64_w, i32_w]; rfl)
    refine pure_ (i := 8) (N := some 41) (v := ?_) (a' := ?_) #[T, T, T, T, T, T, T, T, T, O, O, O, O, O, O, O, O, O, O, O, O, O, O, O, O, O, O] rfl rfl (any_of HT_.out (by kernel_rfl)) (fun _ _ _ h => h) (Or.inl ⟨by rfl, ?_⟩) ?_ ?_; rotate_left; focus (intro w'; go_simp; with_reducible rfl)
    rotate_left; focus (simp only [Act.put, s1, s2, s3, i64_w, i32_w]; rfl)
    refine pure_ (i := 10) (N := some 43) (v := ?_) (a' := ?_) #[T, T, T, T, T, T, T, T, T, O, T, O, O, O, O, O, O, O, O, O, O, O, O, O, O, O, O] rfl rfl (any_of HT_.out (by kernel_rfl)) (fun _ _ _ h => h) (Or.inl ⟨by rfl, ?_⟩) ?_ ?_; rotate_left; focus (intro w'; go_simp; with_reducible rfl)
    rotate_left; focus (simp only [Act.put, s1, s2, s3, i64_w, i32_w]; rfl)
    refine pure_ (i := 11) (N := some 44) (v := ?_) (a' := ?_) #[T, T, T, T, T, T, T, T, T, O, T, T, O, O, O, O, O, O, O, O, O, O, O, O, O, O, O] rfl rfl (any_of HT_.out (by kernel_rfl)) (fun _ _ _ h => h) (Or.inl ⟨by rfl, ?_⟩) ?_ ?_; rotate_left; focus (intro w'; go_simp; with_reducible rfl)
    rotate_left; focus (simp only [Act.put, s1, s2, s3, i64_w, i32_w]; rfl)
    refine take_ (i := 9) (N := some 42) (v := ?_) (a' := ?_) #[T, T, T, T, T, T, T, T, T, T, T, T, O, O, O, O, O, O, O, O, O, O, O, O, O, O, O] rfl rfl (take_ofW HT_.out HW_.out (by kernel_rfl)) (fun _ _ _ h => h) (Or.inl ⟨by rfl, ?_⟩) hHeld ?_ ?_; rotate_left; focus (rintro w' ⟨s0, s1⟩; go_simp; with_reducible rfl)
    rotate_left; focus (simp only [Act.put, s1, s2, s3, i64_w, i32_w]; rfl)
    refine one_ (i := 12) (N := some 45) #[T, T, T, T, T, T, T, T, T, T, T, T, T, O, O, O, O, O, O, O, O, O, O, O, O, O, O] rfl rfl (one_of HT_.out (by kernel_rfl)) (by decide) (fun K hK => ?_); refine goes_ Try.func32 (by kernel_rfl) rfl #[.int .i64 a1, .int .i64 a2] (by rfl) rfl rfl (by (try simp only [zm, zc, zn]); first | done | rfl | (simp only [zd, zt]; rfl)) ?_
    with_reducible refine (grid_Snap.calls a1 a2 t869 _ A28.out).mono ?_
    rintro e w37 ⟨rfl, hb⟩; refine ⟨_, rfl, ?_⟩; replace BK867 := kb BK867 hb; replace HB := kB HB hb
    (try clear hb); (try clear hb2); (try clear hk); (try clear hi)
    refine hK.out _ _ ⟨kc BK867 0, kc BK867 1⟩ (fun hHeld => ?_); clear hK K
    refine norm_ (a' := ?_) ?_ ?_; rotate_left; focus (show Act.put _ (some 45) _ = _; simp only [Act.put, s1, s2, s3, i64_w, i32_w]; rfl)
    refine pure_ (i := 13) (N := some 46) (v := ?_) (a' := ?_) #[T, T, T, T, T, T, T, T, T, T, T, T, T, T, O, O, O, O, O, O, O, O, O, O, O, O, O] rfl rfl (any_of HT_.out (by kernel_rfl)) (fun _ _ _ h => h) (Or.inl ⟨by rfl, ?_⟩) ?_ ?_; rotate_left; focus (intro w'; go_simp; with_reducible rfl)
    rotate_left; focus (simp only [Act.put, s1, s2, s3, i64_w, i32_w]; rfl)
    refine pure_ (i := 14) (N := some 47) (v := ?_) (a' := ?_) #[T, T, T, T, T, T, T, T, T, T, T, T, T, T, T, O, O, O, O, O, O, O, O, O, O, O, O] rfl rfl (any_of HT_.out (by kernel_rfl)) (fun _ _ _ h => h) (Or.inl ⟨by rfl, ?_⟩) ?_ ?_; rotate_left; focus (intro w'; go_simp; with_reducible rfl)
    rotate_left; focus (simp only [Act.put, s1, s2, s3, i64_w, i32_w]; rfl)
    refine pure_ (i := 15) (N := some 48) (v := ?_) (a' := ?_) #[T, T, T, T, T, T, T, T, T, T, T, T, T, T, T, T, O, O, O, O, O, O, O, O, O, O, O] rfl rfl (any_of HT_.out (by kernel_rfl)) (fun _ _ _ h => h) (Or.inl ⟨by rfl, ?_⟩) ?_ ?_; rotate_left; focus (intro w'; go_simp; with_reducible rfl)
    rotate_left; focus (simp only [Act.put, s1, s2, s3, i64_w, i32_w]; rfl)
    refine pure_ (i := 16) (N := some 49) (v := ?_) (a' := ?_) #[T, T, T, T, T, T, T, T, T, T, T, T, T, T, T, T, T, O, O, O, O, O, O, O, O, O, O] rfl rfl (any_of HT_.out (by kernel_rfl)) (fun _ _ _ h => h) (Or.inl ⟨by rfl, ?_⟩) ?_ ?_; rotate_left; focus (intro w'; go_simp; with_reducible rfl)
    rotate_left; focus (simp only [Act.put, s1, s2, s3, i64_w, i32_w]; rfl)
    refine pure_ (i := 17) (N := some 50) (v := ?_) (a' := ?_) #[T, T, T, T, T, T, T, T, T, T, T, T, T, T, T, T, T, T, O, O, O, O, O, O, O, O, O] rfl rfl (any_of HT_.out (by kernel_rfl)) (fun _ _ _ h => h) (Or.inl ⟨by rfl, ?_⟩) ?_ ?_; rotate_left; focus (intro w'; go_simp; with_reducible rfl)
    rotate_left; focus (simp only [Act.put, s1, s2, s3, i64_w, i32_w]; rfl)
    refine pure_ (i := 18) (N := some 51) (v := ?_) (a' := ?_) #[T, T, T, T, T, T, T, T, T, T, T, T, T, T, T, T, T, T, T, O, O, O, O, O, O, O, O] rfl rfl (any_of HT_.out (by kernel_rfl)) (fun _ _ _ h => h) (Or.inl ⟨by rfl, ?_⟩) ?_ ?_; rotate_left; focus (intro w'; go_simp; with_reducible rfl)
    rotate_left; focus (simp only [Act.put, s1, s2, s3, i64_w, i32_w]; rfl)
    refine pure_ (i := 19) (N := some 52) (v := ?_) (a' := ?_) #[T, T, T, T, T, T, T, T, T, T, T, T, T, T, T, T, T, T, T, T, O, O, O, O, O, O, O] rfl rfl (any_of HT_.out (by kernel_rfl)) (fun _ _ _ h => h) (Or.inl ⟨by rfl, ?_⟩) ?_ ?_; rotate_left; focus (intro w'; go_simp; with_reducible rfl)
    rotate_left; focus (simp only [Act.put, s1, s2, s3, i64_w, i32_w]; rfl)
    refine pure_ (i := 20) (N := some 53) (v := undef) (a' := ?_) #[T, T, T, T, T, T, T, T, T, T, T, T, T, T, T, T, T, T, T, T, T, O, O, O, O, O, O] rfl rfl (any_of HT_.out (by kernel_rfl)) (fun _ _ _ h => h) (Or.inr ⟨by rfl, rfl⟩) ?_ ?_; rotate_left; focus (simp only [Act.put, s1, s2, s3, i64_w, i32_w]; rfl)
    refine pure_ (i := 21) (N := some 54) (v := undef) (a' := ?_) #[T, T, T, T, T, T, T, T, T, T, T, T, T, T, T, T, T, T, T, T, T, T, O, O, O, O, O] rfl rfl (any_of HT_.out (by kernel_rfl)) (fun _ _ _ h => h) (Or.inr ⟨by rfl, rfl⟩) ?_ ?_; rotate_left; focus (simp only [Act.put, s1, s2, s3, i64_w, i32_w]; rfl)
    refine pure_ (i := 22) (N := some 55) (v := undef) (a' := ?_) #[T, T, T, T, T, T, T, T, T, T, T, T, T, T, T, T, T, T, T, T, T, T, T, O, O, O, O] rfl rfl (any_of HT_.out (by kernel_rfl)) (fun _ _ _ h => h) (Or.inr ⟨by rfl, rfl⟩) ?_ ?_; rotate_left; focus (simp only [Act.put, s1, s2, s3, i64_w, i32_w]; rfl)
    refine pure_ (i := 23) (N := some 56) (v := undef) (a' := ?_) #[T, T, T, T, T, T, T, T, T, T, T, T, T, T, T, T, T, T, T, T, T, T, T, T, O, O, O] rfl rfl (any_of HT_.out (by kernel_rfl)) (fun _ _ _ h => h) (Or.inr ⟨by rfl, rfl⟩) ?_ ?_; rotate_left; focus (simp only [Act.put, s1, s2, s3, i64_w, i32_w]; rfl)
    refine pure_ (i := 24) (N := some 57) (v := ?_) (a' := ?_) #[T, T, T, T, T, T, T, T, T, T, T, T, T, T, T, T, T, T, T, T, T, T, T, T, T, O, O] rfl rfl (any_of HT_.out (by kernel_rfl)) (fun _ _ _ h => h) (Or.inl ⟨by rfl, ?_⟩) ?_ ?_; rotate_left; focus (intro w'; go_simp; with_reducible rfl)
    rotate_left; focus (simp only [Act.put, s1, s2, s3, i64_w, i32_w]; rfl)
    refine pure_ (i := 25) (N := some 58) (v := ?_) (a' := ?_) #[T, T, T, T, T, T, T, T, T, T, T, T, T, T, T, T, T, T, T, T, T, T, T, T, T, T, O] rfl rfl (any_of HT_.out (by kernel_rfl)) (fun _ _ _ h => h) (Or.inl ⟨by rfl, ?_⟩) ?_ ?_; rotate_left; focus (intro w'; go_simp; with_reducible rfl)
    rotate_left; focus (simp only [Act.put, s1, s2, s3, i64_w, i32_w]; rfl)
    refine pure_ (i := 26) (N := some 6) (v := ?_) (a' := ?_) #[T, T, T, T, T, T, T, T, T, T, T, T, T, T, T, T, T, T, T, T, T, T, T, T, T, T, T] rfl rfl (any_of HT_.out (by kernel_rfl)) (fun _ _ _ h => h) (Or.inl ⟨by rfl, ?_⟩) ?_ ?_; rotate_left; focus (intro w'; go_simp; with_reducible rfl)
    rotate_left; focus (simp only [Act.put, s1, s2, s3, i64_w, i32_w]; rfl)
    refine done_ (done_of HT_.out (by kernel_rfl)) ?_
    try go_wp2
    go_ret
    exact ⟨by first | rfl | (simp [errW_none, errW_some] <;> rfl) | (simp [*, errW_none, errW_some] <;> rfl), ky HB⟩
   rw [if_neg c30] at H
   have c30b0 : decide (a1 < a0) = false := decide_eq_false c30; clear c30; obtain rfl := Option.some.inj H
   try go_wp2_with (first | ((with_reducible refine gate_callee (f := 37) rfl ?_); refine goesL_ (some 32) rfl rfl Try.func37 (by kernel_rfl) rfl #[.agg #[.int .i64 a0, .int .i64 a1], .int .i64 a2] rfl (by (try simp only [zm, zc, zn]); first | done | rfl | (simp only [zd, zt]; rfl)) ?_; (with_reducible refine (grid_Of.calls a0 a1 a2 t865 t866 _ A24.out).mono ?_); rintro e w38 ⟨rfl, hb⟩; refine ⟨_, rfl, ?_⟩; replace HB := kB HB hb; (try clear hb); (try clear hb2); (try clear hk); (try clear hi)) | ((with_reducible refine gate_dst (N := 8) rfl ?_); refine box_event ?hg (N := 8) ?hd (cs := #[.int .i64 0, .int .i64 0]) (t := 60) ?hr ?_; (case hd => rfl); (case hg => rfl); (case hr => first | (go_simp; done) | (go_simp; rfl)); intro gb867 hg w39 hbox hb; have BK867 := Aside0.mk (hbox); have GW867 := kS HB hg; have GE867 := kS HB hg; replace HB := kB HB hb; clear hb hbox hg; have hcz40_0 : w39.cell? ⟨gb867, 0, none⟩ = some (.int .i64 0) := kc BK867 0; have hcz40_1 : w39.cell? ⟨gb867, 1, none⟩ = some (.int .i64 0) := kc BK867 1; have hfz40_0 := blk_frozen BK867.out 0; have hfz40_1 := blk_frozen BK867.out 1))
   have n0_ : Aside0 (((w39.setCell ⟨gb867, 0, none⟩ (.int .i64 t865)).setCell ⟨gb867, 1, none⟩ (.int .i64 t866)).heap[gb867]? = some (.cells #[.int .i64 t865, .int .i64 t866] 60 (0, 0))) := ⟨by (with_reducible repeat (first | refine zr ?_ _ | refine zw ?_ | refine za ?_ _)); refine blk_put (cs := #[.int .i64 t865, .int .i64 0]) ?_ 1 _ rfl; (with_reducible repeat (first | refine zr ?_ _ | refine zw ?_ | refine za ?_ _)); refine blk_put (cs := #[.int .i64 0, .int .i64 0]) ?_ 0 _ rfl; (with_reducible repeat (first | refine zr ?_ _ | refine zw ?_ | refine za ?_ _)); exact BK867.out⟩; have n1_ : Aside0 (Below w.heap.size w ((w39.setCell ⟨gb867, 0, none⟩ (.int .i64 t865)).setCell ⟨gb867, 1, none⟩ (.int .i64 t866))) := ⟨ky HB⟩
   (try clear BK867); (try clear HB)
   generalize ((w39.setCell ⟨gb867, 0, none⟩ (.int .i64 t865)).setCell ⟨gb867, 1, none⟩ (.int .i64 t866)) = w41 at n0_ n1_ ⊢
   have BK867 := n0_; have HB := n1_; clear n0_ n1_; replace BK867 := Aside0.mk (blk_drew BK867.out); replace HB := Aside0.mk (below_drew1 HB.out); refine start_ (n := 27) (S := fun w' => w'.cell? ⟨gb867, 0, none⟩ = some (.int .i64 t865) ∧ w'.cell? ⟨gb867, 1, none⟩ = some (.int .i64 t866)) (ds := []) #[O, O, O, O, O, O, O, O, O, O, O, O, O, O, O, O, O, O, O, O, O, O, O, O, O, O, O] (by kernel_rfl) rfl rfl ⟨kc BK867 0, kc BK867 1⟩ (fun hHeld => ?_); refine with_tabW cobweblaw03_GridSnaps.tab5 cobweblaw03_GridSnaps.bits5 (fun HT_ HW_ => ?_)
   generalize w41.drew = w42 at BK867 HB hHeld ⊢
   refine one_ (i := 0) (N := some 33) #[T, O, O, O, O, O, O, O, O, O, O, O, O, O, O, O, O, O, O, O, O, O, O, O, O, O, O] rfl rfl (one_of HT_.out (by kernel_rfl)) (by decide) (fun K hK => ?_); refine goes_ Try.func38 (by kernel_rfl) rfl #[] (by rfl) rfl rfl (by (try simp only [zm, zc, zn]); first | done | rfl | (simp only [zd, zt]; rfl)) ?_
   with_reducible refine (cobweblaw03_alive.calls kj4  true _ A25.out).mono ?_
   rintro e w43 ⟨rfl, hb⟩; refine ⟨_, rfl, ?_⟩; replace BK867 := kb BK867 hb; replace HB := kB HB hb
   (try clear hb); (try clear hb2); (try clear hk); (try clear hi)
   refine hK.out _ _ ⟨kc BK867 0, kc BK867 1⟩ (fun hHeld => ?_); clear hK K
   refine norm_ (a' := ?_) ?_ ?_; rotate_left; focus (show Act.put _ (some 33) _ = _; simp only [Act.put, s1, s2, s3, i64_w, i32_w]; rfl)
   refine pure_ (i := 1) (N := some 34) (v := ?_) (a' := ?_) #[T, T, O, O, O, O, O, O, O, O, O, O, O, O, O, O, O, O, O, O, O, O, O, O, O, O, O] rfl rfl (any_of HT_.out (by kernel_rfl)) (fun _ _ _ h => h) (Or.inl ⟨by rfl, ?_⟩) ?_ ?_; rotate_left; focus (intro w'; go_simp; with_reducible rfl)
   rotate_left; focus (simp only [Act.put, s1, s2, s3, i64_w, i32_w]; rfl)
   refine pure_ (i := 2) (N := some 35) (v := ?_) (a' := ?_) #[T, T, T, O, O, O, O, O, O, O, O, O, O, O, O, O, O, O, O, O, O, O, O, O, O, O, O] rfl rfl (any_of HT_.out (by kernel_rfl)) (fun _ _ _ h => h) (Or.inl ⟨by rfl, ?_⟩) ?_ ?_; rotate_left; focus (intro w'; go_simp; with_reducible rfl)
   rotate_left; focus (simp only [Act.put, s1, s2, s3, i64_w, i32_w]; rfl)
   refine pure_ (i := 4) (N := some 37) (v := ?_) (a' := ?_) #[T, T, T, O, T, O, O, O, O, O, O, O, O, O, O, O, O, O, O, O, O, O, O, O, O, O, O] rfl rfl (any_of HT_.out (by kernel_rfl)) (fun _ _ _ h => h) (Or.inl ⟨by rfl, ?_⟩) ?_ ?_; rotate_left; focus (intro w'; go_simp; with_reducible rfl)
   rotate_left; focus (simp only [Act.put, s1, s2, s3, i64_w, i32_w]; rfl)
   refine take_ (i := 3) (N := some 36) (v := ?_) (a' := ?_) #[T, T, T, T, T, O, O, O, O, O, O, O, O, O, O, O, O, O, O, O, O, O, O, O, O, O, O] rfl rfl (take_ofW HT_.out HW_.out (by kernel_rfl)) (fun _ _ _ h => h) (Or.inl ⟨by rfl, ?_⟩) hHeld ?_ ?_; rotate_left; focus (rintro w' ⟨s0, s1⟩; go_simp; with_reducible rfl)
   rotate_left; focus (simp only [Act.put, s1, s2, s3, i64_w, i32_w]; rfl)
   refine pure_ (i := 5) (N := some 38) (v := ?_) (a' := ?_) #[T, T, T, T, T, T, O, O, O, O, O, O, O, O, O, O, O, O, O, O, O, O, O, O, O, O, O] rfl rfl (any_of HT_.out (by kernel_rfl)) (fun _ _ _ h => h) (Or.inl ⟨by rfl, ?_⟩) ?_ ?_; rotate_left; focus (intro w'; go_simp; with_reducible rfl)
   rotate_left; focus (simp only [Act.put, s1, s2, s3, i64_w, i32_w]; rfl)
   refine pure_ (i := 6) (N := some 39) (v := ?_) (a' := ?_) #[T, T, T, T, T, T, T, O, O, O, O, O, O, O, O, O, O, O, O, O, O, O, O, O, O, O, O] rfl rfl (any_of HT_.out (by kernel_rfl)) (fun _ _ _ h => h) (Or.inl ⟨by rfl, ?_⟩) ?_ ?_; rotate_left; focus (intro w'; go_simp; with_reducible rfl)
   rotate_left; focus (simp only [Act.put, s1, s2, s3, i64_w, i32_w]; rfl)
   refine pure_ (i := 7) (N := some 40) (v := ?_) (a' := ?_) #[T, T, T, T, T, T, T, T, O, O, O, O, O, O, O, O, O, O, O, O, O, O, O, O, O, O, O] rfl rfl (any_of HT_.out (by kernel_rfl)) (fun _ _ _ h => h) (Or.inl ⟨by rfl, ?_⟩) ?_ ?_; rotate_left; focus (intro w'; go_simp; with_reducible rfl)
   rotate_left; focus (simp only [Act.put, s1, s2, s3, i64_w, i32_w]; rfl)
   refine pure_ (i := 8) (N := some 41) (v := ?_) (a' := ?_) #[T, T, T, T, T, T, T, T, T, O, O, O, O, O, O, O, O, O, O, O, O, O, O, O, O, O, O] rfl rfl (any_of HT_.out (by kernel_rfl)) (fun _ _ _ h => h) (Or.inl ⟨by rfl, ?_⟩) ?_ ?_; rotate_left; focus (intro w'; go_simp; with_reducible rfl)
   rotate_left; focus (simp only [Act.put, s1, s2, s3, i64_w, i32_w]; rfl)
   refine pure_ (i := 10) (N := some 43) (v := ?_) (a' := ?_) #[T, T, T, T, T, T, T, T, T, O, T, O, O, O, O, O, O, O, O, O, O, O, O, O, O, O, O] rfl rfl (any_of HT_.out (by kernel_rfl)) (fun _ _ _ h => h) (Or.inl ⟨by rfl, ?_⟩) ?_ ?_; rotate_left; focus (intro w'; go_simp; with_reducible rfl)
   rotate_left; focus (simp only [Act.put, s1, s2, s3, i64_w, i32_w]; rfl)
   refine pure_ (i := 11) (N := some 44) (v := ?_) (a' := ?_) #[T, T, T, T, T, T, T, T, T, O, T, T, O, O, O, O, O, O, O, O, O, O, O, O, O, O, O] rfl rfl (any_of HT_.out (by kernel_rfl)) (fun _ _ _ h => h) (Or.inl ⟨by rfl, ?_⟩) ?_ ?_; rotate_left; focus (intro w'; go_simp; with_reducible rfl)
   rotate_left; focus (simp only [Act.put, s1, s2, s3, i64_w, i32_w]; rfl)
   refine take_ (i := 9) (N := some 42) (v := ?_) (a' := ?_) #[T, T, T, T, T, T, T, T, T, T, T, T, O, O, O, O, O, O, O, O, O, O, O, O, O, O, O] rfl rfl (take_ofW HT_.out HW_.out (by kernel_rfl)) (fun _ _ _ h => h) (Or.inl ⟨by rfl, ?_⟩) hHeld ?_ ?_; rotate_left; focus (rintro w' ⟨s0, s1⟩; go_simp; with_reducible rfl)
   rotate_left; focus (simp only [Act.put, s1, s2, s3, i64_w, i32_w]; rfl)
   refine one_ (i := 12) (N := some 45) #[T, T, T, T, T, T, T, T, T, T, T, T, T, O, O, O, O, O, O, O, O, O, O, O, O, O, O] rfl rfl (one_of HT_.out (by kernel_rfl)) (by decide) (fun K hK => ?_); refine goes_ Try.func32 (by kernel_rfl) rfl #[.int .i64 a1, .int .i64 a2] (by rfl) rfl rfl (by (try simp only [zm, zc, zn]); first | done | rfl | (simp only [zd, zt]; rfl)) ?_
   with_reducible refine (grid_Snap.calls a1 a2 t869 _ A28.out).mono ?_
   rintro e w44 ⟨rfl, hb⟩; refine ⟨_, rfl, ?_⟩; replace BK867 := kb BK867 hb; replace HB := kB HB hb
   (try clear hb); (try clear hb2); (try clear hk); (try clear hi)
   refine hK.out _ _ ⟨kc BK867 0, kc BK867 1⟩ (fun hHeld => ?_); clear hK K
   refine norm_ (a' := ?_) ?_ ?_; rotate_left; focus (show Act.put _ (some 45) _ = _; simp only [Act.put, s1, s2, s3, i64_w, i32_w]; rfl)
   refine pure_ (i := 13) (N := some 46) (v := ?_) (a' := ?_) #[T, T, T, T, T, T, T, T, T, T, T, T, T, T, O, O, O, O, O, O, O, O, O, O, O, O, O] rfl rfl (any_of HT_.out (by kernel_rfl)) (fun _ _ _ h => h) (Or.inl ⟨by rfl, ?_⟩) ?_ ?_; rotate_left; focus (intro w'; go_simp; with_reducible rfl)
   rotate_left; focus (simp only [Act.put, s1, s2, s3, i64_w, i32_w]; rfl)
   refine pure_ (i := 14) (N := some 47) (v := ?_) (a' := ?_) #[T, T, T, T, T, T, T, T, T, T, T, T, T, T, T, O, O, O, O, O, O, O, O, O, O, O, O] rfl rfl (any_of HT_.out (by kernel_rfl)) (fun _ _ _ h => h) (Or.inl ⟨by rfl, ?_⟩) ?_ ?_; rotate_left; focus (intro w'; go_simp; with_reducible rfl)
   rotate_left; focus (simp only [Act.put, s1, s2, s3, i64_w, i32_w]; rfl)
   refine pure_ (i := 15) (N := some 48) (v := ?_) (a' := ?_) #[T, T, T, T, T, T, T, T, T, T, T, T, T, T, T, T, O, O, O, O, O, O, O, O, O, O, O] rfl rfl (any_of HT_.out (by kernel_rfl)) (fun _ _ _ h => h) (Or.inl ⟨by rfl, ?_⟩) ?_ ?_; rotate_left; focus (intro w'; go_simp; with_reducible rfl)
   rotate_left; focus (simp only [Act.put, s1, s2, s3, i64_w, i32_w]; rfl)
   refine pure_ (i := 16) (N := some 49) (v := ?_) (a' := ?_) #[T, T, T, T, T, T, T, T, T, T, T, T, T, T, T, T, T, O, O, O, O, O, O, O, O, O, O] rfl rfl (any_of HT_.out (by kernel_rfl)) (fun _ _ _ h => h) (Or.inl ⟨by rfl, ?_⟩) ?_ ?_; rotate_left; focus (intro w'; go_simp; with_reducible rfl)
   rotate_left; focus (simp only [Act.put, s1, s2, s3, i64_w, i32_w]; rfl)
   refine pure_ (i := 17) (N := some 50) (v := ?_) (a' := ?_) #[T, T, T, T, T, T, T, T, T, T, T, T, T, T, T, T, T, T, O, O, O, O, O, O, O, O, O] rfl rfl (any_of HT_.out (by kernel_rfl)) (fun _ _ _ h => h) (Or.inl ⟨by rfl, ?_⟩) ?_ ?_; rotate_left; focus (intro w'; go_simp; with_reducible rfl)
   rotate_left; focus (simp only [Act.put, s1, s2, s3, i64_w, i32_w]; rfl)
   refine pure_ (i := 18) (N := some 51) (v := ?_) (a' := ?_) #[T, T, T, T, T, T, T, T, T, T, T, T, T, T, T, T, T, T, T, O, O, O, O, O, O, O, O] rfl rfl (any_of HT_.out (by kernel_rfl)) (fun _ _ _ h => h) (Or.inl ⟨by rfl, ?_⟩) ?_ ?_; rotate_left; focus (intro w'; go_simp; with_reducible rfl)
   rotate_left; focus (simp only [Act.put, s1, s2, s3, i64_w, i32_w]; rfl)
   refine pure_ (i := 19) (N := some 52) (v := ?_) (a' := ?_) #[T, T, T, T, T, T, T, T, T, T, T, T, T, T, T, T, T, T, T, T, O, O, O, O, O, O, O] rfl rfl (any_of HT_.out (by kernel_rfl)) (fun _ _ _ h => h) (Or.inl ⟨by rfl, ?_⟩) ?_ ?_; rotate_left; focus (intro w'; go_simp; with_reducible rfl)
   rotate_left; focus (simp only [Act.put, s1, s2, s3, i64_w, i32_w]; rfl)
   refine pure_ (i := 20) (N := some 53) (v := ?_) (a' := ?_) #[T, T, T, T, T, T, T, T, T, T, T, T, T, T, T, T, T, T, T, T, T, O, O, O, O, O, O] rfl rfl (any_of HT_.out (by kernel_rfl)) (fun _ _ _ h => h) (Or.inl ⟨by rfl, ?_⟩) ?_ ?_; rotate_left; focus (intro w'; go_simp; with_reducible rfl)
   rotate_left; focus (simp only [Act.put, s1, s2, s3, i64_w, i32_w]; rfl)
   refine pure_ (i := 21) (N := some 54) (v := ?_) (a' := ?_) #[T, T, T, T, T, T, T, T, T, T, T, T, T, T, T, T, T, T, T, T, T, T, O, O, O, O, O] rfl rfl (any_of HT_.out (by kernel_rfl)) (fun _ _ _ h => h) (Or.inl ⟨by rfl, ?_⟩) ?_ ?_; rotate_left; focus (intro w'; go_simp; with_reducible rfl)
   rotate_left; focus (simp only [Act.put, s1, s2, s3, i64_w, i32_w]; rfl)
   refine take_ (i := 22) (N := some 55) (v := ?_) (a' := ?_) #[T, T, T, T, T, T, T, T, T, T, T, T, T, T, T, T, T, T, T, T, T, T, T, O, O, O, O] rfl rfl (take_ofW HT_.out HW_.out (by kernel_rfl)) (fun _ _ _ h => h) (Or.inl ⟨by rfl, ?_⟩) hHeld ?_ ?_; rotate_left; focus (rintro w' ⟨s0, s1⟩; go_simp; with_reducible rfl)
   rotate_left; focus (simp only [Act.put, s1, s2, s3, i64_w, i32_w]; rfl)
   refine pure_ (i := 23) (N := some 56) (v := ?_) (a' := ?_) #[T, T, T, T, T, T, T, T, T, T, T, T, T, T, T, T, T, T, T, T, T, T, T, T, O, O, O] rfl rfl (any_of HT_.out (by kernel_rfl)) (fun _ _ _ h => h) (Or.inl ⟨by rfl, ?_⟩) ?_ ?_; rotate_left; focus (intro w'; go_simp; with_reducible rfl)
   rotate_left; focus (simp only [Act.put, s1, s2, s3, i64_w, i32_w]; rfl)
   refine pure_ (i := 24) (N := some 57) (v := ?_) (a' := ?_) #[T, T, T, T, T, T, T, T, T, T, T, T, T, T, T, T, T, T, T, T, T, T, T, T, T, O, O] rfl rfl (any_of HT_.out (by kernel_rfl)) (fun _ _ _ h => h) (Or.inl ⟨by rfl, ?_⟩) ?_ ?_; rotate_left; focus (intro w'; go_simp; with_reducible rfl)
   rotate_left; focus (simp only [Act.put, s1, s2, s3, i64_w, i32_w]; rfl)
   refine pure_ (i := 25) (N := some 58) (v := ?_) (a' := ?_) #[T, T, T, T, T, T, T, T, T, T, T, T, T, T, T, T, T, T, T, T, T, T, T, T, T, T, O] rfl rfl (any_of HT_.out (by kernel_rfl)) (fun _ _ _ h => h) (Or.inl ⟨by rfl, ?_⟩) ?_ ?_; rotate_left; focus (intro w'; go_simp; with_reducible rfl)
   rotate_left; focus (simp only [Act.put, s1, s2, s3, i64_w, i32_w]; rfl)
   refine pure_ (i := 26) (N := some 6) (v := ?_) (a' := ?_) #[T, T, T, T, T, T, T, T, T, T, T, T, T, T, T, T, T, T, T, T, T, T, T, T, T, T, T] rfl rfl (any_of HT_.out (by kernel_rfl)) (fun _ _ _ h => h) (Or.inl ⟨by rfl, ?_⟩) ?_ ?_; rotate_left; focus (intro w'; go_simp; with_reducible rfl)
   rotate_left; focus (simp only [Act.put, s1, s2, s3, i64_w, i32_w]; rfl)
   refine done_ (done_of HT_.out (by kernel_rfl)) ?_
   try go_wp2
   go_ret
   exact ⟨by first | rfl | (simp [errW_none, errW_some] <;> rfl) | (simp [*, errW_none, errW_some] <;> rfl), ky HB⟩
/-- THE ONE PURE STATEMENT of cobweblaw03_GridSnaps: yours. -/
def cobweblaw03_GridSnaps.Pure : Prop := ∀ (a0 : Int) (a1 : Int) (a2 : Int), (Lit.int .i64 a0).wf = true → (Lit.int .i64 a1).wf = true → (Lit.int .i64 a2).wf = true → ∃ k, cobweblaw03_GridSnaps.f k a0 a1 a2 = some true
theorem cobweblaw03_GridSnaps.walk (P : cobweblaw03_GridSnaps.Pure) (a0 : Int) (a1 : Int) (a2 : Int) (w : World) (w0 : (Lit.int .i64 a0).wf = true) (w1 : (Lit.int .i64 a1).wf = true) (w2 : (Lit.int .i64 a2).wf = true) :
  Calls Try.prog 8 #[.int .i64 a0, .int .i64 a1, .int .i64 a2] w fun e w' => e = .returned (.bool true) ∧ Below w.heap.size w w' := by
 obtain ⟨k, h⟩ := P a0 a1 a2 w0 w1 w2; refine (cobweblaw03_GridSnaps.calls k a0 a1 a2 true w h).mono ?_; rintro e w' ⟨rfl, hd⟩; exact ⟨rfl, hd⟩

end Go.Proofs.Ytpjbniihdndlmab.Q
