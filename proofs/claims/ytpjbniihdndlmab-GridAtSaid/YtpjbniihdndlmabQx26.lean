-- Printed by wip/pp.sh (a session's own turning of the kit's print) for this seat.
import Derived.Test.YtpjbniihdndlmabQx0
import Derived.Test.YtpjbniihdndlmabQx11
import Derived.Test.YtpjbniihdndlmabQx12
import Derived.Test.YtpjbniihdndlmabQx15
namespace Go.Proofs.Ytpjbniihdndlmab.Q
open Go.RowKit Go.Proofs.YtpjbniihdndlmabW.PrintWords Go.Proofs.YtpjbniihdndlmabW.PrintLast Go.Proofs.YtpjbniihdndlmabW.PrintMore
open Go.Proofs.Ytpjbniihdndlmab.H
attribute [local go_sem] hq_add64 hq_sub64 hq_not64 add64c_nn sub64c_nn sub64c_le
attribute [local go_sem] max2_int min2_int max_two min_two max_three min_three max_four min_four   -- for this text's walks alone
set_option linter.unusedVariables false
set_option linter.unusedSimpArgs false

/-! ### cobwebref03_near: function 69 -/
def cobwebref03_near.f (k : Nat) (a0_0 : Bool) (l0_1 : List Int) (a1 : Int) : Option (Bool) := (cobwebref01_Power.f k a1).bind fun bt871 => ((cobwebref01_Mul.f k a0_0 l0_1 bt871.1 bt871.2).bind fun bt875 => ((cobwebref01_Power.f k 27).bind fun bt880 => ((cobwebref01_Neg.f k bt880.1 bt880.2).bind fun bt884 => ((cobwebref01_Cmp.f k bt875.1 bt875.2 bt884.1 bt884.2).bind fun t888 => (if t888 ≥ 0 then ((cobwebref01_Power.f k 27).bind fun bt889 => ((cobwebref01_Cmp.f k bt875.1 bt875.2 bt889.1 bt889.2).bind fun t893 => (some (decide (t893 ≤ 0))))) else (some false))))))
theorem cobwebref03_near.mono : ∀ a0 a1 a2 k, LeO (cobwebref03_near.f k a0 a1 a2) (cobwebref03_near.f (k + 1) a0 a1 a2) := by
 intro a0 a1 a2 k
 unfold cobwebref03_near.f
 repeat' first
   | (with_reducible exact cobwebref01_Cmp.mono _ _ _ _ _)
   | (with_reducible exact cobwebref01_Mul.mono _ _ _ _ _)
   | (with_reducible exact cobwebref01_Neg.mono _ _ _)
   | (with_reducible exact cobwebref01_Power.mono _ _)
   | (with_reducible exact LeO.refl _)
   | (with_reducible exact LeO.none _)
   | (with_reducible refine LeO.ite ?_ ?_)
   | (with_reducible refine LeO.bind ?_ (fun _ => ?_))
   | exact cobwebref01_Cmp.mono _ _ _ _ _
   | exact cobwebref01_Mul.mono _ _ _ _ _
   | exact cobwebref01_Neg.mono _ _ _
   | exact cobwebref01_Power.mono _ _
   | exact LeO.none _
   | refine LeO.ite ?_ ?_
   | refine LeO.bind ?_ (fun _ => ?_)
def cobwebref03_near.T2 : Bool × List (List Nat × List Nat) := (true, [([], []), ([], []), ([1, 1], [1]), ([0, 2, 2], [0, 2]), ([3], [3]), ([4, 3], [4]), ([5], [5]), ([5, 5], [5]), ([6, 7, 7, 5], [5, 6, 7]), ([8, 5], [5, 8]), ([5, 9], [5, 9]), ([10, 8, 0, 1, 2, 3, 4, 5, 6, 7, 8, 9, 10], [10])])
def cobwebref03_near.B2 : List Nat := [0, 0, 2, 7, 15, 31, 63, 63, 255, 511, 1023, 2047]
theorem cobwebref03_near.tab2 : rtab .any (opsOf Try.f69 2) = cobwebref03_near.T2 := by kernel_rfl
theorem cobwebref03_near.bits2 : waitsOk cobwebref03_near.T2.2 cobwebref03_near.B2 = true := by kernel_rfl
set_option maxHeartbeats 8000000 in
set_option maxRecDepth 100000 in
theorem cobwebref03_near.calls (k : Nat) (a0_0 : Bool) (A0_1 : Option Addr) (c0_1 : Nat) (l0_1 : List Int) (a1 : Int) (r : Bool) (w : World) (hr0_1 : Kd.C (Kd.int .i64) w A0_1 l0_1.length l0_1) (hc0_1 : l0_1.length ≤ c0_1) (h : cobwebref03_near.f k a0_0 l0_1 a1 = some r) :
  Calls Try.prog 69 #[.agg #[.bool a0_0, .slice A0_1 l0_1.length c0_1], .int .i64 a1] w fun e w' => e = .returned (.bool r) ∧ Below w.heap.size w w' := by
 have hu33 := Try.underlying33; have HR0_1 := Aside0.mk hr0_1; have HC0_1 := Aside0.mk hc0_1; clear hr0_1 hc0_1; have HB := Aside0.mk (Below.refl w.heap.size w); have H : ((cobwebref01_Power.f k a1).bind fun bt871 => ((cobwebref01_Mul.f k a0_0 l0_1 bt871.1 bt871.2).bind fun bt875 => ((cobwebref01_Power.f k 27).bind fun bt880 => ((cobwebref01_Neg.f k bt880.1 bt880.2).bind fun bt884 => ((cobwebref01_Cmp.f k bt875.1 bt875.2 bt884.1 bt884.2).bind fun t888 => (if t888 ≥ 0 then ((cobwebref01_Power.f k 27).bind fun bt889 => ((cobwebref01_Cmp.f k bt875.1 bt875.2 bt889.1 bt889.2).bind fun t893 => (some (decide (t893 ≤ 0))))) else (some false))))))) = some r := h; clear h; replace H := Option.bind_eq_some_iff.mp H; obtain ⟨⟨t871, t872⟩, A30, H⟩ := H; (try dsimp only at H); have A3 := Aside0.mk A30; clear A30; replace H := Option.bind_eq_some_iff.mp H; obtain ⟨⟨t875, t876⟩, A40, H⟩ := H; (try dsimp only at H); have A4 := Aside0.mk A40; clear A40; replace H := Option.bind_eq_some_iff.mp H; obtain ⟨⟨t880, t881⟩, A50, H⟩ := H; (try dsimp only at H); have A5 := Aside0.mk A50; clear A50; replace H := Option.bind_eq_some_iff.mp H; obtain ⟨⟨t884, t885⟩, A60, H⟩ := H
 (try dsimp only at H); have A6 := Aside0.mk A60; clear A60; replace H := Option.bind_eq_some_iff.mp H; obtain ⟨t888, A70, H⟩ := H; (try dsimp only at H); have A7 := Aside0.mk A70; clear A70
 by_cases c8 : t888 ≥ 0
 rotate_left
 ·rw [if_neg c8] at H
  have c8b0 : decide (0 ≤ t888) = false := decide_eq_false c8; clear c8; obtain rfl := Option.some.inj H
  go_enter Try.func69, Try.ntmps69
  try go_wp2_with (first | ((with_reducible refine gate_dst (N := 2) rfl ?_); refine box_event ?hg (N := 2) ?hd (cs := #[.bool a0_0, .slice A0_1 l0_1.length c0_1]) (t := 33) ?hr ?_; (case hd => rfl); (case hg => rfl); (case hr => first | (go_simp; done) | (go_simp; rfl)); intro gb870 hg w31 hbox hb; have BK870 := Aside0.mk (hbox); have GW870 := kS HB hg; have GE870 := kS HB hg; replace HB := kB HB hb; clear hb hbox hg))
  replace BK870 := Aside0.mk (blk_drew BK870.out); replace HB := Aside0.mk (below_drew1 HB.out); refine start_ (n := 6) (S := fun w' => w'.cell? ⟨gb870, 0, none⟩ = some (.bool a0_0) ∧ w'.cell? ⟨gb870, 1, none⟩ = some (.slice A0_1 l0_1.length c0_1)) (ds := []) #[O, O, O, O, O, O] (by kernel_rfl) rfl rfl ⟨kc BK870 0, kc BK870 1⟩ (fun hHeld => ?_)
  generalize w31.drew = w32 at BK870 HB hHeld ⊢
  refine pure_ (i := 1) (N := some 7) (v := ?_) (a' := ?_) #[O, T, O, O, O, O] rfl rfl (by kernel_rfl) (fun _ _ _ h => h) (Or.inl ⟨by rfl, ?_⟩) ?_ ?_; rotate_left; focus (intro w'; go_simp; with_reducible rfl)
  rotate_left; focus (simp only [Act.put, s1, s2, s3, i64_w, i32_w]; rfl)
  refine take_ (i := 0) (N := some 6) (v := ?_) (a' := ?_) #[T, T, O, O, O, O] rfl rfl (by kernel_rfl) (fun _ _ _ h => h) (Or.inl ⟨by rfl, ?_⟩) hHeld ?_ ?_; rotate_left; focus (rintro w' ⟨s0, s1⟩; go_simp; with_reducible rfl)
  rotate_left; focus (simp only [Act.put, s1, s2, s3, i64_w, i32_w]; rfl)
  refine join_ (σ := Value × Value × Nat) 1 #[T, T, T, T, T, O] (fun s_ => [(8, .agg #[.bool t871, s_.1]), (9, .agg #[.bool t875, s_.2.1]), (5, .pointer (some ⟨s_.2.2, 0, none⟩))]) (fun s_ w' => (w'.cell? ⟨gb870, 0, none⟩ = some (.bool a0_0) ∧ w'.cell? ⟨gb870, 1, none⟩ = some (.slice A0_1 l0_1.length c0_1)) ∧ (Kd.V (Kd.int .i64) 3 w' w.heap.size (fun k_ => k_ ≠ gb870 ∧ k_ ≠ s_.2.2) s_.1 t872) ∧ (Kd.V (Kd.int .i64) 3 w' w.heap.size (fun k_ => k_ ≠ gb870 ∧ k_ ≠ s_.2.2) s_.2.1 t876) ∧ (w'.heap[gb870]? = some (.cells #[.bool a0_0, .slice A0_1 l0_1.length c0_1] 33 (0, 0))) ∧ (w'.heap[s_.2.2]? = some (.cells #[.bool false, .slice none 0 0] 33 (0, 0))) ∧ (w.heap.size ≤ s_.2.2) ∧ (w.heap.size ≤ s_.2.2) ∧ (gb870 ≠ s_.2.2) ∧ (s_.2.2 ≠ gb870) ∧ (Below w.heap.size w w')) ?_ ?_; rotate_left
  ·intro hJ
   refine web_ #[T, T, T, T, T, O] [⟨2, 8, [], [], E1 2 (fun v873 => [.agg #[.bool t871, v873]]) t872⟩, ⟨3, 9, [], [2], E1 3 (fun v877 => [.agg #[.bool t875, v877]]) t876⟩, ⟨4, 5, [], [], EB 4 #[.bool false, .slice none 0 0] 33⟩] 1 (by kernel_rfl) rfl (fun _ t _ _ _ h => by cases t <;> exact h) hHeld (fun _ _ h hb => ⟨cB h.1 hb, cB h.2 hb⟩) (And.intro (oE1 _ _) (And.intro (oE1 _ _) (And.intro (oEB _ _) trivial))) (And.intro ?_ (And.intro ?_ (And.intro ?_ trivial))) ?_
   ·intro x wa lo hi a hb0 hS ha hd; clear hd
    simp only [stA, slots, Ev.sl, vca, vna, zc, zn, putAll, Act.put, s1, s2, s3] at ha; subst ha; refine ⟨_, rfl, fun K hK => ?_⟩
    refine gS Try.func59 #[.int .i64 a1] ?_
    with_reducible refine (cobwebref01_Power.calls k a1 t871 t872 _ A3.out).mono ?_
    rintro e wb ⟨v873, rfl, ho0, hb⟩; refine ⟨_, rfl, hK _ [] _ hb ⟨v873, rfl, kW ho0⟩ trivial⟩
   ·rintro x wa lo hi a hb0 hS ha ⟨d2, -, -, _⟩
    replace HB := kB HB hb0; obtain ⟨v873, hv2, HV2_0⟩ := d2 (.head _); obtain ⟨Ao34, co34, rfl⟩ := Kd.V_slice HV2_0; have HO874 := A0 HV2_0; have hv2 : x 2 = .agg #[.bool t871, (.slice Ao34 t872.length co34)] := (List.cons.inj hv2).1; simp only [stA, slots, Ev.sl, vca, vna, zc, zn, putAll, Act.put, s1, s2, s3, hv2] at ha; subst ha; refine ⟨_, rfl, fun K hK => ?_⟩
    refine gS Try.func51 #[.agg #[.bool a0_0, .slice A0_1 l0_1.length c0_1], .agg #[.bool t871, .slice Ao34 t872.length co34]] ?_
    with_reducible refine (cobwebref01_Mul.calls k a0_0 _ _ l0_1 t871 _ _ t872 t875 t876 _ ?side1 ?side2 ?side3 ?side4 A4.out).mono ?_
    (case side1 => exact kQ (Kd.C_below HR0_1.out HB.out))
    (case side2 => exact HC0_1.out)
    (case side3 => exact kQ ((Kd.V_reads' HO874.out).2.2))
    (case side4 => exact (Kd.V_reads' HO874.out).2.1)
    rintro e wb ⟨v877, rfl, ho0, hb⟩; refine ⟨_, rfl, hK _ [] _ hb ⟨v877, rfl, kW ho0⟩ trivial⟩
   ·intro x wa lo hi a hb0 hS ha hd; refine ⟨_, rfl, fun K hK => ?_⟩; refine box_step ?hg (N := 5) ?hd (cs := #[.bool false, .slice none 0 0]) (t := 33) ?hr ?_; (case hd => rfl); (case hg => rfl); (case hr => first | (go_simp; done) | (go_simp; rfl)); intro g hg wb hbox hb; exact hK _ [] _ hb ⟨g, rfl, hbox, Nat.le_of_eq hg.symm, blk_lt hbox⟩ trivial
   ·rintro x wb lo hi hb0 hS ⟨⟨⟨v873, e2, H0⟩, r2⟩, ⟨⟨v877, e3, H1⟩, r3⟩, ⟨⟨gb4_, e4, K4, q4a, q4b⟩, r4⟩, _⟩ ⟨⟨p2_3, p2_4, _⟩, ⟨p3_4, _⟩, _⟩
    simp only [E0, Ev.ix, zc, zn, List.cons.injEq, and_true] at e2 e3 e4
    dsimp only at r2 r3 r4 p2_3 p2_4 p3_4
    have zb := below_size HB.out; have zBK870 := blk_lt BK870.out
    refine norm_ (by simp only [stA, slots, Ev.sl, vca, vna, zc, zn, putAll, Act.put, s1, s2, s3, e2, e3, e4]) (hJ (v873, v877, gb4_) _ ?_); (try dsimp only); exact ⟨hS, Kd.V_mono H0 (fun k_ hk => by omega), Kd.V_mono H1 (fun k_ hk => by omega), (kb BK870 hb0).out, K4, by omega, by omega, by omega, by omega, (kB HB hb0).out⟩
  rintro ⟨v873, v877, gb879⟩ w37 ⟨hS_, h0_, h1_, h2_, h3_, h4_, h5_, h6_, h7_, h8_⟩; clear BK870 HB; have HO874 := A0 h0_; have HO878 := A0 h1_; have BK870 := A0 h2_; have BK879 := A0 h3_; have GW879 := A0 h4_; have GE879 := A0 h5_; have NB870_879 := A0 h6_; have NB879_870 := A0 h7_; have HB := A0 h8_; clear h0_ h1_ h2_ h3_ h4_ h5_ h6_ h7_ h8_; have hHeld := hS_; obtain ⟨Ao39, co39, eo39⟩ := Kd.V_slice HO878.out
  (first | subst eo39 | (injection eo39 with f1_ f2_ f3_; have f4_ := f1_.symm; have f5_ := f3_.symm; clear f1_ f2_ f3_; subst f4_; subst f5_))
  refine norm_ (a' := ?_) ?_ ?_; rotate_left; focus (simp only [putAll, Act.put, s1, s2, s3]; rfl)
  refine one_ (i := 5) (N := none) #[T, T, T, T, T, T] rfl rfl (by kernel_rfl) (by decide) (fun K hK => ?_); have hs38 : w37.cell? ⟨gb879, 0, none⟩ = some (.bool false) := kc BK879 0; have hfs38 := blk_frozen BK879.out 0; have hns38_0 := NB870_879.out; have hms38_0 := NB879_870.out; have hs40 : w37.cell? ⟨gb879, 1, none⟩ = some (.slice none 0 0) := kc BK879 1; have hfs40 := blk_frozen BK879.out 1; have hns40_0 := NB870_879.out; have hms40_0 := NB879_870.out; refine skip_ (w1 := ?_) (by rfl) rfl ?_ ?_; rotate_left
  ·go_simp
   rfl
  refine hK.out _ _ ⟨((cell_far (p := ⟨gb879, _, none⟩) NB870_879.out _).trans (((cell_far (p := ⟨gb879, _, none⟩) NB870_879.out _).trans (hHeld.1)))), ((cell_far (p := ⟨gb879, _, none⟩) NB870_879.out _).trans (((cell_far (p := ⟨gb879, _, none⟩) NB870_879.out _).trans (hHeld.2))))⟩ (fun hHeld => ?_); clear hK K; refine done_ (by kernel_rfl) ?_
  try go_wp2
  have n0_ : Aside0 (Kd.V (Kd.int .i64) 3 ((w37.setCell ⟨gb879, 0, none⟩ (.bool t875)).setCell ⟨gb879, 1, none⟩ (.slice Ao39 t876.length co39)) w.heap.size (fun k_ => k_ ≠ gb870 ∧ k_ ≠ gb879) v873 t872) := ⟨by (with_reducible repeat (first | apply Kd.V_alloc | apply Kd.V_drewN | apply Kd.V_drew)); exact Kd.V_mono (Kd.V_far (p := ⟨gb879, 1, none⟩) (Kd.V_far (p := ⟨gb879, 0, none⟩) (Kd.V_mono HO874.out (fun k_ hk => (⟨hk, hk.2⟩ : _ ∧ k_ ≠ gb879))) (fun _ hk => hk.2) (.bool t875)) (fun _ hk => hk.2) (.slice Ao39 t876.length co39)) (fun _ hk => ⟨hk.1.1, hk.1.2⟩)⟩; have n1_ : Aside0 (Kd.V (Kd.int .i64) 3 ((w37.setCell ⟨gb879, 0, none⟩ (.bool t875)).setCell ⟨gb879, 1, none⟩ (.slice Ao39 t876.length co39)) w.heap.size (fun k_ => k_ ≠ gb870 ∧ k_ ≠ gb879) (.slice Ao39 t876.length co39) t876) := ⟨by (with_reducible repeat (first | apply Kd.V_alloc | apply Kd.V_drewN | apply Kd.V_drew)); exact Kd.V_mono (Kd.V_far (p := ⟨gb879, 1, none⟩) (Kd.V_far (p := ⟨gb879, 0, none⟩) (Kd.V_mono HO878.out (fun k_ hk => (⟨hk, hk.2⟩ : _ ∧ k_ ≠ gb879))) (fun _ hk => hk.2) (.bool t875)) (fun _ hk => hk.2) (.slice Ao39 t876.length co39)) (fun _ hk => ⟨hk.1.1, hk.1.2⟩)⟩; have n2_ : Aside0 (((w37.setCell ⟨gb879, 0, none⟩ (.bool t875)).setCell ⟨gb879, 1, none⟩ (.slice Ao39 t876.length co39)).heap[gb870]? = some (.cells #[.bool a0_0, .slice A0_1 l0_1.length c0_1] 33 (0, 0))) := ⟨kx BK870⟩; have n3_ : Aside0 (((w37.setCell ⟨gb879, 0, none⟩ (.bool t875)).setCell ⟨gb879, 1, none⟩ (.slice Ao39 t876.length co39)).heap[gb879]? = some (.cells #[.bool t875, .slice Ao39 t876.length co39] 33 (0, 0))) := ⟨by (with_reducible repeat (first | refine zr ?_ _ | refine zw ?_ | refine za ?_ _)); refine blk_put (cs := #[.bool t875, .slice none 0 0]) ?_ 1 _ rfl; (with_reducible repeat (first | refine zr ?_ _ | refine zw ?_ | refine za ?_ _)); refine blk_put (cs := #[.bool false, .slice none 0 0]) ?_ 0 _ rfl; (with_reducible repeat (first | refine zr ?_ _ | refine zw ?_ | refine za ?_ _)); exact BK879.out⟩; have n4_ : Aside0 (Below w.heap.size w ((w37.setCell ⟨gb879, 0, none⟩ (.bool t875)).setCell ⟨gb879, 1, none⟩ (.slice Ao39 t876.length co39))) := ⟨ky HB⟩
  (try clear HO874); (try clear HO878); (try clear BK870); (try clear BK879); (try clear HB)
  generalize ((w37.setCell ⟨gb879, 0, none⟩ (.bool t875)).setCell ⟨gb879, 1, none⟩ (.slice Ao39 t876.length co39)) = w41 at n0_ n1_ n2_ n3_ n4_ ⊢
  have HO874 := n0_; have HO878 := n1_; have BK870 := n2_; have BK879 := n3_; have HB := n4_; clear n0_ n1_ n2_ n3_ n4_; replace HO874 := Aside0.mk (Kd.V_drew HO874.out); replace HO878 := Aside0.mk (Kd.V_drew HO878.out); replace BK870 := Aside0.mk (blk_drew BK870.out); replace BK879 := Aside0.mk (blk_drew BK879.out); replace HB := Aside0.mk (below_drew1 HB.out); refine start_ (n := 12) (S := fun w' => w'.cell? ⟨gb879, 0, none⟩ = some (.bool t875) ∧ w'.cell? ⟨gb879, 1, none⟩ = some (.slice Ao39 t876.length co39)) (ds := []) #[O, O, O, O, O, O, O, O, O, O, O, O] (by kernel_rfl) rfl rfl ⟨kc BK879 0, kc BK879 1⟩ (fun hHeld => ?_); refine with_tabW cobwebref03_near.tab2 cobwebref03_near.bits2 (fun HT_ HW_ => ?_)
  generalize w41.drew = w42 at HO874 HO878 BK870 BK879 HB hHeld ⊢
  refine take_ (i := 0) (N := some 10) (v := ?_) (a' := ?_) #[T, O, O, O, O, O, O, O, O, O, O, O] rfl rfl (take_ofW HT_.out HW_.out (by kernel_rfl)) (fun _ _ _ h => h) (Or.inl ⟨by rfl, ?_⟩) hHeld ?_ ?_; rotate_left; focus (rintro w' ⟨s0, s1⟩; go_simp; with_reducible rfl)
  rotate_left; focus (simp only [Act.put, s1, s2, s3, i64_w, i32_w]; rfl)
  refine one_ (i := 1) (N := some 11) #[T, T, O, O, O, O, O, O, O, O, O, O] rfl rfl (one_of HT_.out (by kernel_rfl)) (by decide) (fun K hK => ?_); refine gS Try.func59 #[.int .i64 27] ?_
  with_reducible refine (cobwebref01_Power.calls k 27 t880 t881 _ A5.out).mono ?_
  rintro e w43 ⟨v882, rfl, ho0, hb⟩; refine ⟨_, rfl, ?_⟩; have HO883 := Aside0.mk (Kd.V_lower (Kd.V_mono (ok' := fun k_ => k_ ≠ gb870 ∧ k_ ≠ gb879) ho0 (fun k_ hk_ => ⟨(kF BK870 k_ hk_), (kF BK879 k_ hk_)⟩)) (ko HB)); replace HO874 := kV HO874 hb; replace HO878 := kV HO878 hb; replace BK870 := kb BK870 hb; replace BK879 := kb BK879 hb; replace HB := kB HB hb
  (try clear hb); (try clear hb2); (try clear hk); (try clear hi); (try clear ho0)
  obtain ⟨Ao44, co44, eo44⟩ := Kd.V_slice HO883.out
  (first | subst eo44 | (injection eo44 with f1_ f2_ f3_; have f4_ := f1_.symm; have f5_ := f3_.symm; clear f1_ f2_ f3_; subst f4_; subst f5_))
  refine hK.out _ _ ⟨kc BK879 0, kc BK879 1⟩ (fun hHeld => ?_); clear hK K
  refine norm_ (a' := ?_) ?_ ?_; rotate_left; focus (show Act.put _ (some 11) _ = _; simp only [Act.put, s1, s2, s3, i64_w, i32_w]; rfl)
  refine one_ (i := 2) (N := some 12) #[T, T, T, O, O, O, O, O, O, O, O, O] rfl rfl (one_of HT_.out (by kernel_rfl)) (by decide) (fun K hK => ?_); refine gS Try.func77 #[.agg #[.bool t880, .slice Ao44 t881.length co44]] ?_
  with_reducible refine (cobwebref01_Neg.calls k t880 (fun k_ => (k_ ≠ gb870 ∧ k_ ≠ gb879)) _ _ t881 t884 t885 _ ?side1 A6.out).mono ?_
  (case side1 => exact HO883.out)
  rintro e w45 ⟨v886, rfl, ho0, hb⟩; refine ⟨_, rfl, ?_⟩; have HO887 := Aside0.mk (Kd.V_lower (Kd.V_mono (ok' := fun k_ => k_ ≠ gb870 ∧ k_ ≠ gb879) ho0 (fun k_ hk_ => ⟨Or.elim hk_ (fun hs_ => hs_.1) (fun hn_ => (Kd.freshB (g := gb870) (o := .cells #[.bool a0_0, .slice A0_1 l0_1.length c0_1] 33 (0, 0)) (kx BK870) k_ hn_)), Or.elim hk_ (fun hs_ => hs_.2) (fun hn_ => (Kd.freshB (g := gb879) (o := .cells #[.bool t875, .slice Ao39 t876.length co39] 33 (0, 0)) (kx BK879) k_ hn_))⟩)) (ko HB)); replace HO874 := kV HO874 hb; replace HO878 := kV HO878 hb; replace HO883 := kV HO883 hb; replace BK870 := kb BK870 hb; replace BK879 := kb BK879 hb; replace HB := kB HB hb
  (try clear hb); (try clear hb2); (try clear hk); (try clear hi); (try clear ho0)
  obtain ⟨Ao46, co46, eo46⟩ := Kd.V_slice HO887.out
  (first | subst eo46 | (injection eo46 with f1_ f2_ f3_; have f4_ := f1_.symm; have f5_ := f3_.symm; clear f1_ f2_ f3_; subst f4_; subst f5_))
  refine hK.out _ _ ⟨kc BK879 0, kc BK879 1⟩ (fun hHeld => ?_); clear hK K
  refine norm_ (a' := ?_) ?_ ?_; rotate_left; focus (show Act.put _ (some 12) _ = _; simp only [Act.put, s1, s2, s3, i64_w, i32_w]; rfl)
  refine one_ (i := 3) (N := some 13) #[T, T, T, T, O, O, O, O, O, O, O, O] rfl rfl (one_of HT_.out (by kernel_rfl)) (by decide) (fun K hK => ?_); refine gS Try.func21 #[.agg #[.bool t875, .slice Ao39 t876.length co39], .agg #[.bool t884, .slice Ao46 t885.length co46]] ?_
  with_reducible refine (cobwebref01_Cmp.calls k t875 _ _ t876 t884 _ _ t885 t888 _ ?side1 ?side2 ?side3 ?side4 A7.out).mono ?_
  (case side1 => exact kQ ((Kd.V_reads' HO878.out).2.2))
  (case side2 => exact (Kd.V_reads' HO878.out).2.1)
  (case side3 => exact kQ ((Kd.V_reads' HO887.out).2.2))
  (case side4 => exact (Kd.V_reads' HO887.out).2.1)
  rintro e w47 ⟨rfl, hb⟩; refine ⟨_, rfl, ?_⟩; replace HO874 := kV HO874 hb; replace HO878 := kV HO878 hb; replace HO883 := kV HO883 hb; replace HO887 := kV HO887 hb; replace BK870 := kb BK870 hb; replace BK879 := kb BK879 hb; replace HB := kB HB hb
  (try clear hb); (try clear hb2); (try clear hk); (try clear hi)
  refine hK.out _ _ ⟨kc BK879 0, kc BK879 1⟩ (fun hHeld => ?_); clear hK K
  refine norm_ (a' := ?_) ?_ ?_; rotate_left; focus (show Act.put _ (some 13) _ = _; simp only [Act.put, s1, s2, s3, i64_w, i32_w]; rfl)
  refine pure_ (i := 4) (N := some 14) (v := ?_) (a' := ?_) #[T, T, T, T, T, O, O, O, O, O, O, O] rfl rfl (any_of HT_.out (by kernel_rfl)) (fun _ _ _ h => h) (Or.inl ⟨by rfl, ?_⟩) ?_ ?_; rotate_left; focus (intro w'; go_simp; with_reducible rfl)
  rotate_left; focus (simp only [Act.put, s1, s2, s3, i64_w, i32_w]; rfl)
  refine pure_ (i := 5) (N := some 15) (v := ?_) (a' := ?_) #[T, T, T, T, T, T, O, O, O, O, O, O] rfl rfl (any_of HT_.out (by kernel_rfl)) (fun _ _ _ h => h) (Or.inl ⟨by rfl, ?_⟩) ?_ ?_; rotate_left; focus (intro w'; go_simp; with_reducible rfl)
  rotate_left; focus (simp only [Act.put, s1, s2, s3, i64_w, i32_w]; rfl)
  refine pure_ (i := 6) (N := some 16) (v := undef) (a' := ?_) #[T, T, T, T, T, T, T, O, O, O, O, O] rfl rfl (any_of HT_.out (by kernel_rfl)) (fun _ _ _ h => h) (Or.inr ⟨by rfl, rfl⟩) ?_ ?_; rotate_left; focus (simp only [Act.put, s1, s2, s3, i64_w, i32_w]; rfl)
  refine pure_ (i := 7) (N := some 17) (v := undef) (a' := ?_) #[T, T, T, T, T, T, T, T, O, O, O, O] rfl rfl (any_of HT_.out (by kernel_rfl)) (fun _ _ _ h => h) (Or.inr ⟨by rfl, rfl⟩) ?_ ?_; rotate_left; focus (simp only [Act.put, s1, s2, s3, i64_w, i32_w]; rfl)
  refine pure_ (i := 8) (N := some 18) (v := undef) (a' := ?_) #[T, T, T, T, T, T, T, T, T, O, O, O] rfl rfl (any_of HT_.out (by kernel_rfl)) (fun _ _ _ h => h) (Or.inr ⟨by rfl, rfl⟩) ?_ ?_; rotate_left; focus (simp only [Act.put, s1, s2, s3, i64_w, i32_w]; rfl)
  refine pure_ (i := 9) (N := some 19) (v := undef) (a' := ?_) #[T, T, T, T, T, T, T, T, T, T, O, O] rfl rfl (any_of HT_.out (by kernel_rfl)) (fun _ _ _ h => h) (Or.inr ⟨by rfl, rfl⟩) ?_ ?_; rotate_left; focus (simp only [Act.put, s1, s2, s3, i64_w, i32_w]; rfl)
  refine pure_ (i := 10) (N := some 20) (v := ?_) (a' := ?_) #[T, T, T, T, T, T, T, T, T, T, T, O] rfl rfl (any_of HT_.out (by kernel_rfl)) (fun _ _ _ h => h) (Or.inl ⟨by rfl, ?_⟩) ?_ ?_; rotate_left; focus (intro w'; go_simp; with_reducible rfl)
  rotate_left; focus (simp only [Act.put, s1, s2, s3, i64_w, i32_w]; rfl)
  refine pure_ (i := 11) (N := some 4) (v := ?_) (a' := ?_) #[T, T, T, T, T, T, T, T, T, T, T, T] rfl rfl (any_of HT_.out (by kernel_rfl)) (fun _ _ _ h => h) (Or.inl ⟨by rfl, ?_⟩) ?_ ?_; rotate_left; focus (intro w'; go_simp; with_reducible rfl)
  rotate_left; focus (simp only [Act.put, s1, s2, s3, i64_w, i32_w]; rfl)
  refine done_ (done_of HT_.out (by kernel_rfl)) ?_
  try go_wp2
  go_ret
  exact ⟨by first | rfl | (simp [errW_none, errW_some] <;> rfl) | (simp [*, errW_none, errW_some] <;> rfl), ky HB⟩

 rw [if_pos c8] at H
 have c8b0 : decide (0 ≤ t888) = true := decide_eq_true c8; clear c8; replace H := Option.bind_eq_some_iff.mp H; obtain ⟨⟨t889, t890⟩, A90, H⟩ := H; (try dsimp only at H); have A9 := Aside0.mk A90; clear A90; replace H := Option.bind_eq_some_iff.mp H; obtain ⟨t893, A100, H⟩ := H; (try dsimp only at H); have A10 := Aside0.mk A100; clear A100; obtain rfl := Option.some.inj H
 go_enter Try.func69, Try.ntmps69
 try go_wp2_with (first | ((with_reducible refine gate_dst (N := 2) rfl ?_); refine box_event ?hg (N := 2) ?hd (cs := #[.bool a0_0, .slice A0_1 l0_1.length c0_1]) (t := 33) ?hr ?_; (case hd => rfl); (case hg => rfl); (case hr => first | (go_simp; done) | (go_simp; rfl)); intro gb870 hg w11 hbox hb; have BK870 := Aside0.mk (hbox); have GW870 := kS HB hg; have GE870 := kS HB hg; replace HB := kB HB hb; clear hb hbox hg))
 replace BK870 := Aside0.mk (blk_drew BK870.out); replace HB := Aside0.mk (below_drew1 HB.out); refine start_ (n := 6) (S := fun w' => w'.cell? ⟨gb870, 0, none⟩ = some (.bool a0_0) ∧ w'.cell? ⟨gb870, 1, none⟩ = some (.slice A0_1 l0_1.length c0_1)) (ds := []) #[O, O, O, O, O, O] (by kernel_rfl) rfl rfl ⟨kc BK870 0, kc BK870 1⟩ (fun hHeld => ?_)
 generalize w11.drew = w12 at BK870 HB hHeld ⊢
 refine pure_ (i := 1) (N := some 7) (v := ?_) (a' := ?_) #[O, T, O, O, O, O] rfl rfl (by kernel_rfl) (fun _ _ _ h => h) (Or.inl ⟨by rfl, ?_⟩) ?_ ?_; rotate_left; focus (intro w'; go_simp; with_reducible rfl)
 rotate_left; focus (simp only [Act.put, s1, s2, s3, i64_w, i32_w]; rfl)
 refine take_ (i := 0) (N := some 6) (v := ?_) (a' := ?_) #[T, T, O, O, O, O] rfl rfl (by kernel_rfl) (fun _ _ _ h => h) (Or.inl ⟨by rfl, ?_⟩) hHeld ?_ ?_; rotate_left; focus (rintro w' ⟨s0, s1⟩; go_simp; with_reducible rfl)
 rotate_left; focus (simp only [Act.put, s1, s2, s3, i64_w, i32_w]; rfl)
 refine join_ (σ := Value × Value × Nat) 1 #[T, T, T, T, T, O] (fun s_ => [(8, .agg #[.bool t871, s_.1]), (9, .agg #[.bool t875, s_.2.1]), (5, .pointer (some ⟨s_.2.2, 0, none⟩))]) (fun s_ w' => (w'.cell? ⟨gb870, 0, none⟩ = some (.bool a0_0) ∧ w'.cell? ⟨gb870, 1, none⟩ = some (.slice A0_1 l0_1.length c0_1)) ∧ (Kd.V (Kd.int .i64) 3 w' w.heap.size (fun k_ => k_ ≠ gb870 ∧ k_ ≠ s_.2.2) s_.1 t872) ∧ (Kd.V (Kd.int .i64) 3 w' w.heap.size (fun k_ => k_ ≠ gb870 ∧ k_ ≠ s_.2.2) s_.2.1 t876) ∧ (w'.heap[gb870]? = some (.cells #[.bool a0_0, .slice A0_1 l0_1.length c0_1] 33 (0, 0))) ∧ (w'.heap[s_.2.2]? = some (.cells #[.bool false, .slice none 0 0] 33 (0, 0))) ∧ (w.heap.size ≤ s_.2.2) ∧ (w.heap.size ≤ s_.2.2) ∧ (gb870 ≠ s_.2.2) ∧ (s_.2.2 ≠ gb870) ∧ (Below w.heap.size w w')) ?_ ?_; rotate_left
 ·intro hJ
  refine web_ #[T, T, T, T, T, O] [⟨2, 8, [], [], E1 2 (fun v873 => [.agg #[.bool t871, v873]]) t872⟩, ⟨3, 9, [], [2], E1 3 (fun v877 => [.agg #[.bool t875, v877]]) t876⟩, ⟨4, 5, [], [], EB 4 #[.bool false, .slice none 0 0] 33⟩] 1 (by kernel_rfl) rfl (fun _ t _ _ _ h => by cases t <;> exact h) hHeld (fun _ _ h hb => ⟨cB h.1 hb, cB h.2 hb⟩) (And.intro (oE1 _ _) (And.intro (oE1 _ _) (And.intro (oEB _ _) trivial))) (And.intro ?_ (And.intro ?_ (And.intro ?_ trivial))) ?_
  ·intro x wa lo hi a hb0 hS ha hd; clear hd
   simp only [stA, slots, Ev.sl, vca, vna, zc, zn, putAll, Act.put, s1, s2, s3] at ha; subst ha; refine ⟨_, rfl, fun K hK => ?_⟩
   refine gS Try.func59 #[.int .i64 a1] ?_
   with_reducible refine (cobwebref01_Power.calls k a1 t871 t872 _ A3.out).mono ?_
   rintro e wb ⟨v873, rfl, ho0, hb⟩; refine ⟨_, rfl, hK _ [] _ hb ⟨v873, rfl, kW ho0⟩ trivial⟩
  ·rintro x wa lo hi a hb0 hS ha ⟨d2, -, -, _⟩
   replace HB := kB HB hb0; obtain ⟨v873, hv2, HV2_0⟩ := d2 (.head _); obtain ⟨Ao14, co14, rfl⟩ := Kd.V_slice HV2_0; have HO874 := A0 HV2_0; have hv2 : x 2 = .agg #[.bool t871, (.slice Ao14 t872.length co14)] := (List.cons.inj hv2).1; simp only [stA, slots, Ev.sl, vca, vna, zc, zn, putAll, Act.put, s1, s2, s3, hv2] at ha; subst ha; refine ⟨_, rfl, fun K hK => ?_⟩
   refine gS Try.func51 #[.agg #[.bool a0_0, .slice A0_1 l0_1.length c0_1], .agg #[.bool t871, .slice Ao14 t872.length co14]] ?_
   with_reducible refine (cobwebref01_Mul.calls k a0_0 _ _ l0_1 t871 _ _ t872 t875 t876 _ ?side1 ?side2 ?side3 ?side4 A4.out).mono ?_
   (case side1 => exact kQ (Kd.C_below HR0_1.out HB.out))
   (case side2 => exact HC0_1.out)
   (case side3 => exact kQ ((Kd.V_reads' HO874.out).2.2))
   (case side4 => exact (Kd.V_reads' HO874.out).2.1)
   rintro e wb ⟨v877, rfl, ho0, hb⟩; refine ⟨_, rfl, hK _ [] _ hb ⟨v877, rfl, kW ho0⟩ trivial⟩
  ·intro x wa lo hi a hb0 hS ha hd; refine ⟨_, rfl, fun K hK => ?_⟩; refine box_step ?hg (N := 5) ?hd (cs := #[.bool false, .slice none 0 0]) (t := 33) ?hr ?_; (case hd => rfl); (case hg => rfl); (case hr => first | (go_simp; done) | (go_simp; rfl)); intro g hg wb hbox hb; exact hK _ [] _ hb ⟨g, rfl, hbox, Nat.le_of_eq hg.symm, blk_lt hbox⟩ trivial
  ·rintro x wb lo hi hb0 hS ⟨⟨⟨v873, e2, H0⟩, r2⟩, ⟨⟨v877, e3, H1⟩, r3⟩, ⟨⟨gb4_, e4, K4, q4a, q4b⟩, r4⟩, _⟩ ⟨⟨p2_3, p2_4, _⟩, ⟨p3_4, _⟩, _⟩
   simp only [E0, Ev.ix, zc, zn, List.cons.injEq, and_true] at e2 e3 e4
   dsimp only at r2 r3 r4 p2_3 p2_4 p3_4
   have zb := below_size HB.out; have zBK870 := blk_lt BK870.out
   refine norm_ (by simp only [stA, slots, Ev.sl, vca, vna, zc, zn, putAll, Act.put, s1, s2, s3, e2, e3, e4]) (hJ (v873, v877, gb4_) _ ?_); (try dsimp only); exact ⟨hS, Kd.V_mono H0 (fun k_ hk => by omega), Kd.V_mono H1 (fun k_ hk => by omega), (kb BK870 hb0).out, K4, by omega, by omega, by omega, by omega, (kB HB hb0).out⟩
 rintro ⟨v873, v877, gb879⟩ w17 ⟨hS_, h0_, h1_, h2_, h3_, h4_, h5_, h6_, h7_, h8_⟩; clear BK870 HB; have HO874 := A0 h0_; have HO878 := A0 h1_; have BK870 := A0 h2_; have BK879 := A0 h3_; have GW879 := A0 h4_; have GE879 := A0 h5_; have NB870_879 := A0 h6_; have NB879_870 := A0 h7_; have HB := A0 h8_; clear h0_ h1_ h2_ h3_ h4_ h5_ h6_ h7_ h8_; have hHeld := hS_; obtain ⟨Ao19, co19, eo19⟩ := Kd.V_slice HO878.out
 (first | subst eo19 | (injection eo19 with f1_ f2_ f3_; have f4_ := f1_.symm; have f5_ := f3_.symm; clear f1_ f2_ f3_; subst f4_; subst f5_))
 refine norm_ (a' := ?_) ?_ ?_; rotate_left; focus (simp only [putAll, Act.put, s1, s2, s3]; rfl)
 refine one_ (i := 5) (N := none) #[T, T, T, T, T, T] rfl rfl (by kernel_rfl) (by decide) (fun K hK => ?_); have hs18 : w17.cell? ⟨gb879, 0, none⟩ = some (.bool false) := kc BK879 0; have hfs18 := blk_frozen BK879.out 0; have hns18_0 := NB870_879.out; have hms18_0 := NB879_870.out; have hs20 : w17.cell? ⟨gb879, 1, none⟩ = some (.slice none 0 0) := kc BK879 1; have hfs20 := blk_frozen BK879.out 1; have hns20_0 := NB870_879.out; have hms20_0 := NB879_870.out; refine skip_ (w1 := ?_) (by rfl) rfl ?_ ?_; rotate_left
 ·go_simp
  rfl
 refine hK.out _ _ ⟨((cell_far (p := ⟨gb879, _, none⟩) NB870_879.out _).trans (((cell_far (p := ⟨gb879, _, none⟩) NB870_879.out _).trans (hHeld.1)))), ((cell_far (p := ⟨gb879, _, none⟩) NB870_879.out _).trans (((cell_far (p := ⟨gb879, _, none⟩) NB870_879.out _).trans (hHeld.2))))⟩ (fun hHeld => ?_); clear hK K; refine done_ (by kernel_rfl) ?_
 try go_wp2
 have n0_ : Aside0 (Kd.V (Kd.int .i64) 3 ((w17.setCell ⟨gb879, 0, none⟩ (.bool t875)).setCell ⟨gb879, 1, none⟩ (.slice Ao19 t876.length co19)) w.heap.size (fun k_ => k_ ≠ gb870 ∧ k_ ≠ gb879) v873 t872) := ⟨by (with_reducible repeat (first | apply Kd.V_alloc | apply Kd.V_drewN | apply Kd.V_drew)); exact Kd.V_mono (Kd.V_far (p := ⟨gb879, 1, none⟩) (Kd.V_far (p := ⟨gb879, 0, none⟩) (Kd.V_mono HO874.out (fun k_ hk => (⟨hk, hk.2⟩ : _ ∧ k_ ≠ gb879))) (fun _ hk => hk.2) (.bool t875)) (fun _ hk => hk.2) (.slice Ao19 t876.length co19)) (fun _ hk => ⟨hk.1.1, hk.1.2⟩)⟩; have n1_ : Aside0 (Kd.V (Kd.int .i64) 3 ((w17.setCell ⟨gb879, 0, none⟩ (.bool t875)).setCell ⟨gb879, 1, none⟩ (.slice Ao19 t876.length co19)) w.heap.size (fun k_ => k_ ≠ gb870 ∧ k_ ≠ gb879) (.slice Ao19 t876.length co19) t876) := ⟨by (with_reducible repeat (first | apply Kd.V_alloc | apply Kd.V_drewN | apply Kd.V_drew)); exact Kd.V_mono (Kd.V_far (p := ⟨gb879, 1, none⟩) (Kd.V_far (p := ⟨gb879, 0, none⟩) (Kd.V_mono HO878.out (fun k_ hk => (⟨hk, hk.2⟩ : _ ∧ k_ ≠ gb879))) (fun _ hk => hk.2) (.bool t875)) (fun _ hk => hk.2) (.slice Ao19 t876.length co19)) (fun _ hk => ⟨hk.1.1, hk.1.2⟩)⟩; have n2_ : Aside0 (((w17.setCell ⟨gb879, 0, none⟩ (.bool t875)).setCell ⟨gb879, 1, none⟩ (.slice Ao19 t876.length co19)).heap[gb870]? = some (.cells #[.bool a0_0, .slice A0_1 l0_1.length c0_1] 33 (0, 0))) := ⟨kx BK870⟩; have n3_ : Aside0 (((w17.setCell ⟨gb879, 0, none⟩ (.bool t875)).setCell ⟨gb879, 1, none⟩ (.slice Ao19 t876.length co19)).heap[gb879]? = some (.cells #[.bool t875, .slice Ao19 t876.length co19] 33 (0, 0))) := ⟨by (with_reducible repeat (first | refine zr ?_ _ | refine zw ?_ | refine za ?_ _)); refine blk_put (cs := #[.bool t875, .slice none 0 0]) ?_ 1 _ rfl; (with_reducible repeat (first | refine zr ?_ _ | refine zw ?_ | refine za ?_ _)); refine blk_put (cs := #[.bool false, .slice none 0 0]) ?_ 0 _ rfl; (with_reducible repeat (first | refine zr ?_ _ | refine zw ?_ | refine za ?_ _)); exact BK879.out⟩; have n4_ : Aside0 (Below w.heap.size w ((w17.setCell ⟨gb879, 0, none⟩ (.bool t875)).setCell ⟨gb879, 1, none⟩ (.slice Ao19 t876.length co19))) := ⟨ky HB⟩
 (try clear HO874); (try clear HO878); (try clear BK870); (try clear BK879); (try clear HB)
 generalize ((w17.setCell ⟨gb879, 0, none⟩ (.bool t875)).setCell ⟨gb879, 1, none⟩ (.slice Ao19 t876.length co19)) = w21 at n0_ n1_ n2_ n3_ n4_ ⊢
 have HO874 := n0_; have HO878 := n1_; have BK870 := n2_; have BK879 := n3_; have HB := n4_; clear n0_ n1_ n2_ n3_ n4_; replace HO874 := Aside0.mk (Kd.V_drew HO874.out); replace HO878 := Aside0.mk (Kd.V_drew HO878.out); replace BK870 := Aside0.mk (blk_drew BK870.out); replace BK879 := Aside0.mk (blk_drew BK879.out); replace HB := Aside0.mk (below_drew1 HB.out); refine start_ (n := 12) (S := fun w' => w'.cell? ⟨gb879, 0, none⟩ = some (.bool t875) ∧ w'.cell? ⟨gb879, 1, none⟩ = some (.slice Ao19 t876.length co19)) (ds := []) #[O, O, O, O, O, O, O, O, O, O, O, O] (by kernel_rfl) rfl rfl ⟨kc BK879 0, kc BK879 1⟩ (fun hHeld => ?_); refine with_tabW cobwebref03_near.tab2 cobwebref03_near.bits2 (fun HT_ HW_ => ?_)
 generalize w21.drew = w22 at HO874 HO878 BK870 BK879 HB hHeld ⊢
 refine take_ (i := 0) (N := some 10) (v := ?_) (a' := ?_) #[T, O, O, O, O, O, O, O, O, O, O, O] rfl rfl (take_ofW HT_.out HW_.out (by kernel_rfl)) (fun _ _ _ h => h) (Or.inl ⟨by rfl, ?_⟩) hHeld ?_ ?_; rotate_left; focus (rintro w' ⟨s0, s1⟩; go_simp; with_reducible rfl)
 rotate_left; focus (simp only [Act.put, s1, s2, s3, i64_w, i32_w]; rfl)
 refine one_ (i := 1) (N := some 11) #[T, T, O, O, O, O, O, O, O, O, O, O] rfl rfl (one_of HT_.out (by kernel_rfl)) (by decide) (fun K hK => ?_); refine gS Try.func59 #[.int .i64 27] ?_
 with_reducible refine (cobwebref01_Power.calls k 27 t880 t881 _ A5.out).mono ?_
 rintro e w23 ⟨v882, rfl, ho0, hb⟩; refine ⟨_, rfl, ?_⟩; have HO883 := Aside0.mk (Kd.V_lower (Kd.V_mono (ok' := fun k_ => k_ ≠ gb870 ∧ k_ ≠ gb879) ho0 (fun k_ hk_ => ⟨(kF BK870 k_ hk_), (kF BK879 k_ hk_)⟩)) (ko HB)); replace HO874 := kV HO874 hb; replace HO878 := kV HO878 hb; replace BK870 := kb BK870 hb; replace BK879 := kb BK879 hb; replace HB := kB HB hb
 (try clear hb); (try clear hb2); (try clear hk); (try clear hi); (try clear ho0)
 obtain ⟨Ao24, co24, eo24⟩ := Kd.V_slice HO883.out
 (first | subst eo24 | (injection eo24 with f1_ f2_ f3_; have f4_ := f1_.symm; have f5_ := f3_.symm; clear f1_ f2_ f3_; subst f4_; subst f5_))
 refine hK.out _ _ ⟨kc BK879 0, kc BK879 1⟩ (fun hHeld => ?_); clear hK K
 refine norm_ (a' := ?_) ?_ ?_; rotate_left; focus (show Act.put _ (some 11) _ = _; simp only [Act.put, s1, s2, s3, i64_w, i32_w]; rfl)
 refine one_ (i := 2) (N := some 12) #[T, T, T, O, O, O, O, O, O, O, O, O] rfl rfl (one_of HT_.out (by kernel_rfl)) (by decide) (fun K hK => ?_); refine gS Try.func77 #[.agg #[.bool t880, .slice Ao24 t881.length co24]] ?_
 with_reducible refine (cobwebref01_Neg.calls k t880 (fun k_ => (k_ ≠ gb870 ∧ k_ ≠ gb879)) _ _ t881 t884 t885 _ ?side1 A6.out).mono ?_
 (case side1 => exact HO883.out)
 rintro e w25 ⟨v886, rfl, ho0, hb⟩; refine ⟨_, rfl, ?_⟩; have HO887 := Aside0.mk (Kd.V_lower (Kd.V_mono (ok' := fun k_ => k_ ≠ gb870 ∧ k_ ≠ gb879) ho0 (fun k_ hk_ => ⟨Or.elim hk_ (fun hs_ => hs_.1) (fun hn_ => (Kd.freshB (g := gb870) (o := .cells #[.bool a0_0, .slice A0_1 l0_1.length c0_1] 33 (0, 0)) (kx BK870) k_ hn_)), Or.elim hk_ (fun hs_ => hs_.2) (fun hn_ => (Kd.freshB (g := gb879) (o := .cells #[.bool t875, .slice Ao19 t876.length co19] 33 (0, 0)) (kx BK879) k_ hn_))⟩)) (ko HB)); replace HO874 := kV HO874 hb; replace HO878 := kV HO878 hb; replace HO883 := kV HO883 hb; replace BK870 := kb BK870 hb; replace BK879 := kb BK879 hb; replace HB := kB HB hb
 (try clear hb); (try clear hb2); (try clear hk); (try clear hi); (try clear ho0)
 obtain ⟨Ao26, co26, eo26⟩ := Kd.V_slice HO887.out
 (first | subst eo26 | (injection eo26 with f1_ f2_ f3_; have f4_ := f1_.symm; have f5_ := f3_.symm; clear f1_ f2_ f3_; subst f4_; subst f5_))
 refine hK.out _ _ ⟨kc BK879 0, kc BK879 1⟩ (fun hHeld => ?_); clear hK K
 refine norm_ (a' := ?_) ?_ ?_; rotate_left; focus (show Act.put _ (some 12) _ = _; simp only [Act.put, s1, s2, s3, i64_w, i32_w]; rfl)
 refine one_ (i := 3) (N := some 13) #[T, T, T, T, O, O, O, O, O, O, O, O] rfl rfl (one_of HT_.out (by kernel_rfl)) (by decide) (fun K hK => ?_); refine gS Try.func21 #[.agg #[.bool t875, .slice Ao19 t876.length co19], .agg #[.bool t884, .slice Ao26 t885.length co26]] ?_
 with_reducible refine (cobwebref01_Cmp.calls k t875 _ _ t876 t884 _ _ t885 t888 _ ?side1 ?side2 ?side3 ?side4 A7.out).mono ?_
 (case side1 => exact kQ ((Kd.V_reads' HO878.out).2.2))
 (case side2 => exact (Kd.V_reads' HO878.out).2.1)
 (case side3 => exact kQ ((Kd.V_reads' HO887.out).2.2))
 (case side4 => exact (Kd.V_reads' HO887.out).2.1)
 rintro e w27 ⟨rfl, hb⟩; refine ⟨_, rfl, ?_⟩; replace HO874 := kV HO874 hb; replace HO878 := kV HO878 hb; replace HO883 := kV HO883 hb; replace HO887 := kV HO887 hb; replace BK870 := kb BK870 hb; replace BK879 := kb BK879 hb; replace HB := kB HB hb
 (try clear hb); (try clear hb2); (try clear hk); (try clear hi)
 refine hK.out _ _ ⟨kc BK879 0, kc BK879 1⟩ (fun hHeld => ?_); clear hK K
 refine norm_ (a' := ?_) ?_ ?_; rotate_left; focus (show Act.put _ (some 13) _ = _; simp only [Act.put, s1, s2, s3, i64_w, i32_w]; rfl)
 refine pure_ (i := 4) (N := some 14) (v := ?_) (a' := ?_) #[T, T, T, T, T, O, O, O, O, O, O, O] rfl rfl (any_of HT_.out (by kernel_rfl)) (fun _ _ _ h => h) (Or.inl ⟨by rfl, ?_⟩) ?_ ?_; rotate_left; focus (intro w'; go_simp; with_reducible rfl)
 rotate_left; focus (simp only [Act.put, s1, s2, s3, i64_w, i32_w]; rfl)
 refine pure_ (i := 5) (N := some 15) (v := ?_) (a' := ?_) #[T, T, T, T, T, T, O, O, O, O, O, O] rfl rfl (any_of HT_.out (by kernel_rfl)) (fun _ _ _ h => h) (Or.inl ⟨by rfl, ?_⟩) ?_ ?_; rotate_left; focus (intro w'; go_simp; with_reducible rfl)
 rotate_left; focus (simp only [Act.put, s1, s2, s3, i64_w, i32_w]; rfl)
 refine take_ (i := 6) (N := some 16) (v := ?_) (a' := ?_) #[T, T, T, T, T, T, T, O, O, O, O, O] rfl rfl (take_ofW HT_.out HW_.out (by kernel_rfl)) (fun _ _ _ h => h) (Or.inl ⟨by rfl, ?_⟩) hHeld ?_ ?_; rotate_left; focus (rintro w' ⟨s0, s1⟩; go_simp; with_reducible rfl)
 rotate_left; focus (simp only [Act.put, s1, s2, s3, i64_w, i32_w]; rfl)
 refine one_ (i := 7) (N := some 17) #[T, T, T, T, T, T, T, T, O, O, O, O] rfl rfl (one_of HT_.out (by kernel_rfl)) (by decide) (fun K hK => ?_); refine gS Try.func59 #[.int .i64 27] ?_
 with_reducible refine (cobwebref01_Power.calls k 27 t889 t890 _ A9.out).mono ?_
 rintro e w28 ⟨v891, rfl, ho0, hb⟩; refine ⟨_, rfl, ?_⟩; have HO892 := Aside0.mk (Kd.V_lower (Kd.V_mono (ok' := fun k_ => k_ ≠ gb870 ∧ k_ ≠ gb879) ho0 (fun k_ hk_ => ⟨(kF BK870 k_ hk_), (kF BK879 k_ hk_)⟩)) (ko HB)); replace HO874 := kV HO874 hb; replace HO878 := kV HO878 hb; replace HO883 := kV HO883 hb; replace HO887 := kV HO887 hb; replace BK870 := kb BK870 hb; replace BK879 := kb BK879 hb; replace HB := kB HB hb
 (try clear hb); (try clear hb2); (try clear hk); (try clear hi); (try clear ho0)
 obtain ⟨Ao29, co29, eo29⟩ := Kd.V_slice HO892.out
 (first | subst eo29 | (injection eo29 with f1_ f2_ f3_; have f4_ := f1_.symm; have f5_ := f3_.symm; clear f1_ f2_ f3_; subst f4_; subst f5_))
 refine hK.out _ _ ⟨kc BK879 0, kc BK879 1⟩ (fun hHeld => ?_); clear hK K
 refine norm_ (a' := ?_) ?_ ?_; rotate_left; focus (show Act.put _ (some 17) _ = _; simp only [Act.put, s1, s2, s3, i64_w, i32_w]; rfl)
 refine one_ (i := 8) (N := some 18) #[T, T, T, T, T, T, T, T, T, O, O, O] rfl rfl (one_of HT_.out (by kernel_rfl)) (by decide) (fun K hK => ?_); refine gS Try.func21 #[.agg #[.bool t875, .slice Ao19 t876.length co19], .agg #[.bool t889, .slice Ao29 t890.length co29]] ?_
 with_reducible refine (cobwebref01_Cmp.calls k t875 _ _ t876 t889 _ _ t890 t893 _ ?side1 ?side2 ?side3 ?side4 A10.out).mono ?_
 (case side1 => exact kQ ((Kd.V_reads' HO878.out).2.2))
 (case side2 => exact (Kd.V_reads' HO878.out).2.1)
 (case side3 => exact kQ ((Kd.V_reads' HO892.out).2.2))
 (case side4 => exact (Kd.V_reads' HO892.out).2.1)
 rintro e w30 ⟨rfl, hb⟩; refine ⟨_, rfl, ?_⟩; replace HO874 := kV HO874 hb; replace HO878 := kV HO878 hb; replace HO883 := kV HO883 hb; replace HO887 := kV HO887 hb; replace HO892 := kV HO892 hb; replace BK870 := kb BK870 hb; replace BK879 := kb BK879 hb; replace HB := kB HB hb
 (try clear hb); (try clear hb2); (try clear hk); (try clear hi)
 refine hK.out _ _ ⟨kc BK879 0, kc BK879 1⟩ (fun hHeld => ?_); clear hK K
 refine norm_ (a' := ?_) ?_ ?_; rotate_left; focus (show Act.put _ (some 18) _ = _; simp only [Act.put, s1, s2, s3, i64_w, i32_w]; rfl)
 refine pure_ (i := 9) (N := some 19) (v := ?_) (a' := ?_) #[T, T, T, T, T, T, T, T, T, T, O, O] rfl rfl (any_of HT_.out (by kernel_rfl)) (fun _ _ _ h => h) (Or.inl ⟨by rfl, ?_⟩) ?_ ?_; rotate_left; focus (intro w'; go_simp; with_reducible rfl)
 rotate_left; focus (simp only [Act.put, s1, s2, s3, i64_w, i32_w]; rfl)
 refine pure_ (i := 10) (N := some 20) (v := ?_) (a' := ?_) #[T, T, T, T, T, T, T, T, T, T, T, O] rfl rfl (any_of HT_.out (by kernel_rfl)) (fun _ _ _ h => h) (Or.inl ⟨by rfl, ?_⟩) ?_ ?_; rotate_left; focus (intro w'; go_simp; with_reducible rfl)
 rotate_left; focus (simp only [Act.put, s1, s2, s3, i64_w, i32_w]; rfl)
 refine pure_ (i := 11) (N := some 4) (v := ?_) (a' := ?_) #[T, T, T, T, T, T, T, T, T, T, T, T] rfl rfl (any_of HT_.out (by kernel_rfl)) (fun _ _ _ h => h) (Or.inl ⟨by rfl, ?_⟩) ?_ ?_; rotate_left; focus (intro w'; go_simp; with_reducible rfl)
 rotate_left; focus (simp only [Act.put, s1, s2, s3, i64_w, i32_w]; rfl)
 refine done_ (done_of HT_.out (by kernel_rfl)) ?_
 try go_wp2
 go_ret
 exact ⟨by first | rfl | (simp [errW_none, errW_some] <;> rfl) | (simp [*, errW_none, errW_some] <;> rfl), ky HB⟩
end Go.Proofs.Ytpjbniihdndlmab.Q
