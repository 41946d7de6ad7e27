-- Printed by wip/pp.sh (a session's own turning of the kit's print) for this seat.
import Derived.Test.YtpjbniihdndlmabQx0
import Derived.Test.YtpjbniihdndlmabQx14
import Derived.Test.YtpjbniihdndlmabQx15
import Derived.Test.YtpjbniihdndlmabQx18
import Derived.Test.YtpjbniihdndlmabQx27
namespace Go.Proofs.Ytpjbniihdndlmab.Q
open Go.RowKit Go.Proofs.YtpjbniihdndlmabW.PrintWords Go.Proofs.YtpjbniihdndlmabW.PrintLast Go.Proofs.YtpjbniihdndlmabW.PrintMore
open Go.Proofs.Ytpjbniihdndlmab.H
attribute [local go_sem] hq_add64 hq_sub64 hq_not64 add64c_nn sub64c_nn sub64c_le
attribute [local go_sem] max2_int min2_int max_two min_two max_three min_three max_four min_four   -- for this text's walks alone
set_option linter.unusedVariables false
set_option linter.unusedSimpArgs false

/-! ### cobwebref03_near: function 69 -/
def cobwebref03_near.f (k : Nat) (a0_0 : Bool) (l0_1 : List Int) (a1 : Int) : Option (Bool) := (cobwebref01_Power.f k a1).bind fun bt871 => ((cobwebref01_Mul.f k a0_0 l0_1 bt871.1 bt871.2).bind fun bt875 => ((cobwebref01_Power.f k 27).bind fun bt880 => ((cobwebref01_Neg.f k bt880.1 bt880.2).bind fun bt884 => ((cobwebref01_Cmp.f k bt875.1 bt875.2 bt884.1 bt884.2).bind fun t888 => (if t888 ≥ 0 then ((cobwebref01_Power.f k 27).bind fun bt889 => ((cobwebref01_Cmp.f k bt875.1 bt875.2 bt889.1 bt889.2).bind fun t893 => (some (decide (t893 ≤ 0))))) else (some false))))))
theorem cobwebref03_near.mono : ∀ a0 a1 a2 k, LeO (cobwebref03_near.f k a0 a1 a2) (cobwebref03_near.f (k + 1) a0 a1 a2) := by
  intro a0 a1 a2 k
  unfold cobwebref03_near.f
  repeat' first
      | (with_reducible exact cobwebref01_Cmp.mono _ _ _ _ _)
      | (with_reducible exact cobwebref01_Mul.mono _ _ _ _ _)
      | (with_reducible exact cobwebref01_Neg.mono _ _ _)
      | (with_reducible exact cobwebref01_Power.mono _ _)
      | (with_reducible exact LeO.refl _)
      | (with_reducible exact LeO.none _)
      | (with_reducible refine LeO.ite ?_ ?_)
      | (with_reducible refine LeO.bind ?_ (fun _ => ?_))
      | exact cobwebref01_Cmp.mono _ _ _ _ _
      | exact cobwebref01_Mul.mono _ _ _ _ _
      | exact cobwebref01_Neg.mono _ _ _
      | exact cobwebref01_Power.mono _ _
      | exact LeO.none _
      | refine LeO.ite ?_ ?_
      | refine LeO.bind ?_ (fun _ => ?_)
def cobwebref03_near.T2 : Bool × List (List Nat × List Nat) := (true, [([], []), ([], []), ([1, 1], [1]), ([0, 2, 2], [0, 2]), ([3], [3]), ([4, 3], [4]), ([5], [5]), ([5, 5], [5]), ([6, 7, 7, 5], [5, 6, 7]), ([8, 5], [5, 8]), ([5, 9], [5, 9]), ([10, 8, 0, 1, 2, 3, 4, 5, 6, 7, 8, 9, 10], [10])])
def cobwebref03_near.B2 : List Nat := [0, 0, 2, 7, 15, 31, 63, 63, 255, 511, 1023, 2047]
theorem cobwebref03_near.tab2 : rtab .any (opsOf Try.f69 2) = cobwebref03_near.T2 := by kernel_rfl
theorem cobwebref03_near.bits2 : waitsOk cobwebref03_near.T2.2 cobwebref03_near.B2 = true := by kernel_rfl
set_option maxHeartbeats 8000000 in
set_option maxRecDepth 100000 in
theorem cobwebref03_near.calls (k : Nat) (a0_0 : Bool) (A0_1 : Option Addr) (c0_1 : Nat) (l0_1 : List Int) (a1 : Int) (r : Bool) (w : World) (hr0_1 : Kd.C (Kd.int .i64) w A0_1 l0_1.length l0_1) (hc0_1 : l0_1.length ≤ c0_1) (h : cobwebref03_near.f k a0_0 l0_1 a1 = some r) :
    Calls Try.prog 69 #[.agg #[.bool a0_0, .slice A0_1 l0_1.length c0_1], .int .i64 a1] w fun e w' => e = .returned (.bool r) ∧ Below w.heap.size w w' := by
  have hu33 := Try.underlying33
  have HR0_1 := Aside0.mk hr0_1
  have HC0_1 := Aside0.mk hc0_1
  clear hr0_1 hc0_1
  have HB := Aside0.mk (Below.refl w.heap.size w)
  have H : ((cobwebref01_Power.f k a1).bind fun bt871 => ((cobwebref01_Mul.f k a0_0 l0_1 bt871.1 bt871.2).bind fun bt875 => ((cobwebref01_Power.f k 27).bind fun bt880 => ((cobwebref01_Neg.f k bt880.1 bt880.2).bind fun bt884 => ((cobwebref01_Cmp.f k bt875.1 bt875.2 bt884.1 bt884.2).bind fun t888 => (if t888 ≥ 0 then ((cobwebref01_Power.f k 27).bind fun bt889 => ((cobwebref01_Cmp.f k bt875.1 bt875.2 bt889.1 bt889.2).bind fun t893 => (some (decide (t893 ≤ 0))))) else (some false))))))) = some r := h
  clear h
  replace H := Option.bind_eq_some_iff.mp H
  obtain ⟨⟨t871, t872⟩, A30, H⟩ := H
  replace H : ((cobwebref01_Mul.f k a0_0 l0_1 t871 t872).bind fun bt875 => ((cobwebref01_Power.f k 27).bind fun bt880 => ((cobwebref01_Neg.f k bt880.1 bt880.2).bind fun bt884 => ((cobwebref01_Cmp.f k bt875.1 bt875.2 bt884.1 bt884.2).bind fun t888 => (if t888 ≥ 0 then ((cobwebref01_Power.f k 27).bind fun bt889 => ((cobwebref01_Cmp.f k bt875.1 bt875.2 bt889.1 bt889.2).bind fun t893 => (some (decide (t893 ≤ 0))))) else (some false)))))) = some r := H
  have A3 := Aside0.mk A30
  clear A30
  replace H := Option.bind_eq_some_iff.mp H
  obtain ⟨⟨t875, t876⟩, A40, H⟩ := H
  replace H : ((cobwebref01_Power.f k 27).bind fun bt880 => ((cobwebref01_Neg.f k bt880.1 bt880.2).bind fun bt884 => ((cobwebref01_Cmp.f k t875 t876 bt884.1 bt884.2).bind fun t888 => (if t888 ≥ 0 then ((cobwebref01_Power.f k 27).bind fun bt889 => ((cobwebref01_Cmp.f k t875 t876 bt889.1 bt889.2).bind fun t893 => (some (decide (t893 ≤ 0))))) else (some false))))) = some r := H
  have A4 := Aside0.mk A40
  clear A40
  replace H := Option.bind_eq_some_iff.mp H
  obtain ⟨⟨t880, t881⟩, A50, H⟩ := H
  replace H : ((cobwebref01_Neg.f k t880 t881).bind fun bt884 => ((cobwebref01_Cmp.f k t875 t876 bt884.1 bt884.2).bind fun t888 => (if t888 ≥ 0 then ((cobwebref01_Power.f k 27).bind fun bt889 => ((cobwebref01_Cmp.f k t875 t876 bt889.1 bt889.2).bind fun t893 => (some (decide (t893 ≤ 0))))) else (some false)))) = some r := H
  have A5 := Aside0.mk A50
  clear A50
  replace H := Option.bind_eq_some_iff.mp H
  obtain ⟨⟨t884, t885⟩, A60, H⟩ := H
  replace H : ((cobwebref01_Cmp.f k t875 t876 t884 t885).bind fun t888 => (if t888 ≥ 0 then ((cobwebref01_Power.f k 27).bind fun bt889 => ((cobwebref01_Cmp.f k t875 t876 bt889.1 bt889.2).bind fun t893 => (some (decide (t893 ≤ 0))))) else (some false))) = some r := H
  have A6 := Aside0.mk A60
  clear A60
  replace H := Option.bind_eq_some_iff.mp H
  obtain ⟨t888, A70, H⟩ := H
  replace H : (if t888 ≥ 0 then ((cobwebref01_Power.f k 27).bind fun bt889 => ((cobwebref01_Cmp.f k t875 t876 bt889.1 bt889.2).bind fun t893 => (some (decide (t893 ≤ 0))))) else (some false)) = some r := H
  have A7 := Aside0.mk A70
  clear A70
  by_cases c8 : t888 ≥ 0
  rotate_left
  · rw [if_neg c8] at H
    have c8b0 : decide (0 ≤ t888) = false := decide_eq_false c8
    clear c8
    obtain rfl := Option.some.inj H
    go_enter Try.func69, Try.ntmps69
    try go_wp2_with (first | ((with_reducible refine gate_dst (N := 2) rfl ?_); refine box_event ?hg (N := 2) ?hd (cs := #[.bool a0_0, .slice A0_1 l0_1.length c0_1]) (t := 33) ?hr ?_; (case hd => rfl); (case hg => rfl); (case hr => first | (go_simp; done) | (go_simp; rfl)); intro gb870 hg w31 hbox hb; have BK870 := Aside0.mk (hbox); have GW870 := kS HB hg; have GE870 := kS HB hg; replace HB := kB HB hb; clear hb hbox hg))
    replace BK870 := Aside0.mk (blk_drew BK870.out)
    replace HB := Aside0.mk (below_drew1 HB.out)
    refine start_ (n := 6) (S := fun w' => w'.cell? ⟨gb870, 0, none⟩ = some (.bool a0_0) ∧ w'.cell? ⟨gb870, 1, none⟩ = some (.slice A0_1 l0_1.length c0_1)) (ds := []) #[O, O, O, O, O, O] (by kernel_rfl) rfl rfl ⟨kc BK870 0, kc BK870 1⟩ (fun hHeld => ?_)
    generalize w31.drew = w32 at BK870 HB hHeld ⊢
    refine pure_ (i := 1) (N := some 7) (v := ?_) (a' := ?_) #[O, T, O, O, O, O] rfl rfl (by kernel_rfl) (fun _ _ _ h => h) (Or.inl ⟨by rfl, ?_⟩) ?_ ?_; rotate_left; focus (intro w'; go_simp; with_reducible rfl)
    rotate_left; focus (simp only [Act.put, s1, s2, s3, i64_w, i32_w]; rfl)
    refine take_ (i := 0) (N := some 6) (v := ?_) (a' := ?_) #[T, T, O, O, O, O] rfl rfl (by kernel_rfl) (fun _ _ _ h => h) (Or.inl ⟨by rfl, ?_⟩) hHeld ?_ ?_; rotate_left; focus (rintro w' ⟨s0, s1⟩; go_simp; with_reducible rfl)
    rotate_left; focus (simp only [Act.put, s1, s2, s3, i64_w, i32_w]; rfl)
    refine join_ (σ := Value × Value × Nat) 1 #[T, T, T, T, T, O] (fun s_ => [(8, .agg #[.bool t871, s_.1]), (9, .agg #[.bool t875, s_.2.1]), (5, .pointer (some ⟨s_.2.2, 0, none⟩))]) (fun s_ w' => (w'.cell? ⟨gb870, 0, none⟩ = some (.bool a0_0) ∧ w'.cell? ⟨gb870, 1, none⟩ = some (.slice A0_1 l0_1.length c0_1)) ∧ (Kd.V (Kd.int .i64) 3 w' w.heap.size (fun k_ => k_ ≠ gb870 ∧ k_ ≠ s_.2.2) s_.1 t872) ∧ (Kd.V (Kd.int .i64) 3 w' w.heap.size (fun k_ => k_ ≠ gb870 ∧ k_ ≠ s_.2.2) s_.2.1 t876) ∧ (w'.heap[gb870]? = some (.cells #[.bool a0_0, .slice A0_1 l0_1.length c0_1] 33 (0, 0))) ∧ (w'.heap[s_.2.2]? = some (.cells #[.bool false, .slice none 0 0] 33 (0, 0))) ∧ (w.heap.size ≤ s_.2.2) ∧ (w.heap.size ≤ s_.2.2) ∧ (gb870 ≠ s_.2.2) ∧ (s_.2.2 ≠ gb870) ∧ (Below w.heap.size w w')) ?_ ?_
    rotate_left
    · intro hCont
      refine two_ (i := 2) (j := 4) (Ni := some 8) (Nj := some 5) #[T, T, T, O, O, O] #[T, T, O, O, T, O] rfl rfl rfl rfl (by kernel_rfl) (by decide) (by decide) (fun K hK => ?_) (fun K hK => ?_)
      · skip
        refine goes_ Try.func59 (by kernel_rfl) rfl #[.int .i64 a1] (by rfl) rfl rfl (by (try simp only [List.map_toArray, List.map_cons, List.map_nil]); first | done | rfl | (simp only [List.length_drop, List.length_take]; rfl)) ?_
        with_reducible refine (cobwebref01_Power.calls k a1 t871 t872 _ A3.out).mono ?_
        rintro e w33 ⟨v873, rfl, ho0, hb⟩
        refine ⟨_, rfl, ?_⟩
        have HO874 := Aside0.mk (Kd.V_lower (Kd.V_mono (ok' := fun k_ => k_ ≠ gb870) ho0 (fun k_ hk_ => (Kd.freshB (g := gb870) (o := .cells #[.bool a0_0, .slice A0_1 l0_1.length c0_1] 33 (0, 0)) (kx BK870) k_ hk_))) (below_size (ky HB)))
        replace BK870 := kb BK870 hb
        replace HB := kB HB hb
        (try clear hb); (try clear hb2); (try clear hk); (try clear hi); (try clear ho0)
        obtain ⟨Ao34, co34, eo34⟩ := Kd.V_slice HO874.out
        (first | subst eo34 | (injection eo34 with f1_ f2_ f3_; have f4_ := f1_.symm; have f5_ := f3_.symm; clear f1_ f2_ f3_; subst f4_; subst f5_))
        refine hK.out _ _ ⟨kc BK870 0, kc BK870 1⟩ (fun hHeld => ?_)
        clear hK K
        refine norm_ (a' := ?_) ?_ ?_; rotate_left; focus (show Act.put _ (some 8) _ = _; simp only [Act.put, s1, s2, s3, i64_w, i32_w]; rfl)
        refine two_ (i := 3) (j := 4) (Ni := some 9) (Nj := some 5) #[T, T, T, T, O, O] #[T, T, T, O, T, O] rfl rfl rfl rfl (by kernel_rfl) (by decide) (by decide) (fun K hK => ?_) (fun K hK => ?_)
        · skip
          refine goes_ Try.func51 (by kernel_rfl) rfl #[.agg #[.bool a0_0, .slice A0_1 l0_1.length c0_1], .agg #[.bool t871, .slice Ao34 t872.length co34]] (by rfl) rfl rfl (by (try simp only [List.map_toArray, List.map_cons, List.map_nil]); first | done | rfl | (simp only [List.length_drop, List.length_take]; rfl)) ?_
          with_reducible refine (cobwebref01_Mul.calls k a0_0 _ _ l0_1 t871 _ _ t872 t875 t876 _ ?side1 ?side2 ?side3 ?side4 A4.out).mono ?_
          (case side1 => repeat (first | exact (Kd.C_below HR0_1.out HB.out) | (with_reducible refine Kd.C_alloc ?_ _) | (with_reducible refine Kd.C_drewN ?_ _) | (with_reducible refine Kd.C_drew ?_)))
          (case side2 => exact HC0_1.out)
          (case side3 => repeat (first | exact (Kd.V_reads' HO874.out).2.2 | (with_reducible refine Kd.C_alloc ?_ _) | (with_reducible refine Kd.C_drewN ?_ _) | (with_reducible refine Kd.C_drew ?_)))
          (case side4 => exact (Kd.V_reads' HO874.out).2.1)
          rintro e w35 ⟨v877, rfl, ho0, hb⟩
          refine ⟨_, rfl, ?_⟩
          have HO878 := Aside0.mk (Kd.V_lower (Kd.V_mono (ok' := fun k_ => k_ ≠ gb870) ho0 (fun k_ hk_ => (Kd.freshB (g := gb870) (o := .cells #[.bool a0_0, .slice A0_1 l0_1.length c0_1] 33 (0, 0)) (kx BK870) k_ hk_))) (below_size (ky HB)))
          replace HO874 := kV HO874 hb
          replace BK870 := kb BK870 hb
          replace HB := kB HB hb
          (try clear hb); (try clear hb2); (try clear hk); (try clear hi); (try clear ho0)
          refine hK.out _ _ ⟨kc BK870 0, kc BK870 1⟩ (fun hHeld => ?_)
          clear hK K
          refine norm_ (a' := ?_) ?_ ?_; rotate_left; focus (show Act.put _ (some 9) _ = _; simp only [Act.put, s1, s2, s3, i64_w, i32_w]; rfl)
          refine one_ (i := 4) (N := some 5) #[T, T, T, T, T, O] rfl rfl (by kernel_rfl) (by decide) (fun K hK => ?_)
          refine box_step ?hg (N := 5) ?hd (cs := #[.bool false, .slice none 0 0]) (t := 33) ?hr ?_; (case hd => rfl); (case hg => rfl); (case hr => first | (go_simp; done) | (go_simp; rfl))
          intro gb879 hg w36 hbox hb
          have n0_ := Aside0.mk (Kd.V_below (Kd.V_elderB (kv HO874) gb879 (Nat.le_of_eq hg.symm)) hb)
          have n1_ := Aside0.mk (Kd.V_below (Kd.V_elderB (kv HO878) gb879 (Nat.le_of_eq hg.symm)) hb)
          have n2_ := kb BK870 hb
          have n3_ := kB HB hb
          have n4_ := Aside0.mk (hbox)
          have n5_ := kS HB hg
          have n6_ := kS HB hg
          have n7_ := kN BK870 hg
          have n8_ := kM BK870 hg
          clear HO874; clear HO878; clear BK870; clear HB; have HO874 := n0_; have HO878 := n1_; have BK870 := n2_; have HB := n3_; have BK879 := n4_; have GW879 := n5_; have GE879 := n6_; have NB870_879 := n7_; have NB879_870 := n8_
          clear n0_ n1_ n2_ n3_ n4_ n5_ n6_ n7_ n8_
          clear hb hbox hg
          refine hK.out _ _ ⟨kc BK870 0, kc BK870 1⟩ (fun hHeld => ?_)
          clear hK K
          refine norm_ (a' := ?_) ?_ ?_; rotate_left; focus (show Act.put _ (some 5) _ = _; simp only [Act.put, s1, s2, s3, i64_w, i32_w]; rfl)
          exact norm_ (by simp only [putAll, Act.put, s1, s2, s3]) (hCont (.slice Ao34 t872.length co34, v877, gb879) _ ⟨hHeld, (kv HO874), (kv HO878), (kx BK870), (kx BK879), GW879.out, GE879.out, NB870_879.out, NB879_870.out, (ky HB)⟩)
        · skip
          refine box_step ?hg (N := 5) ?hd (cs := #[.bool false, .slice none 0 0]) (t := 33) ?hr ?_; (case hd => rfl); (case hg => rfl); (case hr => first | (go_simp; done) | (go_simp; rfl))
          intro gb879 hg w34 hbox hb
          have n0_ := Aside0.mk (Kd.V_below (Kd.V_elderB (kv HO874) gb879 (Nat.le_of_eq hg.symm)) hb)
          have n1_ := kb BK870 hb
          have n2_ := kB HB hb
          have n3_ := Aside0.mk (hbox)
          have n4_ := kS HB hg
          have n5_ := kS HB hg
          have n6_ := kN BK870 hg
          have n7_ := kM BK870 hg
          clear HO874; clear BK870; clear HB; have HO874 := n0_; have BK870 := n1_; have HB := n2_; have BK879 := n3_; have GW879 := n4_; have GE879 := n5_; have NB870_879 := n6_; have NB879_870 := n7_
          clear n0_ n1_ n2_ n3_ n4_ n5_ n6_ n7_
          clear hb hbox hg
          obtain ⟨Ao35, co35, eo35⟩ := Kd.V_slice HO874.out
          (first | subst eo35 | (injection eo35 with f1_ f2_ f3_; have f4_ := f1_.symm; have f5_ := f3_.symm; clear f1_ f2_ f3_; subst f4_; subst f5_))
          refine hK.out _ _ ⟨kc BK870 0, kc BK870 1⟩ (fun hHeld => ?_)
          clear hK K
          refine norm_ (a' := ?_) ?_ ?_; rotate_left; focus (show Act.put _ (some 5) _ = _; simp only [Act.put, s1, s2, s3, i64_w, i32_w]; rfl)
          refine one_ (i := 3) (N := some 9) #[T, T, T, T, T, O] rfl rfl (by kernel_rfl) (by decide) (fun K hK => ?_)
          refine goes_ Try.func51 (by kernel_rfl) rfl #[.agg #[.bool a0_0, .slice A0_1 l0_1.length c0_1], .agg #[.bool t871, .slice Ao35 t872.length co35]] (by rfl) rfl rfl (by (try simp only [List.map_toArray, List.map_cons, List.map_nil]); first | done | rfl | (simp only [List.length_drop, List.length_take]; rfl)) ?_
          with_reducible refine (cobwebref01_Mul.calls k a0_0 _ _ l0_1 t871 _ _ t872 t875 t876 _ ?side1 ?side2 ?side3 ?side4 A4.out).mono ?_
          (case side1 => repeat (first | exact (Kd.C_below HR0_1.out HB.out) | (with_reducible refine Kd.C_alloc ?_ _) | (with_reducible refine Kd.C_drewN ?_ _) | (with_reducible refine Kd.C_drew ?_)))
          (case side2 => exact HC0_1.out)
          (case side3 => repeat (first | exact (Kd.V_reads' HO874.out).2.2 | (with_reducible refine Kd.C_alloc ?_ _) | (with_reducible refine Kd.C_drewN ?_ _) | (with_reducible refine Kd.C_drew ?_)))
          (case side4 => exact (Kd.V_reads' HO874.out).2.1)
          rintro e w36 ⟨v877, rfl, ho0, hb⟩
          refine ⟨_, rfl, ?_⟩
          have HO878 := Aside0.mk (Kd.V_lower (Kd.V_mono (ok' := fun k_ => k_ ≠ gb870 ∧ k_ ≠ gb879) ho0 (fun k_ hk_ => ⟨(Kd.freshB (g := gb870) (o := .cells #[.bool a0_0, .slice A0_1 l0_1.length c0_1] 33 (0, 0)) (kx BK870) k_ hk_), (Kd.freshB (g := gb879) (o := .cells #[.bool false, .slice none 0 0] 33 (0, 0)) (kx BK879) k_ hk_)⟩)) (below_size (ky HB)))
          replace HO874 := kV HO874 hb
          replace BK870 := kb BK870 hb
          replace BK879 := kb BK879 hb
          replace HB := kB HB hb
          (try clear hb); (try clear hb2); (try clear hk); (try clear hi); (try clear ho0)
          refine hK.out _ _ ⟨kc BK870 0, kc BK870 1⟩ (fun hHeld => ?_)
          clear hK K
          refine norm_ (a' := ?_) ?_ ?_; rotate_left; focus (show Act.put _ (some 9) _ = _; simp only [Act.put, s1, s2, s3, i64_w, i32_w]; rfl)
          exact norm_ (by simp only [putAll, Act.put, s1, s2, s3]) (hCont (.slice Ao35 t872.length co35, v877, gb879) _ ⟨hHeld, (kv HO874), (kv HO878), (kx BK870), (kx BK879), GW879.out, GE879.out, NB870_879.out, NB879_870.out, (ky HB)⟩)
      · skip
        refine box_step ?hg (N := 5) ?hd (cs := #[.bool false, .slice none 0 0]) (t := 33) ?hr ?_; (case hd => rfl); (case hg => rfl); (case hr => first | (go_simp; done) | (go_simp; rfl))
        intro gb879 hg w33 hbox hb
        have BK879 := Aside0.mk (hbox)
        have GW879 := kS HB hg
        have GE879 := kS HB hg
        have NB870_879 := kN BK870 hg
        have NB879_870 := kM BK870 hg
        replace BK870 := kb BK870 hb
        replace HB := kB HB hb
        clear hb hbox hg
        refine hK.out _ _ ⟨kc BK870 0, kc BK870 1⟩ (fun hHeld => ?_)
        clear hK K
        refine norm_ (a' := ?_) ?_ ?_; rotate_left; focus (show Act.put _ (some 5) _ = _; simp only [Act.put, s1, s2, s3, i64_w, i32_w]; rfl)
        refine one_ (i := 2) (N := some 8) #[T, T, T, O, T, O] rfl rfl (by kernel_rfl) (by decide) (fun K hK => ?_)
        refine goes_ Try.func59 (by kernel_rfl) rfl #[.int .i64 a1] (by rfl) rfl rfl (by (try simp only [List.map_toArray, List.map_cons, List.map_nil]); first | done | rfl | (simp only [List.length_drop, List.length_take]; rfl)) ?_
        with_reducible refine (cobwebref01_Power.calls k a1 t871 t872 _ A3.out).mono ?_
        rintro e w34 ⟨v873, rfl, ho0, hb⟩
        refine ⟨_, rfl, ?_⟩
        have HO874 := Aside0.mk (Kd.V_lower (Kd.V_mono (ok' := fun k_ => k_ ≠ gb870 ∧ k_ ≠ gb879) ho0 (fun k_ hk_ => ⟨(Kd.freshB (g := gb870) (o := .cells #[.bool a0_0, .slice A0_1 l0_1.length c0_1] 33 (0, 0)) (kx BK870) k_ hk_), (Kd.freshB (g := gb879) (o := .cells #[.bool false, .slice none 0 0] 33 (0, 0)) (kx BK879) k_ hk_)⟩)) (below_size (ky HB)))
        replace BK870 := kb BK870 hb
        replace BK879 := kb BK879 hb
        replace HB := kB HB hb
        (try clear hb); (try clear hb2); (try clear hk); (try clear hi); (try clear ho0)
        obtain ⟨Ao35, co35, eo35⟩ := Kd.V_slice HO874.out
        (first | subst eo35 | (injection eo35 with f1_ f2_ f3_; have f4_ := f1_.symm; have f5_ := f3_.symm; clear f1_ f2_ f3_; subst f4_; subst f5_))
        refine hK.out _ _ ⟨kc BK870 0, kc BK870 1⟩ (fun hHeld => ?_)
        clear hK K
        refine norm_ (a' := ?_) ?_ ?_; rotate_left; focus (show Act.put _ (some 8) _ = _; simp only [Act.put, s1, s2, s3, i64_w, i32_w]; rfl)
        refine one_ (i := 3) (N := some 9) #[T, T, T, T, T, O] rfl rfl (by kernel_rfl) (by decide) (fun K hK => ?_)
        refine goes_ Try.func51 (by kernel_rfl) rfl #[.agg #[.bool a0_0, .slice A0_1 l0_1.length c0_1], .agg #[.bool t871, .slice Ao35 t872.length co35]] (by rfl) rfl rfl (by (try simp only [List.map_toArray, List.map_cons, List.map_nil]); first | done | rfl | (simp only [List.length_drop, List.length_take]; rfl)) ?_
        with_reducible refine (cobwebref01_Mul.calls k a0_0 _ _ l0_1 t871 _ _ t872 t875 t876 _ ?side1 ?side2 ?side3 ?side4 A4.out).mono ?_
        (case side1 => repeat (first | exact (Kd.C_below HR0_1.out HB.out) | (with_reducible refine Kd.C_alloc ?_ _) | (with_reducible refine Kd.C_drewN ?_ _) | (with_reducible refine Kd.C_drew ?_)))
        (case side2 => exact HC0_1.out)
        (case side3 => repeat (first | exact (Kd.V_reads' HO874.out).2.2 | (with_reducible refine Kd.C_alloc ?_ _) | (with_reducible refine Kd.C_drewN ?_ _) | (with_reducible refine Kd.C_drew ?_)))
        (case side4 => exact (Kd.V_reads' HO874.out).2.1)
        rintro e w36 ⟨v877, rfl, ho0, hb⟩
        refine ⟨_, rfl, ?_⟩
        have HO878 := Aside0.mk (Kd.V_lower (Kd.V_mono (ok' := fun k_ => k_ ≠ gb870 ∧ k_ ≠ gb879) ho0 (fun k_ hk_ => ⟨(Kd.freshB (g := gb870) (o := .cells #[.bool a0_0, .slice A0_1 l0_1.length c0_1] 33 (0, 0)) (kx BK870) k_ hk_), (Kd.freshB (g := gb879) (o := .cells #[.bool false, .slice none 0 0] 33 (0, 0)) (kx BK879) k_ hk_)⟩)) (below_size (ky HB)))
        replace HO874 := kV HO874 hb
        replace BK870 := kb BK870 hb
        replace BK879 := kb BK879 hb
        replace HB := kB HB hb
        (try clear hb); (try clear hb2); (try clear hk); (try clear hi); (try clear ho0)
        refine hK.out _ _ ⟨kc BK870 0, kc BK870 1⟩ (fun hHeld => ?_)
        clear hK K
        refine norm_ (a' := ?_) ?_ ?_; rotate_left; focus (show Act.put _ (some 9) _ = _; simp only [Act.put, s1, s2, s3, i64_w, i32_w]; rfl)
        exact norm_ (by simp only [putAll, Act.put, s1, s2, s3]) (hCont (.slice Ao35 t872.length co35, v877, gb879) _ ⟨hHeld, (kv HO874), (kv HO878), (kx BK870), (kx BK879), GW879.out, GE879.out, NB870_879.out, NB879_870.out, (ky HB)⟩)
    rintro ⟨v873, v877, gb879⟩ w37 ⟨hS_, h0_, h1_, h2_, h3_, h4_, h5_, h6_, h7_, h8_⟩
    clear BK870 HB
    have HO874 := A0 h0_; have HO878 := A0 h1_; have BK870 := A0 h2_; have BK879 := A0 h3_; have GW879 := A0 h4_; have GE879 := A0 h5_; have NB870_879 := A0 h6_; have NB879_870 := A0 h7_; have HB := A0 h8_
    clear h0_ h1_ h2_ h3_ h4_ h5_ h6_ h7_ h8_
    have hHeld := hS_
    obtain ⟨Ao39, co39, eo39⟩ := Kd.V_slice HO878.out
    (first | subst eo39 | (injection eo39 with f1_ f2_ f3_; have f4_ := f1_.symm; have f5_ := f3_.symm; clear f1_ f2_ f3_; subst f4_; subst f5_))
    refine norm_ (a' := ?_) ?_ ?_; rotate_left; focus (simp only [putAll, Act.put, s1, s2, s3]; rfl)
    refine one_ (i := 5) (N := none) #[T, T, T, T, T, T] rfl rfl (by kernel_rfl) (by decide) (fun K hK => ?_)
    have hs38 : w37.cell? ⟨gb879, 0, none⟩ = some (.bool false) := kc BK879 0
    have hfs38 := blk_frozen BK879.out 0
    have hns38_0 := NB870_879.out; have hms38_0 := NB879_870.out
    have hs40 : w37.cell? ⟨gb879, 1, none⟩ = some (.slice none 0 0) := kc BK879 1
    have hfs40 := blk_frozen BK879.out 1
    have hns40_0 := NB870_879.out; have hms40_0 := NB879_870.out
    refine skip_ (w1 := ?_) (by rfl) rfl ?_ ?_
    rotate_left
    · go_simp
      rfl
    refine hK.out _ _ ⟨((cell_far (p := ⟨gb879, _, none⟩) NB870_879.out _).trans (((cell_far (p := ⟨gb879, _, none⟩) NB870_879.out _).trans (hHeld.1)))), ((cell_far (p := ⟨gb879, _, none⟩) NB870_879.out _).trans (((cell_far (p := ⟨gb879, _, none⟩) NB870_879.out _).trans (hHeld.2))))⟩ (fun hHeld => ?_)
    clear hK K
    refine done_ (by kernel_rfl) ?_
    try go_wp2
    have n0_ : Aside0 (Kd.V (Kd.int .i64) 3 ((w37.setCell ⟨gb879, 0, none⟩ (.bool t875)).setCell ⟨gb879, 1, none⟩ (.slice Ao39 t876.length co39)) w.heap.size (fun k_ => k_ ≠ gb870 ∧ k_ ≠ gb879) v873 t872) := ⟨by (with_reducible repeat (first | apply Kd.V_alloc | apply Kd.V_drewN | apply Kd.V_drew)); exact Kd.V_mono (Kd.V_far (p := ⟨gb879, 1, none⟩) (Kd.V_far (p := ⟨gb879, 0, none⟩) (Kd.V_mono HO874.out (fun k_ hk => (⟨hk, hk.2⟩ : _ ∧ k_ ≠ gb879))) (fun _ hk => hk.2) (.bool t875)) (fun _ hk => hk.2) (.slice Ao39 t876.length co39)) (fun _ hk => ⟨hk.1.1, hk.1.2⟩)⟩
    have n1_ : Aside0 (Kd.V (Kd.int .i64) 3 ((w37.setCell ⟨gb879, 0, none⟩ (.bool t875)).setCell ⟨gb879, 1, none⟩ (.slice Ao39 t876.length co39)) w.heap.size (fun k_ => k_ ≠ gb870 ∧ k_ ≠ gb879) (.slice Ao39 t876.length co39) t876) := ⟨by (with_reducible repeat (first | apply Kd.V_alloc | apply Kd.V_drewN | apply Kd.V_drew)); exact Kd.V_mono (Kd.V_far (p := ⟨gb879, 1, none⟩) (Kd.V_far (p := ⟨gb879, 0, none⟩) (Kd.V_mono HO878.out (fun k_ hk => (⟨hk, hk.2⟩ : _ ∧ k_ ≠ gb879))) (fun _ hk => hk.2) (.bool t875)) (fun _ hk => hk.2) (.slice Ao39 t876.length co39)) (fun _ hk => ⟨hk.1.1, hk.1.2⟩)⟩
    have n2_ : Aside0 (((w37.setCell ⟨gb879, 0, none⟩ (.bool t875)).setCell ⟨gb879, 1, none⟩ (.slice Ao39 t876.length co39)).heap[gb870]? = some (.cells #[.bool a0_0, .slice A0_1 l0_1.length c0_1] 33 (0, 0))) := ⟨kx BK870⟩
    have n3_ : Aside0 (((w37.setCell ⟨gb879, 0, none⟩ (.bool t875)).setCell ⟨gb879, 1, none⟩ (.slice Ao39 t876.length co39)).heap[gb879]? = some (.cells #[.bool t875, .slice Ao39 t876.length co39] 33 (0, 0))) := ⟨by (with_reducible repeat (first | refine blk_drewN ?_ _ | refine blk_drew ?_ | refine blk_alloc ?_ _)); refine blk_put (cs := #[.bool t875, .slice none 0 0]) ?_ 1 _ rfl; (with_reducible repeat (first | refine blk_drewN ?_ _ | refine blk_drew ?_ | refine blk_alloc ?_ _)); refine blk_put (cs := #[.bool false, .slice none 0 0]) ?_ 0 _ rfl; (with_reducible repeat (first | refine blk_drewN ?_ _ | refine blk_drew ?_ | refine blk_alloc ?_ _)); exact BK879.out⟩
    have n4_ : Aside0 (Below w.heap.size w ((w37.setCell ⟨gb879, 0, none⟩ (.bool t875)).setCell ⟨gb879, 1, none⟩ (.slice Ao39 t876.length co39))) := ⟨ky HB⟩
    (try clear HO874); (try clear HO878); (try clear BK870); (try clear BK879); (try clear HB)
    generalize ((w37.setCell ⟨gb879, 0, none⟩ (.bool t875)).setCell ⟨gb879, 1, none⟩ (.slice Ao39 t876.length co39)) = w41 at n0_ n1_ n2_ n3_ n4_ ⊢
    have HO874 := n0_; have HO878 := n1_; have BK870 := n2_; have BK879 := n3_; have HB := n4_
    clear n0_ n1_ n2_ n3_ n4_
    replace HO874 := Aside0.mk (Kd.V_drew HO874.out)
    replace HO878 := Aside0.mk (Kd.V_drew HO878.out)
    replace BK870 := Aside0.mk (blk_drew BK870.out)
    replace BK879 := Aside0.mk (blk_drew BK879.out)
    replace HB := Aside0.mk (below_drew1 HB.out)
    refine start_ (n := 12) (S := fun w' => w'.cell? ⟨gb879, 0, none⟩ = some (.bool t875) ∧ w'.cell? ⟨gb879, 1, none⟩ = some (.slice Ao39 t876.length co39)) (ds := []) #[O, O, O, O, O, O, O, O, O, O, O, O] (by kernel_rfl) rfl rfl ⟨kc BK879 0, kc BK879 1⟩ (fun hHeld => ?_); refine with_tabW cobwebref03_near.tab2 cobwebref03_near.bits2 (fun HT_ HW_ => ?_)
    generalize w41.drew = w42 at HO874 HO878 BK870 BK879 HB hHeld ⊢
    refine take_ (i := 0) (N := some 10) (v := ?_) (a' := ?_) #[T, O, O, O, O, O, O, O, O, O, O, O] rfl rfl (take_ofW HT_.out HW_.out (by kernel_rfl)) (fun _ _ _ h => h) (Or.inl ⟨by rfl, ?_⟩) hHeld ?_ ?_; rotate_left; focus (rintro w' ⟨s0, s1⟩; go_simp; with_reducible rfl)
    rotate_left; focus (simp only [Act.put, s1, s2, s3, i64_w, i32_w]; rfl)
    refine one_ (i := 1) (N := some 11) #[T, T, O, O, O, O, O, O, O, O, O, O] rfl rfl (one_of HT_.out (by kernel_rfl)) (by decide) (fun K hK => ?_)
    refine goes_ Try.func59 (by kernel_rfl) rfl #[.int .i64 27] (by rfl) rfl rfl (by (try simp only [List.map_toArray, List.map_cons, List.map_nil]); first | done | rfl | (simp only [List.length_drop, List.length_take]; rfl)) ?_
    with_reducible refine (cobwebref01_Power.calls k 27 t880 t881 _ A5.out).mono ?_
    rintro e w43 ⟨v882, rfl, ho0, hb⟩
    refine ⟨_, rfl, ?_⟩
    have HO883 := Aside0.mk (Kd.V_lower (Kd.V_mono (ok' := fun k_ => k_ ≠ gb870 ∧ k_ ≠ gb879) ho0 (fun k_ hk_ => ⟨(Kd.freshB (g := gb870) (o := .cells #[.bool a0_0, .slice A0_1 l0_1.length c0_1] 33 (0, 0)) (kx BK870) k_ hk_), (Kd.freshB (g := gb879) (o := .cells #[.bool t875, .slice Ao39 t876.length co39] 33 (0, 0)) (kx BK879) k_ hk_)⟩)) (below_size (ky HB)))
    replace HO874 := kV HO874 hb
    replace HO878 := kV HO878 hb
    replace BK870 := kb BK870 hb
    replace BK879 := kb BK879 hb
    replace HB := kB HB hb
    (try clear hb); (try clear hb2); (try clear hk); (try clear hi); (try clear ho0)
    obtain ⟨Ao44, co44, eo44⟩ := Kd.V_slice HO883.out
    (first | subst eo44 | (injection eo44 with f1_ f2_ f3_; have f4_ := f1_.symm; have f5_ := f3_.symm; clear f1_ f2_ f3_; subst f4_; subst f5_))
    refine hK.out _ _ ⟨kc BK879 0, kc BK879 1⟩ (fun hHeld => ?_)
    clear hK K
    refine norm_ (a' := ?_) ?_ ?_; rotate_left; focus (show Act.put _ (some 11) _ = _; simp only [Act.put, s1, s2, s3, i64_w, i32_w]; rfl)
    refine one_ (i := 2) (N := some 12) #[T, T, T, O, O, O, O, O, O, O, O, O] rfl rfl (one_of HT_.out (by kernel_rfl)) (by decide) (fun K hK => ?_)
    refine goes_ Try.func77 (by kernel_rfl) rfl #[.agg #[.bool t880, .slice Ao44 t881.length co44]] (by rfl) rfl rfl (by (try simp only [List.map_toArray, List.map_cons, List.map_nil]); first | done | rfl | (simp only [List.length_drop, List.length_take]; rfl)) ?_
    with_reducible refine (cobwebref01_Neg.calls k t880 (fun k_ => (k_ ≠ gb870 ∧ k_ ≠ gb879)) _ _ t881 t884 t885 _ ?side1 A6.out).mono ?_
    (case side1 => exact HO883.out)
    rintro e w45 ⟨v886, rfl, ho0, hb⟩
    refine ⟨_, rfl, ?_⟩
    have HO887 := Aside0.mk (Kd.V_lower (Kd.V_mono (ok' := fun k_ => k_ ≠ gb870 ∧ k_ ≠ gb879) ho0 (fun k_ hk_ => ⟨Or.elim hk_ (fun hs_ => hs_.1) (fun hn_ => (Kd.freshB (g := gb870) (o := .cells #[.bool a0_0, .slice A0_1 l0_1.length c0_1] 33 (0, 0)) (kx BK870) k_ hn_)), Or.elim hk_ (fun hs_ => hs_.2) (fun hn_ => (Kd.freshB (g := gb879) (o := .cells #[.bool t875, .slice Ao39 t876.length co39] 33 (0, 0)) (kx BK879) k_ hn_))⟩)) (below_size (ky HB)))
    replace HO874 := kV HO874 hb
    replace HO878 := kV HO878 hb
    replace HO883 := kV HO883 hb
    replace BK870 := kb BK870 hb
    replace BK879 := kb BK879 hb
    replace HB := kB HB hb
    (try clear hb); (try clear hb2); (try clear hk); (try clear hi); (try clear ho0)
    obtain ⟨Ao46, co46, eo46⟩ := Kd.V_slice HO887.out
    (first | subst eo46 | (injection eo46 with f1_ f2_ f3_; have f4_ := f1_.symm; have f5_ := f3_.symm; clear f1_ f2_ f3_; subst f4_; subst f5_))
    refine hK.out _ _ ⟨kc BK879 0, kc BK879 1⟩ (fun hHeld => ?_)
    clear hK K
    refine norm_ (a' := ?_) ?_ ?_; rotate_left; focus (show Act.put _ (some 12) _ = _; simp only [Act.put, s1, s2, s3, i64_w, i32_w]; rfl)
    refine one_ (i := 3) (N := some 13) #[T, T, T, T, O, O, O, O, O, O, O, O] rfl rfl (one_of HT_.out (by kernel_rfl)) (by decide) (fun K hK => ?_)
    refine goes_ Try.func21 (by kernel_rfl) rfl #[.agg #[.bool t875, .slice Ao39 t876.length co39], .agg #[.bool t884, .slice Ao46 t885.length co46]] (by rfl) rfl rfl (by (try simp only [List.map_toArray, List.map_cons, List.map_nil]); first | done | rfl | (simp only [List.length_drop, List.length_take]; rfl)) ?_
    with_reducible refine (cobwebref01_Cmp.calls k t875 _ _ t876 t884 _ _ t885 t888 _ ?side1 ?side2 ?side3 ?side4 A7.out).mono ?_
    (case side1 => repeat (first | exact (Kd.V_reads' HO878.out).2.2 | (with_reducible refine Kd.C_alloc ?_ _) | (with_reducible refine Kd.C_drewN ?_ _) | (with_reducible refine Kd.C_drew ?_)))
    (case side2 => exact (Kd.V_reads' HO878.out).2.1)
    (case side3 => repeat (first | exact (Kd.V_reads' HO887.out).2.2 | (with_reducible refine Kd.C_alloc ?_ _) | (with_reducible refine Kd.C_drewN ?_ _) | (with_reducible refine Kd.C_drew ?_)))
    (case side4 => exact (Kd.V_reads' HO887.out).2.1)
    rintro e w47 ⟨rfl, hb⟩
    refine ⟨_, rfl, ?_⟩
    replace HO874 := kV HO874 hb
    replace HO878 := kV HO878 hb
    replace HO883 := kV HO883 hb
    replace HO887 := kV HO887 hb
    replace BK870 := kb BK870 hb
    replace BK879 := kb BK879 hb
    replace HB := kB HB hb
    (try clear hb); (try clear hb2); (try clear hk); (try clear hi)
    refine hK.out _ _ ⟨kc BK879 0, kc BK879 1⟩ (fun hHeld => ?_)
    clear hK K
    refine norm_ (a' := ?_) ?_ ?_; rotate_left; focus (show Act.put _ (some 13) _ = _; simp only [Act.put, s1, s2, s3, i64_w, i32_w]; rfl)
    refine pure_ (i := 4) (N := some 14) (v := ?_) (a' := ?_) #[T, T, T, T, T, O, O, O, O, O, O, O] rfl rfl (any_of HT_.out (by kernel_rfl)) (fun _ _ _ h => h) (Or.inl ⟨by rfl, ?_⟩) ?_ ?_; rotate_left; focus (intro w'; go_simp; with_reducible rfl)
    rotate_left; focus (simp only [Act.put, s1, s2, s3, i64_w, i32_w]; rfl)
    refine pure_ (i := 5) (N := some 15) (v := ?_) (a' := ?_) #[T, T, T, T, T, T, O, O, O, O, O, O] rfl rfl (any_of HT_.out (by kernel_rfl)) (fun _ _ _ h => h) (Or.inl ⟨by rfl, ?_⟩) ?_ ?_; rotate_left; focus (intro w'; go_simp; with_reducible rfl)
    rotate_left; focus (simp only [Act.put, s1, s2, s3, i64_w, i32_w]; rfl)
    refine pure_ (i := 6) (N := some 16) (v := undef) (a' := ?_) #[T, T, T, T, T, T, T, O, O, O, O, O] rfl rfl (any_of HT_.out (by kernel_rfl)) (fun _ _ _ h => h) (Or.inr ⟨by rfl, rfl⟩) ?_ ?_; rotate_left; focus (simp only [Act.put, s1, s2, s3, i64_w, i32_w]; rfl)
    refine pure_ (i := 7) (N := some 17) (v := undef) (a' := ?_) #[T, T, T, T, T, T, T, T, O, O, O, O] rfl rfl (any_of HT_.out (by kernel_rfl)) (fun _ _ _ h => h) (Or.inr ⟨by rfl, rfl⟩) ?_ ?_; rotate_left; focus (simp only [Act.put, s1, s2, s3, i64_w, i32_w]; rfl)
    refine pure_ (i := 8) (N := some 18) (v := undef) (a' := ?_) #[T, T, T, T, T, T, T, T, T, O, O, O] rfl rfl (any_of HT_.out (by kernel_rfl)) (fun _ _ _ h => h) (Or.inr ⟨by rfl, rfl⟩) ?_ ?_; rotate_left; focus (simp only [Act.put, s1, s2, s3, i64_w, i32_w]; rfl)
    refine pure_ (i := 9) (N := some 19) (v := undef) (a' := ?_) #[T, T, T, T, T, T, T, T, T, T, O, O] rfl rfl (any_of HT_.out (by kernel_rfl)) (fun _ _ _ h => h) (Or.inr ⟨by rfl, rfl⟩) ?_ ?_; rotate_left; focus (simp only [Act.put, s1, s2, s3, i64_w, i32_w]; rfl)
    refine pure_ (i := 10) (N := some 20) (v := ?_) (a' := ?_) #[T, T, T, T, T, T, T, T, T, T, T, O] rfl rfl (any_of HT_.out (by kernel_rfl)) (fun _ _ _ h => h) (Or.inl ⟨by rfl, ?_⟩) ?_ ?_; rotate_left; focus (intro w'; go_simp; with_reducible rfl)
    rotate_left; focus (simp only [Act.put, s1, s2, s3, i64_w, i32_w]; rfl)
    refine pure_ (i := 11) (N := some 4) (v := ?_) (a' := ?_) #[T, T, T, T, T, T, T, T, T, T, T, T] rfl rfl (any_of HT_.out (by kernel_rfl)) (fun _ _ _ h => h) (Or.inl ⟨by rfl, ?_⟩) ?_ ?_; rotate_left; focus (intro w'; go_simp; with_reducible rfl)
    rotate_left; focus (simp only [Act.put, s1, s2, s3, i64_w, i32_w]; rfl)
    refine done_ (done_of HT_.out (by kernel_rfl)) ?_
    try go_wp2
    go_ret
    exact ⟨by first | rfl | (simp [errW_none, errW_some] <;> rfl) | (simp [*, errW_none, errW_some] <;> rfl), ky HB⟩

  rw [if_pos c8] at H
  have c8b0 : decide (0 ≤ t888) = true := decide_eq_true c8
  clear c8
  replace H := Option.bind_eq_some_iff.mp H
  obtain ⟨⟨t889, t890⟩, A90, H⟩ := H
  replace H : ((cobwebref01_Cmp.f k t875 t876 t889 t890).bind fun t893 => (some (decide (t893 ≤ 0)))) = some r := H
  have A9 := Aside0.mk A90
  clear A90
  replace H := Option.bind_eq_some_iff.mp H
  obtain ⟨t893, A100, H⟩ := H
  replace H : (some (decide (t893 ≤ 0))) = some r := H
  have A10 := Aside0.mk A100
  clear A100
  obtain rfl := Option.some.inj H
  go_enter Try.func69, Try.ntmps69
  try go_wp2_with (first | ((with_reducible refine gate_dst (N := 2) rfl ?_); refine box_event ?hg (N := 2) ?hd (cs := #[.bool a0_0, .slice A0_1 l0_1.length c0_1]) (t := 33) ?hr ?_; (case hd => rfl); (case hg => rfl); (case hr => first | (go_simp; done) | (go_simp; rfl)); intro gb870 hg w11 hbox hb; have BK870 := Aside0.mk (hbox); have GW870 := kS HB hg; have GE870 := kS HB hg; replace HB := kB HB hb; clear hb hbox hg))
  replace BK870 := Aside0.mk (blk_drew BK870.out)
  replace HB := Aside0.mk (below_drew1 HB.out)
  refine start_ (n := 6) (S := fun w' => w'.cell? ⟨gb870, 0, none⟩ = some (.bool a0_0) ∧ w'.cell? ⟨gb870, 1, none⟩ = some (.slice A0_1 l0_1.length c0_1)) (ds := []) #[O, O, O, O, O, O] (by kernel_rfl) rfl rfl ⟨kc BK870 0, kc BK870 1⟩ (fun hHeld => ?_)
  generalize w11.drew = w12 at BK870 HB hHeld ⊢
  refine pure_ (i := 1) (N := some 7) (v := ?_) (a' := ?_) #[O, T, O, O, O, O] rfl rfl (by kernel_rfl) (fun _ _ _ h => h) (Or.inl ⟨by rfl, ?_⟩) ?_ ?_; rotate_left; focus (intro w'; go_simp; with_reducible rfl)
  rotate_left; focus (simp only [Act.put, s1, s2, s3, i64_w, i32_w]; rfl)
  refine take_ (i := 0) (N := some 6) (v := ?_) (a' := ?_) #[T, T, O, O, O, O] rfl rfl (by kernel_rfl) (fun _ _ _ h => h) (Or.inl ⟨by rfl, ?_⟩) hHeld ?_ ?_; rotate_left; focus (rintro w' ⟨s0, s1⟩; go_simp; with_reducible rfl)
  rotate_left; focus (simp only [Act.put, s1, s2, s3, i64_w, i32_w]; rfl)
  refine join_ (σ := Value × Value × Nat) 1 #[T, T, T, T, T, O] (fun s_ => [(8, .agg #[.bool t871, s_.1]), (9, .agg #[.bool t875, s_.2.1]), (5, .pointer (some ⟨s_.2.2, 0, none⟩))]) (fun s_ w' => (w'.cell? ⟨gb870, 0, none⟩ = some (.bool a0_0) ∧ w'.cell? ⟨gb870, 1, none⟩ = some (.slice A0_1 l0_1.length c0_1)) ∧ (Kd.V (Kd.int .i64) 3 w' w.heap.size (fun k_ => k_ ≠ gb870 ∧ k_ ≠ s_.2.2) s_.1 t872) ∧ (Kd.V (Kd.int .i64) 3 w' w.heap.size (fun k_ => k_ ≠ gb870 ∧ k_ ≠ s_.2.2) s_.2.1 t876) ∧ (w'.heap[gb870]? = some (.cells #[.bool a0_0, .slice A0_1 l0_1.length c0_1] 33 (0, 0))) ∧ (w'.heap[s_.2.2]? = some (.cells #[.bool false, .slice none 0 0] 33 (0, 0))) ∧ (w.heap.size ≤ s_.2.2) ∧ (w.heap.size ≤ s_.2.2) ∧ (gb870 ≠ s_.2.2) ∧ (s_.2.2 ≠ gb870) ∧ (Below w.heap.size w w')) ?_ ?_
  rotate_left
  · intro hCont
    refine two_ (i := 2) (j := 4) (Ni := some 8) (Nj := some 5) #[T, T, T, O, O, O] #[T, T, O, O, T, O] rfl rfl rfl rfl (by kernel_rfl) (by decide) (by decide) (fun K hK => ?_) (fun K hK => ?_)
    · skip
      refine goes_ Try.func59 (by kernel_rfl) rfl #[.int .i64 a1] (by rfl) rfl rfl (by (try simp only [List.map_toArray, List.map_cons, List.map_nil]); first | done | rfl | (simp only [List.length_drop, List.length_take]; rfl)) ?_
      with_reducible refine (cobwebref01_Power.calls k a1 t871 t872 _ A3.out).mono ?_
      rintro e w13 ⟨v873, rfl, ho0, hb⟩
      refine ⟨_, rfl, ?_⟩
      have HO874 := Aside0.mk (Kd.V_lower (Kd.V_mono (ok' := fun k_ => k_ ≠ gb870) ho0 (fun k_ hk_ => (Kd.freshB (g := gb870) (o := .cells #[.bool a0_0, .slice A0_1 l0_1.length c0_1] 33 (0, 0)) (kx BK870) k_ hk_))) (below_size (ky HB)))
      replace BK870 := kb BK870 hb
      replace HB := kB HB hb
      (try clear hb); (try clear hb2); (try clear hk); (try clear hi); (try clear ho0)
      obtain ⟨Ao14, co14, eo14⟩ := Kd.V_slice HO874.out
      (first | subst eo14 | (injection eo14 with f1_ f2_ f3_; have f4_ := f1_.symm; have f5_ := f3_.symm; clear f1_ f2_ f3_; subst f4_; subst f5_))
      refine hK.out _ _ ⟨kc BK870 0, kc BK870 1⟩ (fun hHeld => ?_)
      clear hK K
      refine norm_ (a' := ?_) ?_ ?_; rotate_left; focus (show Act.put _ (some 8) _ = _; simp only [Act.put, s1, s2, s3, i64_w, i32_w]; rfl)
      refine two_ (i := 3) (j := 4) (Ni := some 9) (Nj := some 5) #[T, T, T, T, O, O] #[T, T, T, O, T, O] rfl rfl rfl rfl (by kernel_rfl) (by decide) (by decide) (fun K hK => ?_) (fun K hK => ?_)
      · skip
        refine goes_ Try.func51 (by kernel_rfl) rfl #[.agg #[.bool a0_0, .slice A0_1 l0_1.length c0_1], .agg #[.bool t871, .slice Ao14 t872.length co14]] (by rfl) rfl rfl (by (try simp only [List.map_toArray, List.map_cons, List.map_nil]); first | done | rfl | (simp only [List.length_drop, List.length_take]; rfl)) ?_
        with_reducible refine (cobwebref01_Mul.calls k a0_0 _ _ l0_1 t871 _ _ t872 t875 t876 _ ?side1 ?side2 ?side3 ?side4 A4.out).mono ?_
        (case side1 => repeat (first | exact (Kd.C_below HR0_1.out HB.out) | (with_reducible refine Kd.C_alloc ?_ _) | (with_reducible refine Kd.C_drewN ?_ _) | (with_reducible refine Kd.C_drew ?_)))
        (case side2 => exact HC0_1.out)
        (case side3 => repeat (first | exact (Kd.V_reads' HO874.out).2.2 | (with_reducible refine Kd.C_alloc ?_ _) | (with_reducible refine Kd.C_drewN ?_ _) | (with_reducible refine Kd.C_drew ?_)))
        (case side4 => exact (Kd.V_reads' HO874.out).2.1)
        rintro e w15 ⟨v877, rfl, ho0, hb⟩
        refine ⟨_, rfl, ?_⟩
        have HO878 := Aside0.mk (Kd.V_lower (Kd.V_mono (ok' := fun k_ => k_ ≠ gb870) ho0 (fun k_ hk_ => (Kd.freshB (g := gb870) (o := .cells #[.bool a0_0, .slice A0_1 l0_1.length c0_1] 33 (0, 0)) (kx BK870) k_ hk_))) (below_size (ky HB)))
        replace HO874 := kV HO874 hb
        replace BK870 := kb BK870 hb
        replace HB := kB HB hb
        (try clear hb); (try clear hb2); (try clear hk); (try clear hi); (try clear ho0)
        refine hK.out _ _ ⟨kc BK870 0, kc BK870 1⟩ (fun hHeld => ?_)
        clear hK K
        refine norm_ (a' := ?_) ?_ ?_; rotate_left; focus (show Act.put _ (some 9) _ = _; simp only [Act.put, s1, s2, s3, i64_w, i32_w]; rfl)
        refine one_ (i := 4) (N := some 5) #[T, T, T, T, T, O] rfl rfl (by kernel_rfl) (by decide) (fun K hK => ?_)
        refine box_step ?hg (N := 5) ?hd (cs := #[.bool false, .slice none 0 0]) (t := 33) ?hr ?_; (case hd => rfl); (case hg => rfl); (case hr => first | (go_simp; done) | (go_simp; rfl))
        intro gb879 hg w16 hbox hb
        have n0_ := Aside0.mk (Kd.V_below (Kd.V_elderB (kv HO874) gb879 (Nat.le_of_eq hg.symm)) hb)
        have n1_ := Aside0.mk (Kd.V_below (Kd.V_elderB (kv HO878) gb879 (Nat.le_of_eq hg.symm)) hb)
        have n2_ := kb BK870 hb
        have n3_ := kB HB hb
        have n4_ := Aside0.mk (hbox)
        have n5_ := kS HB hg
        have n6_ := kS HB hg
        have n7_ := kN BK870 hg
        have n8_ := kM BK870 hg
        clear HO874; clear HO878; clear BK870; clear HB; have HO874 := n0_; have HO878 := n1_; have BK870 := n2_; have HB := n3_; have BK879 := n4_; have GW879 := n5_; have GE879 := n6_; have NB870_879 := n7_; have NB879_870 := n8_
        clear n0_ n1_ n2_ n3_ n4_ n5_ n6_ n7_ n8_
        clear hb hbox hg
        refine hK.out _ _ ⟨kc BK870 0, kc BK870 1⟩ (fun hHeld => ?_)
        clear hK K
        refine norm_ (a' := ?_) ?_ ?_; rotate_left; focus (show Act.put _ (some 5) _ = _; simp only [Act.put, s1, s2, s3, i64_w, i32_w]; rfl)
        exact norm_ (by simp only [putAll, Act.put, s1, s2, s3]) (hCont (.slice Ao14 t872.length co14, v877, gb879) _ ⟨hHeld, (kv HO874), (kv HO878), (kx BK870), (kx BK879), GW879.out, GE879.out, NB870_879.out, NB879_870.out, (ky HB)⟩)
      · skip
        refine box_step ?hg (N := 5) ?hd (cs := #[.bool false, .slice none 0 0]) (t := 33) ?hr ?_; (case hd => rfl); (case hg => rfl); (case hr => first | (go_simp; done) | (go_simp; rfl))
        intro gb879 hg w14 hbox hb
        have n0_ := Aside0.mk (Kd.V_below (Kd.V_elderB (kv HO874) gb879 (Nat.le_of_eq hg.symm)) hb)
        have n1_ := kb BK870 hb
        have n2_ := kB HB hb
        have n3_ := Aside0.mk (hbox)
        have n4_ := kS HB hg
        have n5_ := kS HB hg
        have n6_ := kN BK870 hg
        have n7_ := kM BK870 hg
        clear HO874; clear BK870; clear HB; have HO874 := n0_; have BK870 := n1_; have HB := n2_; have BK879 := n3_; have GW879 := n4_; have GE879 := n5_; have NB870_879 := n6_; have NB879_870 := n7_
        clear n0_ n1_ n2_ n3_ n4_ n5_ n6_ n7_
        clear hb hbox hg
        obtain ⟨Ao15, co15, eo15⟩ := Kd.V_slice HO874.out
        (first | subst eo15 | (injection eo15 with f1_ f2_ f3_; have f4_ := f1_.symm; have f5_ := f3_.symm; clear f1_ f2_ f3_; subst f4_; subst f5_))
        refine hK.out _ _ ⟨kc BK870 0, kc BK870 1⟩ (fun hHeld => ?_)
        clear hK K
        refine norm_ (a' := ?_) ?_ ?_; rotate_left; focus (show Act.put _ (some 5) _ = _; simp only [Act.put, s1, s2, s3, i64_w, i32_w]; rfl)
        refine one_ (i := 3) (N := some 9) #[T, T, T, T, T, O] rfl rfl (by kernel_rfl) (by decide) (fun K hK => ?_)
        refine goes_ Try.func51 (by kernel_rfl) rfl #[.agg #[.bool a0_0, .slice A0_1 l0_1.length c0_1], .agg #[.bool t871, .slice Ao15 t872.length co15]] (by rfl) rfl rfl (by (try simp only [List.map_toArray, List.map_cons, List.map_nil]); first | done | rfl | (simp only [List.length_drop, List.length_take]; rfl)) ?_
        with_reducible refine (cobwebref01_Mul.calls k a0_0 _ _ l0_1 t871 _ _ t872 t875 t876 _ ?side1 ?side2 ?side3 ?side4 A4.out).mono ?_
        (case side1 => repeat (first | exact (Kd.C_below HR0_1.out HB.out) | (with_reducible refine Kd.C_alloc ?_ _) | (with_reducible refine Kd.C_drewN ?_ _) | (with_reducible refine Kd.C_drew ?_)))
        (case side2 => exact HC0_1.out)
        (case side3 => repeat (first | exact (Kd.V_reads' HO874.out).2.2 | (with_reducible refine Kd.C_alloc ?_ _) | (with_reducible refine Kd.C_drewN ?_ _) | (with_reducible refine Kd.C_drew ?_)))
        (case side4 => exact (Kd.V_reads' HO874.out).2.1)
        rintro e w16 ⟨v877, rfl, ho0, hb⟩
        refine ⟨_, rfl, ?_⟩
        have HO878 := Aside0.mk (Kd.V_lower (Kd.V_mono (ok' := fun k_ => k_ ≠ gb870 ∧ k_ ≠ gb879) ho0 (fun k_ hk_ => ⟨(Kd.freshB (g := gb870) (o := .cells #[.bool a0_0, .slice A0_1 l0_1.length c0_1] 33 (0, 0)) (kx BK870) k_ hk_), (Kd.freshB (g := gb879) (o := .cells #[.bool false, .slice none 0 0] 33 (0, 0)) (kx BK879) k_ hk_)⟩)) (below_size (ky HB)))
        replace HO874 := kV HO874 hb
        replace BK870 := kb BK870 hb
        replace BK879 := kb BK879 hb
        replace HB := kB HB hb
        (try clear hb); (try clear hb2); (try clear hk); (try clear hi); (try clear ho0)
        refine hK.out _ _ ⟨kc BK870 0, kc BK870 1⟩ (fun hHeld => ?_)
        clear hK K
        refine norm_ (a' := ?_) ?_ ?_; rotate_left; focus (show Act.put _ (some 9) _ = _; simp only [Act.put, s1, s2, s3, i64_w, i32_w]; rfl)
        exact norm_ (by simp only [putAll, Act.put, s1, s2, s3]) (hCont (.slice Ao15 t872.length co15, v877, gb879) _ ⟨hHeld, (kv HO874), (kv HO878), (kx BK870), (kx BK879), GW879.out, GE879.out, NB870_879.out, NB879_870.out, (ky HB)⟩)
    · skip
      refine box_step ?hg (N := 5) ?hd (cs := #[.bool false, .slice none 0 0]) (t := 33) ?hr ?_; (case hd => rfl); (case hg => rfl); (case hr => first | (go_simp; done) | (go_simp; rfl))
      intro gb879 hg w13 hbox hb
      have BK879 := Aside0.mk (hbox)
      have GW879 := kS HB hg
      have GE879 := kS HB hg
      have NB870_879 := kN BK870 hg
      have NB879_870 := kM BK870 hg
      replace BK870 := kb BK870 hb
      replace HB := kB HB hb
      clear hb hbox hg
      refine hK.out _ _ ⟨kc BK870 0, kc BK870 1⟩ (fun hHeld => ?_)
      clear hK K
      refine norm_ (a' := ?_) ?_ ?_; rotate_left; focus (show Act.put _ (some 5) _ = _; simp only [Act.put, s1, s2, s3, i64_w, i32_w]; rfl)
      refine one_ (i := 2) (N := some 8) #[T, T, T, O, T, O] rfl rfl (by kernel_rfl) (by decide) (fun K hK => ?_)
      refine goes_ Try.func59 (by kernel_rfl) rfl #[.int .i64 a1] (by rfl) rfl rfl (by (try simp only [List.map_toArray, List.map_cons, List.map_nil]); first | done | rfl | (simp only [List.length_drop, List.length_take]; rfl)) ?_
      with_reducible refine (cobwebref01_Power.calls k a1 t871 t872 _ A3.out).mono ?_
      rintro e w14 ⟨v873, rfl, ho0, hb⟩
      refine ⟨_, rfl, ?_⟩
      have HO874 := Aside0.mk (Kd.V_lower (Kd.V_mono (ok' := fun k_ => k_ ≠ gb870 ∧ k_ ≠ gb879) ho0 (fun k_ hk_ => ⟨(Kd.freshB (g := gb870) (o := .cells #[.bool a0_0, .slice A0_1 l0_1.length c0_1] 33 (0, 0)) (kx BK870) k_ hk_), (Kd.freshB (g := gb879) (o := .cells #[.bool false, .slice none 0 0] 33 (0, 0)) (kx BK879) k_ hk_)⟩)) (below_size (ky HB)))
      replace BK870 := kb BK870 hb
      replace BK879 := kb BK879 hb
      replace HB := kB HB hb
      (try clear hb); (try clear hb2); (try clear hk); (try clear hi); (try clear ho0)
      obtain ⟨Ao15, co15, eo15⟩ := Kd.V_slice HO874.out
      (first | subst eo15 | (injection eo15 with f1_ f2_ f3_; have f4_ := f1_.symm; have f5_ := f3_.symm; clear f1_ f2_ f3_; subst f4_; subst f5_))
      refine hK.out _ _ ⟨kc BK870 0, kc BK870 1⟩ (fun hHeld => ?_)
      clear hK K
      refine norm_ (a' := ?_) ?_ ?_; rotate_left; focus (show Act.put _ (some 8) _ = _; simp only [Act.put, s1, s2, s3, i64_w, i32_w]; rfl)
      refine one_ (i := 3) (N := some 9) #[T, T, T, T, T, O] rfl rfl (by kernel_rfl) (by decide) (fun K hK => ?_)
      refine goes_ Try.func51 (by kernel_rfl) rfl #[.agg #[.bool a0_0, .slice A0_1 l0_1.length c0_1], .agg #[.bool t871, .slice Ao15 t872.length co15]] (by rfl) rfl rfl (by (try simp only [List.map_toArray, List.map_cons, List.map_nil]); first | done | rfl | (simp only [List.length_drop, List.length_take]; rfl)) ?_
      with_reducible refine (cobwebref01_Mul.calls k a0_0 _ _ l0_1 t871 _ _ t872 t875 t876 _ ?side1 ?side2 ?side3 ?side4 A4.out).mono ?_
      (case side1 => repeat (first | exact (Kd.C_below HR0_1.out HB.out) | (with_reducible refine Kd.C_alloc ?_ _) | (with_reducible refine Kd.C_drewN ?_ _) | (with_reducible refine Kd.C_drew ?_)))
      (case side2 => exact HC0_1.out)
      (case side3 => repeat (first | exact (Kd.V_reads' HO874.out).2.2 | (with_reducible refine Kd.C_alloc ?_ _) | (with_reducible refine Kd.C_drewN ?_ _) | (with_reducible refine Kd.C_drew ?_)))
      (case side4 => exact (Kd.V_reads' HO874.out).2.1)
      rintro e w16 ⟨v877, rfl, ho0, hb⟩
      refine ⟨_, rfl, ?_⟩
      have HO878 := Aside0.mk (Kd.V_lower (Kd.V_mono (ok' := fun k_ => k_ ≠ gb870 ∧ k_ ≠ gb879) ho0 (fun k_ hk_ => ⟨(Kd.freshB (g := gb870) (o := .cells #[.bool a0_0, .slice A0_1 l0_1.length c0_1] 33 (0, 0)) (kx BK870) k_ hk_), (Kd.freshB (g := gb879) (o := .cells #[.bool false, .slice none 0 0] 33 (0, 0)) (kx BK879) k_ hk_)⟩)) (below_size (ky HB)))
      replace HO874 := kV HO874 hb
      replace BK870 := kb BK870 hb
      replace BK879 := kb BK879 hb
      replace HB := kB HB hb
      (try clear hb); (try clear hb2); (try clear hk); (try clear hi); (try clear ho0)
      refine hK.out _ _ ⟨kc BK870 0, kc BK870 1⟩ (fun hHeld => ?_)
      clear hK K
      refine norm_ (a' := ?_) ?_ ?_; rotate_left; focus (show Act.put _ (some 9) _ = _; simp only [Act.put, s1, s2, s3, i64_w, i32_w]; rfl)
      exact norm_ (by simp only [putAll, Act.put, s1, s2, s3]) (hCont (.slice Ao15 t872.length co15, v877, gb879) _ ⟨hHeld, (kv HO874), (kv HO878), (kx BK870), (kx BK879), GW879.out, GE879.out, NB870_879.out, NB879_870.out, (ky HB)⟩)
  rintro ⟨v873, v877, gb879⟩ w17 ⟨hS_, h0_, h1_, h2_, h3_, h4_, h5_, h6_, h7_, h8_⟩
  clear BK870 HB
  have HO874 := A0 h0_; have HO878 := A0 h1_; have BK870 := A0 h2_; have BK879 := A0 h3_; have GW879 := A0 h4_; have GE879 := A0 h5_; have NB870_879 := A0 h6_; have NB879_870 := A0 h7_; have HB := A0 h8_
  clear h0_ h1_ h2_ h3_ h4_ h5_ h6_ h7_ h8_
  have hHeld := hS_
  obtain ⟨Ao19, co19, eo19⟩ := Kd.V_slice HO878.out
  (first | subst eo19 | (injection eo19 with f1_ f2_ f3_; have f4_ := f1_.symm; have f5_ := f3_.symm; clear f1_ f2_ f3_; subst f4_; subst f5_))
  refine norm_ (a' := ?_) ?_ ?_; rotate_left; focus (simp only [putAll, Act.put, s1, s2, s3]; rfl)
  refine one_ (i := 5) (N := none) #[T, T, T, T, T, T] rfl rfl (by kernel_rfl) (by decide) (fun K hK => ?_)
  have hs18 : w17.cell? ⟨gb879, 0, none⟩ = some (.bool false) := kc BK879 0
  have hfs18 := blk_frozen BK879.out 0
  have hns18_0 := NB870_879.out; have hms18_0 := NB879_870.out
  have hs20 : w17.cell? ⟨gb879, 1, none⟩ = some (.slice none 0 0) := kc BK879 1
  have hfs20 := blk_frozen BK879.out 1
  have hns20_0 := NB870_879.out; have hms20_0 := NB879_870.out
  refine skip_ (w1 := ?_) (by rfl) rfl ?_ ?_
  rotate_left
  · go_simp
    rfl
  refine hK.out _ _ ⟨((cell_far (p := ⟨gb879, _, none⟩) NB870_879.out _).trans (((cell_far (p := ⟨gb879, _, none⟩) NB870_879.out _).trans (hHeld.1)))), ((cell_far (p := ⟨gb879, _, none⟩) NB870_879.out _).trans (((cell_far (p := ⟨gb879, _, none⟩) NB870_879.out _).trans (hHeld.2))))⟩ (fun hHeld => ?_)
  clear hK K
  refine done_ (by kernel_rfl) ?_
  try go_wp2
  have n0_ : Aside0 (Kd.V (Kd.int .i64) 3 ((w17.setCell ⟨gb879, 0, none⟩ (.bool t875)).setCell ⟨gb879, 1, none⟩ (.slice Ao19 t876.length co19)) w.heap.size (fun k_ => k_ ≠ gb870 ∧ k_ ≠ gb879) v873 t872) := ⟨by (with_reducible repeat (first | apply Kd.V_alloc | apply Kd.V_drewN | apply Kd.V_drew)); exact Kd.V_mono (Kd.V_far (p := ⟨gb879, 1, none⟩) (Kd.V_far (p := ⟨gb879, 0, none⟩) (Kd.V_mono HO874.out (fun k_ hk => (⟨hk, hk.2⟩ : _ ∧ k_ ≠ gb879))) (fun _ hk => hk.2) (.bool t875)) (fun _ hk => hk.2) (.slice Ao19 t876.length co19)) (fun _ hk => ⟨hk.1.1, hk.1.2⟩)⟩
  have n1_ : Aside0 (Kd.V (Kd.int .i64) 3 ((w17.setCell ⟨gb879, 0, none⟩ (.bool t875)).setCell ⟨gb879, 1, none⟩ (.slice Ao19 t876.length co19)) w.heap.size (fun k_ => k_ ≠ gb870 ∧ k_ ≠ gb879) (.slice Ao19 t876.length co19) t876) := ⟨by (with_reducible repeat (first | apply Kd.V_alloc | apply Kd.V_drewN | apply Kd.V_drew)); exact Kd.V_mono (Kd.V_far (p := ⟨gb879, 1, none⟩) (Kd.V_far (p := ⟨gb879, 0, none⟩) (Kd.V_mono HO878.out (fun k_ hk => (⟨hk, hk.2⟩ : _ ∧ k_ ≠ gb879))) (fun _ hk => hk.2) (.bool t875)) (fun _ hk => hk.2) (.slice Ao19 t876.length co19)) (fun _ hk => ⟨hk.1.1, hk.1.2⟩)⟩
  have n2_ : Aside0 (((w17.setCell ⟨gb879, 0, none⟩ (.bool t875)).setCell ⟨gb879, 1, none⟩ (.slice Ao19 t876.length co19)).heap[gb870]? = some (.cells #[.bool a0_0, .slice A0_1 l0_1.length c0_1] 33 (0, 0))) := ⟨kx BK870⟩
  have n3_ : Aside0 (((w17.setCell ⟨gb879, 0, none⟩ (.bool t875)).setCell ⟨gb879, 1, none⟩ (.slice Ao19 t876.length co19)).heap[gb879]? = some (.cells #[.bool t875, .slice Ao19 t876.length co19] 33 (0, 0))) := ⟨by (with_reducible repeat (first | refine blk_drewN ?_ _ | refine blk_drew ?_ | refine blk_alloc ?_ _)); refine blk_put (cs := #[.bool t875, .slice none 0 0]) ?_ 1 _ rfl; (with_reducible repeat (first | refine blk_drewN ?_ _ | refine blk_drew ?_ | refine blk_alloc ?_ _)); refine blk_put (cs := #[.bool false, .slice none 0 0]) ?_ 0 _ rfl; (with_reducible repeat (first | refine blk_drewN ?_ _ | refine blk_drew ?_ | refine blk_alloc ?_ _)); exact BK879.out⟩
  have n4_ : Aside0 (Below w.heap.size w ((w17.setCell ⟨gb879, 0, none⟩ (.bool t875)).setCell ⟨gb879, 1, none⟩ (.slice Ao19 t876.length co19))) := ⟨ky HB⟩
  (try clear HO874); (try clear HO878); (try clear BK870); (try clear BK879); (try clear HB)
  generalize ((w17.setCell ⟨gb879, 0, none⟩ (.bool t875)).setCell ⟨gb879, 1, none⟩ (.slice Ao19 t876.length co19)) = w21 at n0_ n1_ n2_ n3_ n4_ ⊢
  have HO874 := n0_; have HO878 := n1_; have BK870 := n2_; have BK879 := n3_; have HB := n4_
  clear n0_ n1_ n2_ n3_ n4_
  replace HO874 := Aside0.mk (Kd.V_drew HO874.out)
  replace HO878 := Aside0.mk (Kd.V_drew HO878.out)
  replace BK870 := Aside0.mk (blk_drew BK870.out)
  replace BK879 := Aside0.mk (blk_drew BK879.out)
  replace HB := Aside0.mk (below_drew1 HB.out)
  refine start_ (n := 12) (S := fun w' => w'.cell? ⟨gb879, 0, none⟩ = some (.bool t875) ∧ w'.cell? ⟨gb879, 1, none⟩ = some (.slice Ao19 t876.length co19)) (ds := []) #[O, O, O, O, O, O, O, O, O, O, O, O] (by kernel_rfl) rfl rfl ⟨kc BK879 0, kc BK879 1⟩ (fun hHeld => ?_); refine with_tabW cobwebref03_near.tab2 cobwebref03_near.bits2 (fun HT_ HW_ => ?_)
  generalize w21.drew = w22 at HO874 HO878 BK870 BK879 HB hHeld ⊢
  refine take_ (i := 0) (N := some 10) (v := ?_) (a' := ?_) #[T, O, O, O, O, O, O, O, O, O, O, O] rfl rfl (take_ofW HT_.out HW_.out (by kernel_rfl)) (fun _ _ _ h => h) (Or.inl ⟨by rfl, ?_⟩) hHeld ?_ ?_; rotate_left; focus (rintro w' ⟨s0, s1⟩; go_simp; with_reducible rfl)
  rotate_left; focus (simp only [Act.put, s1, s2, s3, i64_w, i32_w]; rfl)
  refine one_ (i := 1) (N := some 11) #[T, T, O, O, O, O, O, O, O, O, O, O] rfl rfl (one_of HT_.out (by kernel_rfl)) (by decide) (fun K hK => ?_)
  refine goes_ Try.func59 (by kernel_rfl) rfl #[.int .i64 27] (by rfl) rfl rfl (by (try simp only [List.map_toArray, List.map_cons, List.map_nil]); first | done | rfl | (simp only [List.length_drop, List.length_take]; rfl)) ?_
  with_reducible refine (cobwebref01_Power.calls k 27 t880 t881 _ A5.out).mono ?_
  rintro e w23 ⟨v882, rfl, ho0, hb⟩
  refine ⟨_, rfl, ?_⟩
  have HO883 := Aside0.mk (Kd.V_lower (Kd.V_mono (ok' := fun k_ => k_ ≠ gb870 ∧ k_ ≠ gb879) ho0 (fun k_ hk_ => ⟨(Kd.freshB (g := gb870) (o := .cells #[.bool a0_0, .slice A0_1 l0_1.length c0_1] 33 (0, 0)) (kx BK870) k_ hk_), (Kd.freshB (g := gb879) (o := .cells #[.bool t875, .slice Ao19 t876.length co19] 33 (0, 0)) (kx BK879) k_ hk_)⟩)) (below_size (ky HB)))
  replace HO874 := kV HO874 hb
  replace HO878 := kV HO878 hb
  replace BK870 := kb BK870 hb
  replace BK879 := kb BK879 hb
  replace HB := kB HB hb
  (try clear hb); (try clear hb2); (try clear hk); (try clear hi); (try clear ho0)
  obtain ⟨Ao24, co24, eo24⟩ := Kd.V_slice HO883.out
  (first | subst eo24 | (injection eo24 with f1_ f2_ f3_; have f4_ := f1_.symm; have f5_ := f3_.symm; clear f1_ f2_ f3_; subst f4_; subst f5_))
  refine hK.out _ _ ⟨kc BK879 0, kc BK879 1⟩ (fun hHeld => ?_)
  clear hK K
  refine norm_ (a' := ?_) ?_ ?_; rotate_left; focus (show Act.put _ (some 11) _ = _; simp only [Act.put, s1, s2, s3, i64_w, i32_w]; rfl)
  refine one_ (i := 2) (N := some 12) #[T, T, T, O, O, O, O, O, O, O, O, O] rfl rfl (one_of HT_.out (by kernel_rfl)) (by decide) (fun K hK => ?_)
  refine goes_ Try.func77 (by kernel_rfl) rfl #[.agg #[.bool t880, .slice Ao24 t881.length co24]] (by rfl) rfl rfl (by (try simp only [List.map_toArray, List.map_cons, List.map_nil]); first | done | rfl | (simp only [List.length_drop, List.length_take]; rfl)) ?_
  with_reducible refine (cobwebref01_Neg.calls k t880 (fun k_ => (k_ ≠ gb870 ∧ k_ ≠ gb879)) _ _ t881 t884 t885 _ ?side1 A6.out).mono ?_
  (case side1 => exact HO883.out)
  rintro e w25 ⟨v886, rfl, ho0, hb⟩
  refine ⟨_, rfl, ?_⟩
  have HO887 := Aside0.mk (Kd.V_lower (Kd.V_mono (ok' := fun k_ => k_ ≠ gb870 ∧ k_ ≠ gb879) ho0 (fun k_ hk_ => ⟨Or.elim hk_ (fun hs_ => hs_.1) (fun hn_ => (Kd.freshB (g := gb870) (o := .cells #[.bool a0_0, .slice A0_1 l0_1.length c0_1] 33 (0, 0)) (kx BK870) k_ hn_)), Or.elim hk_ (fun hs_ => hs_.2) (fun hn_ => (Kd.freshB (g := gb879) (o := .cells #[.bool t875, .slice Ao19 t876.length co19] 33 (0, 0)) (kx BK879) k_ hn_))⟩)) (below_size (ky HB)))
  replace HO874 := kV HO874 hb
  replace HO878 := kV HO878 hb
  replace HO883 := kV HO883 hb
  replace BK870 := kb BK870 hb
  replace BK879 := kb BK879 hb
  replace HB := kB HB hb
  (try clear hb); (try clear hb2); (try clear hk); (try clear hi); (try clear ho0)
  obtain ⟨Ao26, co26, eo26⟩ := Kd.V_slice HO887.out
  (first | subst eo26 | (injection eo26 with f1_ f2_ f3_; have f4_ := f1_.symm; have f5_ := f3_.symm; clear f1_ f2_ f3_; subst f4_; subst f5_))
  refine hK.out _ _ ⟨kc BK879 0, kc BK879 1⟩ (fun hHeld => ?_)
  clear hK K
  refine norm_ (a' := ?_) ?_ ?_; rotate_left; focus (show Act.put _ (some 12) _ = _; simp only [Act.put, s1, s2, s3, i64_w, i32_w]; rfl)
  refine one_ (i := 3) (N := some 13) #[T, T, T, T, O, O, O, O, O, O, O, O] rfl rfl (one_of HT_.out (by kernel_rfl)) (by decide) (fun K hK => ?_)
  refine goes_ Try.func21 (by kernel_rfl) rfl #[.agg #[.bool t875, .slice Ao19 t876.length co19], .agg #[.bool t884, .slice Ao26 t885.length co26]] (by rfl) rfl rfl (by (try simp only [List.map_toArray, List.map_cons, List.map_nil]); first | done | rfl | (simp only [List.length_drop, List.length_take]; rfl)) ?_
  with_reducible refine (cobwebref01_Cmp.calls k t875 _ _ t876 t884 _ _ t885 t888 _ ?side1 ?side2 ?side3 ?side4 A7.out).mono ?_
  (case side1 => repeat (first | exact (Kd.V_reads' HO878.out).2.2 | (with_reducible refine Kd.C_alloc ?_ _) | (with_reducible refine Kd.C_drewN ?_ _) | (with_reducible refine Kd.C_drew ?_)))
  (case side2 => exact (Kd.V_reads' HO878.out).2.1)
  (case side3 => repeat (first | exact (Kd.V_reads' HO887.out).2.2 | (with_reducible refine Kd.C_alloc ?_ _) | (with_reducible refine Kd.C_drewN ?_ _) | (with_reducible refine Kd.C_drew ?_)))
  (case side4 => exact (Kd.V_reads' HO887.out).2.1)
  rintro e w27 ⟨rfl, hb⟩
  refine ⟨_, rfl, ?_⟩
  replace HO874 := kV HO874 hb
  replace HO878 := kV HO878 hb
  replace HO883 := kV HO883 hb
  replace HO887 := kV HO887 hb
  replace BK870 := kb BK870 hb
  replace BK879 := kb BK879 hb
  replace HB := kB HB hb
  (try clear hb); (try clear hb2); (try clear hk); (try clear hi)
  refine hK.out _ _ ⟨kc BK879 0, kc BK879 1⟩ (fun hHeld => ?_)
  clear hK K
  refine norm_ (a' := ?_) ?_ ?_; rotate_left; focus (show Act.put _ (some 13) _ = _; simp only [Act.put, s1, s2, s3, i64_w, i32_w]; rfl)
  refine pure_ (i := 4) (N := some 14) (v := ?_) (a' := ?_) #[T, T, T, T, T, O, O, O, O, O, O, O] rfl rfl (any_of HT_.out (by kernel_rfl)) (fun _ _ _ h => h) (Or.inl ⟨by rfl, ?_⟩) ?_ ?_; rotate_left; focus (intro w'; go_simp; with_reducible rfl)
  rotate_left; focus (simp only [Act.put, s1, s2, s3, i64_w, i32_w]; rfl)
  refine pure_ (i := 5) (N := some 15) (v := ?_) (a' := ?_) #[T, T, T, T, T, T, O, O, O, O, O, O] rfl rfl (any_of HT_.out (by kernel_rfl)) (fun _ _ _ h => h) (Or.inl ⟨by rfl, ?_⟩) ?_ ?_; rotate_left; focus (intro w'; go_simp; with_reducible rfl)
  rotate_left; focus (simp only [Act.put, s1, s2, s3, i64_w, i32_w]; rfl)
  refine take_ (i := 6) (N := some 16) (v := ?_) (a' := ?_) #[T, T, T, T, T, T, T, O, O, O, O, O] rfl rfl (take_ofW HT_.out HW_.out (by kernel_rfl)) (fun _ _ _ h => h) (Or.inl ⟨by rfl, ?_⟩) hHeld ?_ ?_; rotate_left; focus (rintro w' ⟨s0, s1⟩; go_simp; with_reducible rfl)
  rotate_left; focus (simp only [Act.put, s1, s2, s3, i64_w, i32_w]; rfl)
  refine one_ (i := 7) (N := some 17) #[T, T, T, T, T, T, T, T, O, O, O, O] rfl rfl (one_of HT_.out (by kernel_rfl)) (by decide) (fun K hK => ?_)
  refine goes_ Try.func59 (by kernel_rfl) rfl #[.int .i64 27] (by rfl) rfl rfl (by (try simp only [List.map_toArray, List.map_cons, List.map_nil]); first | done | rfl | (simp only [List.length_drop, List.length_take]; rfl)) ?_
  with_reducible refine (cobwebref01_Power.calls k 27 t889 t890 _ A9.out).mono ?_
  rintro e w28 ⟨v891, rfl, ho0, hb⟩
  refine ⟨_, rfl, ?_⟩
  have HO892 := Aside0.mk (Kd.V_lower (Kd.V_mono (ok' := fun k_ => k_ ≠ gb870 ∧ k_ ≠ gb879) ho0 (fun k_ hk_ => ⟨(Kd.freshB (g := gb870) (o := .cells #[.bool a0_0, .slice A0_1 l0_1.length c0_1] 33 (0, 0)) (kx BK870) k_ hk_), (Kd.freshB (g := gb879) (o := .cells #[.bool t875, .slice Ao19 t876.length co19] 33 (0, 0)) (kx BK879) k_ hk_)⟩)) (below_size (ky HB)))
  replace HO874 := kV HO874 hb
  replace HO878 := kV HO878 hb
  replace HO883 := kV HO883 hb
  replace HO887 := kV HO887 hb
  replace BK870 := kb BK870 hb
  replace BK879 := kb BK879 hb
  replace HB := kB HB hb
  (try clear hb); (try clear hb2); (try clear hk); (try clear hi); (try clear ho0)
  obtain ⟨Ao29, co29, eo29⟩ := Kd.V_slice HO892.out
  (first | subst eo29 | (injection eo29 with f1_ f2_ f3_; have f4_ := f1_.symm; have f5_ := f3_.symm; clear f1_ f2_ f3_; subst f4_; subst f5_))
  refine hK.out _ _ ⟨kc BK879 0, kc BK879 1⟩ (fun hHeld => ?_)
  clear hK K
  refine norm_ (a' := ?_) ?_ ?_; rotate_left; focus (show Act.put _ (some 17) _ = _; simp only [Act.put, s1, s2, s3, i64_w, i32_w]; rfl)
  refine one_ (i := 8) (N := some 18) #[T, T, T, T, T, T, T, T, T, O, O, O] rfl rfl (one_of HT_.out (by kernel_rfl)) (by decide) (fun K hK => ?_)
  refine goes_ Try.func21 (by kernel_rfl) rfl #[.agg #[.bool t875, .slice Ao19 t876.length co19], .agg #[.bool t889, .slice Ao29 t890.length co29]] (by rfl) rfl rfl (by (try simp only [List.map_toArray, List.map_cons, List.map_nil]); first | done | rfl | (simp only [List.length_drop, List.length_take]; rfl)) ?_
  with_reducible refine (cobwebref01_Cmp.calls k t875 _ _ t876 t889 _ _ t890 t893 _ ?side1 ?side2 ?side3 ?side4 A10.out).mono ?_
  (case side1 => repeat (first | exact (Kd.V_reads' HO878.out).2.2 | (with_reducible refine Kd.C_alloc ?_ _) | (with_reducible refine Kd.C_drewN ?_ _) | (with_reducible refine Kd.C_drew ?_)))
  (case side2 => exact (Kd.V_reads' HO878.out).2.1)
  (case side3 => repeat (first | exact (Kd.V_reads' HO892.out).2.2 | (with_reducible refine Kd.C_alloc ?_ _) | (with_reducible refine Kd.C_drewN ?_ _) | (with_reducible refine Kd.C_drew ?_)))
  (case side4 => exact (Kd.V_reads' HO892.out).2.1)
  rintro e w30 ⟨rfl, hb⟩
  refine ⟨_, rfl, ?_⟩
  replace HO874 := kV HO874 hb
  replace HO878 := kV HO878 hb
  replace HO883 := kV HO883 hb
  replace HO887 := kV HO887 hb
  replace HO892 := kV HO892 hb
  replace BK870 := kb BK870 hb
  replace BK879 := kb BK879 hb
  replace HB := kB HB hb
  (try clear hb); (try clear hb2); (try clear hk); (try clear hi)
  refine hK.out _ _ ⟨kc BK879 0, kc BK879 1⟩ (fun hHeld => ?_)
  clear hK K
  refine norm_ (a' := ?_) ?_ ?_; rotate_left; focus (show Act.put _ (some 18) _ = _; simp only [Act.put, s1, s2, s3, i64_w, i32_w]; rfl)
  refine pure_ (i := 9) (N := some 19) (v := ?_) (a' := ?_) #[T, T, T, T, T, T, T, T, T, T, O, O] rfl rfl (any_of HT_.out (by kernel_rfl)) (fun _ _ _ h => h) (Or.inl ⟨by rfl, ?_⟩) ?_ ?_; rotate_left; focus (intro w'; go_simp; with_reducible rfl)
  rotate_left; focus (simp only [Act.put, s1, s2, s3, i64_w, i32_w]; rfl)
  refine pure_ (i := 10) (N := some 20) (v := ?_) (a' := ?_) #[T, T, T, T, T, T, T, T, T, T, T, O] rfl rfl (any_of HT_.out (by kernel_rfl)) (fun _ _ _ h => h) (Or.inl ⟨by rfl, ?_⟩) ?_ ?_; rotate_left; focus (intro w'; go_simp; with_reducible rfl)
  rotate_left; focus (simp only [Act.put, s1, s2, s3, i64_w, i32_w]; rfl)
  refine pure_ (i := 11) (N := some 4) (v := ?_) (a' := ?_) #[T, T, T, T, T, T, T, T, T, T, T, T] rfl rfl (any_of HT_.out (by kernel_rfl)) (fun _ _ _ h => h) (Or.inl ⟨by rfl, ?_⟩) ?_ ?_; rotate_left; focus (intro w'; go_simp; with_reducible rfl)
  rotate_left; focus (simp only [Act.put, s1, s2, s3, i64_w, i32_w]; rfl)
  refine done_ (done_of HT_.out (by kernel_rfl)) ?_
  try go_wp2
  go_ret
  exact ⟨by first | rfl | (simp [errW_none, errW_some] <;> rfl) | (simp [*, errW_none, errW_some] <;> rfl), ky HB⟩
/-! ### cobwebref03_In: function 43 -/
def cobwebref03_In.f (k : Nat) (a0_0 : Int) (a0_1 : Int) (a1 : Int) : Option (Bool) := (cobwebref01_Of.f k a0_0).bind fun bt963 => ((cobwebref03_Rung.f a1).bind fun t967 => ((cobwebref03_near.f k bt963.1 bt963.2 t967).bind fun t968 => (if t968 = true then ((cobwebref01_Of.f k a0_1).bind fun bt969 => ((cobwebref03_Rung.f a1).bind fun t973 => ((cobwebref03_near.f k bt969.1 bt969.2 t973).bind fun t974 => (some t974)))) else (some false))))
theorem cobwebref03_In.mono : ∀ a0 a1 a2 k, LeO (cobwebref03_In.f k a0 a1 a2) (cobwebref03_In.f (k + 1) a0 a1 a2) := by
  intro a0 a1 a2 k
  unfold cobwebref03_In.f
  repeat' first
      | (with_reducible exact cobwebref01_Of.mono _ _)
      | (with_reducible exact cobwebref03_near.mono _ _ _ _)
      | (with_reducible exact LeO.refl _)
      | (with_reducible exact LeO.none _)
      | (with_reducible refine LeO.ite ?_ ?_)
      | (with_reducible refine LeO.bind ?_ (fun _ => ?_))
      | exact cobwebref01_Of.mono _ _
      | exact cobwebref03_near.mono _ _ _ _
      | exact LeO.none _
      | refine LeO.ite ?_ ?_
      | refine LeO.bind ?_ (fun _ => ?_)
set_option maxHeartbeats 8000000 in
set_option maxRecDepth 100000 in
theorem cobwebref03_In.calls (k : Nat) (a0_0 : Int) (a0_1 : Int) (a1 : Int) (r : Bool) (w : World) (h : cobwebref03_In.f k a0_0 a0_1 a1 = some r) :
    Calls Try.prog 43 #[.agg #[.int .i64 a0_0, .int .i64 a0_1], .int .i64 a1] w fun e w' => e = .returned (.bool r) ∧ Below w.heap.size w w' := by
  have hu73 := Try.underlying73
  have HB := Aside0.mk (Below.refl w.heap.size w)
  have H : ((cobwebref01_Of.f k a0_0).bind fun bt963 => ((cobwebref03_Rung.f a1).bind fun t967 => ((cobwebref03_near.f k bt963.1 bt963.2 t967).bind fun t968 => (if t968 = true then ((cobwebref01_Of.f k a0_1).bind fun bt969 => ((cobwebref03_Rung.f a1).bind fun t973 => ((cobwebref03_near.f k bt969.1 bt969.2 t973).bind fun t974 => (some t974)))) else (some false))))) = some r := h
  clear h
  replace H := Option.bind_eq_some_iff.mp H
  obtain ⟨⟨t963, t964⟩, A30, H⟩ := H
  replace H : ((cobwebref03_Rung.f a1).bind fun t967 => ((cobwebref03_near.f k t963 t964 t967).bind fun t968 => (if t968 = true then ((cobwebref01_Of.f k a0_1).bind fun bt969 => ((cobwebref03_Rung.f a1).bind fun t973 => ((cobwebref03_near.f k bt969.1 bt969.2 t973).bind fun t974 => (some t974)))) else (some false)))) = some r := H
  have A3 := Aside0.mk A30
  clear A30
  replace H := Option.bind_eq_some_iff.mp H
  obtain ⟨t967, A40, H⟩ := H
  replace H : ((cobwebref03_near.f k t963 t964 t967).bind fun t968 => (if t968 = true then ((cobwebref01_Of.f k a0_1).bind fun bt969 => ((cobwebref03_Rung.f a1).bind fun t973 => ((cobwebref03_near.f k bt969.1 bt969.2 t973).bind fun t974 => (some t974)))) else (some false))) = some r := H
  have A4 := Aside0.mk A40
  clear A40
  replace H := Option.bind_eq_some_iff.mp H
  obtain ⟨t968, A50, H⟩ := H
  replace H : (if t968 = true then ((cobwebref01_Of.f k a0_1).bind fun bt969 => ((cobwebref03_Rung.f a1).bind fun t973 => ((cobwebref03_near.f k bt969.1 bt969.2 t973).bind fun t974 => (some t974)))) else (some false)) = some r := H
  have A5 := Aside0.mk A50
  clear A50
  by_cases c6 : t968 = true
  rotate_left
  · replace c6 := Bool.eq_false_iff.mpr c6
    subst c6
    have H1 : (some false) = some r := by rw [if_neg (show ¬ (false = true) by decide)] at H; exact H
    clear H; have H := H1; clear H1
    obtain rfl := Option.some.inj H
    go_enter Try.func43, Try.ntmps43
    go_wp2_with (first | ((with_reducible refine gate_dst (N := 2) rfl ?_); refine box_event ?hg (N := 2) ?hd (cs := #[.int .i64 a0_0, .int .i64 a0_1]) (t := 73) ?hr ?_; (case hd => rfl); (case hg => rfl); (case hr => first | (go_simp; done) | (go_simp; rfl)); intro gb962 hg w19 hbox hb; have BK962 := Aside0.mk (hbox); have GW962 := kS HB hg; have GE962 := kS HB hg; replace HB := kB HB hb; clear hb hbox hg; have hcz20_0 : w19.cell? ⟨gb962, 0, none⟩ = some (.int .i64 a0_0) := kc BK962 0; have hcz20_1 : w19.cell? ⟨gb962, 1, none⟩ = some (.int .i64 a0_1) := kc BK962 1; have hfz20_0 := blk_frozen BK962.out 0; have hfz20_1 := blk_frozen BK962.out 1) | ((with_reducible refine gate_callee (f := 33) rfl ?_); refine goesL_ (some 7) rfl rfl Try.func33 (by kernel_rfl) rfl #[.int .i64 a0_0] rfl (by (try simp only [List.map_toArray, List.map_cons, List.map_nil]); first | done | rfl | (simp only [List.length_drop, List.length_take]; rfl)) ?_; (with_reducible refine (cobwebref01_Of.calls k a0_0 t963 t964 _ A3.out).mono ?_); rintro e w21 ⟨v965, rfl, ho0, hb⟩; refine ⟨_, rfl, ?_⟩; have HO966 := Aside0.mk (Kd.R_lower ho0 (below_size (ky HB))); replace BK962 := kb BK962 hb; replace HB := kB HB hb; (try clear hb); (try clear hb2); (try clear hk); (try clear hi); (try clear ho0)) | ((with_reducible refine gate_callee (f := 36) rfl ?_); refine goesL_ (some 9) rfl rfl Try.func36 (by kernel_rfl) rfl #[.int .i64 a1] rfl (by (try simp only [List.map_toArray, List.map_cons, List.map_nil]); first | done | rfl | (simp only [List.length_drop, List.length_take]; rfl)) ?_; (with_reducible refine (cobwebref03_Rung.calls a1 t967 _ A4.out).mono ?_); rintro e w' ⟨rfl, ⟨nd, rfl⟩⟩; refine ⟨_, rfl, ?_⟩; obtain ⟨Ao22, co22, eo22⟩ := Kd.R_slice HO966.out; subst eo22) | ((with_reducible refine gate_callee (f := 69) rfl ?_); refine goesL_ (some 10) rfl rfl Try.func69 (by kernel_rfl) rfl #[.agg #[.bool t963, .slice Ao22 t964.length co22], .int .i64 t967] rfl (by (try simp only [List.map_toArray, List.map_cons, List.map_nil]); first | done | rfl | (simp only [List.length_drop, List.length_take]; rfl)) ?_; (with_reducible refine (cobwebref03_near.calls k t963 _ _ t964 t967 false _ ?side1 ?side2 A5.out).mono ?_); (case side1 => repeat (first | exact (Kd.R_reads' HO966.out).2.2 | (with_reducible refine Kd.C_alloc ?_ _) | (with_reducible refine Kd.C_drewN ?_ _) | (with_reducible refine Kd.C_drew ?_))); (case side2 => exact (Kd.R_reads' HO966.out).2.1); rintro e w23 ⟨rfl, hb⟩; refine ⟨_, rfl, ?_⟩; replace HO966 := kR HO966 hb; replace BK962 := kb BK962 hb; replace HB := kB HB hb; (try clear hb); (try clear hb2); (try clear hk); (try clear hi)))
    go_ret
    exact ⟨by first | rfl | (simp [errW_none, errW_some] <;> rfl) | (simp [*, errW_none, errW_some] <;> rfl), ky HB⟩

  subst c6
  have H1 : ((cobwebref01_Of.f k a0_1).bind fun bt969 => ((cobwebref03_Rung.f a1).bind fun t973 => ((cobwebref03_near.f k bt969.1 bt969.2 t973).bind fun t974 => (some t974)))) = some r := by rw [if_pos rfl] at H; exact H
  clear H; have H := H1; clear H1
  replace H := Option.bind_eq_some_iff.mp H
  obtain ⟨⟨t969, t970⟩, A70, H⟩ := H
  replace H : ((cobwebref03_Rung.f a1).bind fun t973 => ((cobwebref03_near.f k t969 t970 t973).bind fun t974 => (some t974))) = some r := H
  have A7 := Aside0.mk A70
  clear A70
  replace H := Option.bind_eq_some_iff.mp H
  obtain ⟨t973, A80, H⟩ := H
  replace H : ((cobwebref03_near.f k t969 t970 t973).bind fun t974 => (some t974)) = some r := H
  have A8 := Aside0.mk A80
  clear A80
  replace H := Option.bind_eq_some_iff.mp H
  obtain ⟨t974, A90, H⟩ := H
  replace H : (some t974) = some r := H
  have A9 := Aside0.mk A90
  clear A90
  obtain rfl := Option.some.inj H
  go_enter Try.func43, Try.ntmps43
  go_wp2_with (first | ((with_reducible refine gate_dst (N := 2) rfl ?_); refine box_event ?hg (N := 2) ?hd (cs := #[.int .i64 a0_0, .int .i64 a0_1]) (t := 73) ?hr ?_; (case hd => rfl); (case hg => rfl); (case hr => first | (go_simp; done) | (go_simp; rfl)); intro gb962 hg w10 hbox hb; have BK962 := Aside0.mk (hbox); have GW962 := kS HB hg; have GE962 := kS HB hg; replace HB := kB HB hb; clear hb hbox hg; have hcz11_0 : w10.cell? ⟨gb962, 0, none⟩ = some (.int .i64 a0_0) := kc BK962 0; have hcz11_1 : w10.cell? ⟨gb962, 1, none⟩ = some (.int .i64 a0_1) := kc BK962 1; have hfz11_0 := blk_frozen BK962.out 0; have hfz11_1 := blk_frozen BK962.out 1) | ((with_reducible refine gate_callee (f := 33) rfl ?_); refine goesL_ (some 7) rfl rfl Try.func33 (by kernel_rfl) rfl #[.int .i64 a0_0] rfl (by (try simp only [List.map_toArray, List.map_cons, List.map_nil]); first | done | rfl | (simp only [List.length_drop, List.length_take]; rfl)) ?_; (with_reducible refine (cobwebref01_Of.calls k a0_0 t963 t964 _ A3.out).mono ?_); rintro e w12 ⟨v965, rfl, ho0, hb⟩; refine ⟨_, rfl, ?_⟩; have HO966 := Aside0.mk (Kd.R_lower ho0 (below_size (ky HB))); replace BK962 := kb BK962 hb; replace HB := kB HB hb; (try clear hb); (try clear hb2); (try clear hk); (try clear hi); (try clear ho0)) | ((with_reducible refine gate_callee (f := 36) rfl ?_); refine goesL_ (some 9) rfl rfl Try.func36 (by kernel_rfl) rfl #[.int .i64 a1] rfl (by (try simp only [List.map_toArray, List.map_cons, List.map_nil]); first | done | rfl | (simp only [List.length_drop, List.length_take]; rfl)) ?_; (with_reducible refine (cobwebref03_Rung.calls a1 t967 _ A4.out).mono ?_); rintro e w' ⟨rfl, ⟨nd, rfl⟩⟩; refine ⟨_, rfl, ?_⟩; obtain ⟨Ao13, co13, eo13⟩ := Kd.R_slice HO966.out; subst eo13) | ((with_reducible refine gate_callee (f := 69) rfl ?_); refine goesL_ (some 10) rfl rfl Try.func69 (by kernel_rfl) rfl #[.agg #[.bool t963, .slice Ao13 t964.length co13], .int .i64 t967] rfl (by (try simp only [List.map_toArray, List.map_cons, List.map_nil]); first | done | rfl | (simp only [List.length_drop, List.length_take]; rfl)) ?_; (with_reducible refine (cobwebref03_near.calls k t963 _ _ t964 t967 true _ ?side1 ?side2 A5.out).mono ?_); (case side1 => repeat (first | exact (Kd.R_reads' HO966.out).2.2 | (with_reducible refine Kd.C_alloc ?_ _) | (with_reducible refine Kd.C_drewN ?_ _) | (with_reducible refine Kd.C_drew ?_))); (case side2 => exact (Kd.R_reads' HO966.out).2.1); rintro e w14 ⟨rfl, hb⟩; refine ⟨_, rfl, ?_⟩; replace HO966 := kR HO966 hb; replace BK962 := kb BK962 hb; replace HB := kB HB hb; (try clear hb); (try clear hb2); (try clear hk); (try clear hi); have hcz15_0 : w14.cell? ⟨gb962, 0, none⟩ = some (.int .i64 a0_0) := kc BK962 0; have hcz15_1 : w14.cell? ⟨gb962, 1, none⟩ = some (.int .i64 a0_1) := kc BK962 1; have hfz15_0 := blk_frozen BK962.out 0; have hfz15_1 := blk_frozen BK962.out 1) | (go_at_call 33; (with_reducible refine (cobwebref01_Of.calls k a0_1 t969 t970 _ A7.out).mono ?_); rintro e w16 ⟨v971, rfl, ho0, hb⟩; have n0_ := Aside0.mk (Kd.R_elder' (kr HO966) (Kd.R_base ho0) hb); have n1_ := Aside0.mk (Kd.R_lower (Kd.R_new' ho0 (Kd.R_lt (kr HO966))) (below_size (ky HB))); have n2_ := kb BK962 hb; have n3_ := kB HB hb; clear HO966; clear BK962; clear HB; have HO966 := n0_; have HO972 := n1_; have BK962 := n2_; have HB := n3_; clear n0_ n1_ n2_ n3_; (try clear hb); (try clear hb2); (try clear hk); (try clear hi); (try clear ho0)) | (go_at_call 36; (with_reducible refine (cobwebref03_Rung.calls a1 t973 _ A8.out).mono ?_); rintro e w' ⟨rfl, ⟨nd, rfl⟩⟩; obtain ⟨Ao17, co17, eo17⟩ := Kd.R_slice HO972.out; subst eo17) | (go_at_call 69; (with_reducible refine (cobwebref03_near.calls k t969 _ _ t970 t973 t974 _ ?side1 ?side2 A9.out).mono ?_); (case side1 => repeat (first | exact (Kd.R_reads' HO972.out).2.2 | (with_reducible refine Kd.C_alloc ?_ _) | (with_reducible refine Kd.C_drewN ?_ _) | (with_reducible refine Kd.C_drew ?_))); (case side2 => exact (Kd.R_reads' HO972.out).2.1); rintro e w18 ⟨rfl, hb⟩; replace HO966 := kR HO966 hb; replace HO972 := kR HO972 hb; replace BK962 := kb BK962 hb; replace HB := kB HB hb; (try clear hb); (try clear hb2); (try clear hk); (try clear hi)))
  go_ret
  exact ⟨by first | rfl | (simp [errW_none, errW_some] <;> rfl) | (simp [*, errW_none, errW_some] <;> rfl), ky HB⟩
end Go.Proofs.Ytpjbniihdndlmab.Q
