-- Printed by wip/pp.sh (a session's own turning of the kit's print) for this seat.
import Derived.Test.YtpjbniihdndlmabQx0
import Derived.Test.YtpjbniihdndlmabQx6
import Derived.Test.YtpjbniihdndlmabQx13
import Derived.Test.YtpjbniihdndlmabQx24
import Derived.Test.YtpjbniihdndlmabQx25
import Derived.Test.YtpjbniihdndlmabQx28
import Derived.Test.YtpjbniihdndlmabQx32
import Derived.Test.YtpjbniihdndlmabQx34
namespace Go.Proofs.Ytpjbniihdndlmab.Q
open Go.RowKit Go.Proofs.YtpjbniihdndlmabW.PrintWords Go.Proofs.YtpjbniihdndlmabW.PrintLast Go.Proofs.YtpjbniihdndlmabW.PrintMore
open Go.Proofs.Ytpjbniihdndlmab.H
attribute [local go_sem] hq_add64 hq_sub64 hq_not64 add64c_nn sub64c_nn sub64c_le
attribute [local go_sem] max2_int min2_int max_two min_two max_three min_three max_four min_four   -- for this text's walks alone
set_option linter.unusedVariables false
set_option linter.unusedSimpArgs false

/-! ### cobweblaw02_FracTurned: function 7 -/
mutual
def cobweblaw02_FracTurned.j0 : Nat → Bool → Int → Int → Int → Int → Int → Int → Int → Int → Int → Int → Int → Int → Option (Bool)
  | 0, _, _, _, _, _, _, _, _, _, _, _, _, _ => none
  | k + 1, x42, x724000, x724001, x724002, x724003, x725000, x725001, x725002, x725003, x729000, x729001, x733000, x733001 => if x42 = true then ((cobweblaw02_alive.f k).bind fun t735 => (some t735)) else ((frac_Cmp.f k x729000 x729001 x724002 x724003 x733000 x733001 x725002 x725003).bind fun t738 => ((frac_Cmp.f k x725000 x725001 x725002 x725003 x724000 x724001 x724002 x724003).bind fun t739 => (if t738 = t739 then ((frac_Floor.f k x729000 x729001 x724002 x724003).bind fun bt740 => ((wide_Neg.f bt740.1 bt740.2).bind fun bt742 => ((wide_Of.f 1).bind fun bt746 => ((wide_Sub.f bt742.1 bt742.2.1 bt746.1 bt746.2).bind fun bt748 => (if bt742.2.2 = true then (cobweblaw02_FracTurned.j1 k (!bt748.2.2) x724000 x724001 x724002 x724003 bt742.1 bt742.2.1 bt748.1 bt748.2.1) else (cobweblaw02_FracTurned.j1 k true x724000 x724001 x724002 x724003 bt742.1 bt742.2.1 bt748.1 bt748.2.1)))))) else (some false))))
def cobweblaw02_FracTurned.j1 : Nat → Bool → Int → Int → Int → Int → Int → Int → Int → Int → Option (Bool)
  | 0, _, _, _, _, _, _, _, _, _ => none
  | k + 1, x76, x724000, x724001, x724002, x724003, x746000, x746001, x752000, x752001 => if x76 = true then ((cobweblaw02_alive.f k).bind fun t752 => (some t752)) else ((cobweblaw02_alive.f k).bind fun t753 => (if t753 = true then ((wide_Of.f 1).bind fun bt754 => ((frac_Cmp.f k x746000 x746001 bt754.1 bt754.2 x724000 x724001 x724002 x724003).bind fun t756 => (if t756 ≥ 0 then ((wide_Of.f 1).bind fun bt757 => ((frac_Cmp.f k x752000 x752001 bt757.1 bt757.2 x724000 x724001 x724002 x724003).bind fun t759 => (some (decide (t759 < 0))))) else (none)))) else (none)))
end
def cobweblaw02_FracTurned.f (k : Nat) (a0_0 : Int) (a0_1 : Int) (a0_2 : Int) (a0_3 : Int) (a1_0 : Int) (a1_1 : Int) (a1_2 : Int) (a1_3 : Int) : Option (Bool) := (wide_Neg.f a0_0 a0_1).bind fun bt725 => ((wide_Neg.f a1_0 a1_1).bind fun bt729 => (if bt725.2.2 = true then (if bt729.2.2 = true then ((frac_Right.f a0_0 a0_1 a0_2 a0_3).bind fun t733 => (if t733 = true then ((frac_Right.f a1_0 a1_1 a1_2 a1_3).bind fun t734 => (cobweblaw02_FracTurned.j0 k (!t734) a0_0 a0_1 a0_2 a0_3 a1_0 a1_1 a1_2 a1_3 bt725.1 bt725.2.1 bt729.1 bt729.2.1)) else (cobweblaw02_FracTurned.j0 k true a0_0 a0_1 a0_2 a0_3 a1_0 a1_1 a1_2 a1_3 bt725.1 bt725.2.1 bt729.1 bt729.2.1))) else (cobweblaw02_FracTurned.j0 k true a0_0 a0_1 a0_2 a0_3 a1_0 a1_1 a1_2 a1_3 bt725.1 bt725.2.1 bt729.1 bt729.2.1)) else (cobweblaw02_FracTurned.j0 k true a0_0 a0_1 a0_2 a0_3 a1_0 a1_1 a1_2 a1_3 bt725.1 bt725.2.1 bt729.1 bt729.2.1)))
theorem cobweblaw02_FracTurned.mono_l : ∀ k, (∀ y0 y1 y2 y3 y4 y5 y6 y7 y8 y9 y10 y11 y12, LeO (cobweblaw02_FracTurned.j0 k y0 y1 y2 y3 y4 y5 y6 y7 y8 y9 y10 y11 y12) (cobweblaw02_FracTurned.j0 (k + 1) y0 y1 y2 y3 y4 y5 y6 y7 y8 y9 y10 y11 y12)) ∧ (∀ y0 y1 y2 y3 y4 y5 y6 y7 y8, LeO (cobweblaw02_FracTurned.j1 k y0 y1 y2 y3 y4 y5 y6 y7 y8) (cobweblaw02_FracTurned.j1 (k + 1) y0 y1 y2 y3 y4 y5 y6 y7 y8))
  | 0 => ⟨fun _ _ _ _ _ _ _ _ _ _ _ _ _ r h => by simp [cobweblaw02_FracTurned.j0] at h, fun _ _ _ _ _ _ _ _ _ r h => by simp [cobweblaw02_FracTurned.j1] at h⟩
  | k + 1 => by
    obtain ⟨ih0, ih1⟩ := cobweblaw02_FracTurned.mono_l k
    refine ⟨?_, ?_⟩
    · intro y0 y1 y2 y3 y4 y5 y6 y7 y8 y9 y10 y11 y12
      unfold cobweblaw02_FracTurned.j0
      repeat' first
      | (with_reducible exact ih0 _ _ _ _ _ _ _ _ _ _ _ _ _)
      | (with_reducible exact ih1 _ _ _ _ _ _ _ _ _)
      | (with_reducible exact cobweblaw02_alive.mono _)
      | (with_reducible exact frac_Cmp.mono _ _ _ _ _ _ _ _ _)
      | (with_reducible exact frac_Floor.mono _ _ _ _ _)
      | (with_reducible exact LeO.refl _)
      | (with_reducible exact LeO.none _)
      | (with_reducible refine LeO.ite ?_ ?_)
      | (with_reducible refine LeO.bind ?_ (fun _ => ?_))
      | exact ih0 _ _ _ _ _ _ _ _ _ _ _ _ _
      | exact ih1 _ _ _ _ _ _ _ _ _
      | exact cobweblaw02_alive.mono _
      | exact frac_Cmp.mono _ _ _ _ _ _ _ _ _
      | exact frac_Floor.mono _ _ _ _ _
      | exact LeO.none _
      | refine LeO.ite ?_ ?_
      | refine LeO.bind ?_ (fun _ => ?_)
    · intro y0 y1 y2 y3 y4 y5 y6 y7 y8
      unfold cobweblaw02_FracTurned.j1
      repeat' first
      | (with_reducible exact ih0 _ _ _ _ _ _ _ _ _ _ _ _ _)
      | (with_reducible exact ih1 _ _ _ _ _ _ _ _ _)
      | (with_reducible exact cobweblaw02_alive.mono _)
      | (with_reducible exact frac_Cmp.mono _ _ _ _ _ _ _ _ _)
      | (with_reducible exact frac_Floor.mono _ _ _ _ _)
      | (with_reducible exact LeO.refl _)
      | (with_reducible exact LeO.none _)
      | (with_reducible refine LeO.ite ?_ ?_)
      | (with_reducible refine LeO.bind ?_ (fun _ => ?_))
      | exact ih0 _ _ _ _ _ _ _ _ _ _ _ _ _
      | exact ih1 _ _ _ _ _ _ _ _ _
      | exact cobweblaw02_alive.mono _
      | exact frac_Cmp.mono _ _ _ _ _ _ _ _ _
      | exact frac_Floor.mono _ _ _ _ _
      | exact LeO.none _
      | refine LeO.ite ?_ ?_
      | refine LeO.bind ?_ (fun _ => ?_)
theorem cobweblaw02_FracTurned.mono : ∀ a0 a1 a2 a3 a4 a5 a6 a7 k, LeO (cobweblaw02_FracTurned.f k a0 a1 a2 a3 a4 a5 a6 a7) (cobweblaw02_FracTurned.f (k + 1) a0 a1 a2 a3 a4 a5 a6 a7) := by
  intro a0 a1 a2 a3 a4 a5 a6 a7 k
  obtain ⟨ih0, ih1⟩ := cobweblaw02_FracTurned.mono_l k
  unfold cobweblaw02_FracTurned.f
  repeat' first
      | (with_reducible exact ih0 _ _ _ _ _ _ _ _ _ _ _ _ _)
      | (with_reducible exact ih1 _ _ _ _ _ _ _ _ _)
      | (with_reducible exact cobweblaw02_alive.mono _)
      | (with_reducible exact frac_Cmp.mono _ _ _ _ _ _ _ _ _)
      | (with_reducible exact frac_Floor.mono _ _ _ _ _)
      | (with_reducible exact LeO.refl _)
      | (with_reducible exact LeO.none _)
      | (with_reducible refine LeO.ite ?_ ?_)
      | (with_reducible refine LeO.bind ?_ (fun _ => ?_))
      | exact ih0 _ _ _ _ _ _ _ _ _ _ _ _ _
      | exact ih1 _ _ _ _ _ _ _ _ _
      | exact cobweblaw02_alive.mono _
      | exact frac_Cmp.mono _ _ _ _ _ _ _ _ _
      | exact frac_Floor.mono _ _ _ _ _
      | exact LeO.none _
      | refine LeO.ite ?_ ?_
      | refine LeO.bind ?_ (fun _ => ?_)
def cobweblaw02_FracTurned.T5 : Bool × List (List Nat × List Nat) := (true, [([], []), ([], []), ([1], [1]), ([0, 2], [0, 2]), ([], []), ([], []), ([5], [5]), ([4, 6], [4, 6]), ([], []), ([], []), ([8, 3, 0, 1, 2, 3, 8, 9], [3, 8]), ([9, 7, 10, 0, 1, 2, 3, 4, 5, 6, 7, 8, 9, 10], [7, 9])])
def cobweblaw02_FracTurned.B5 : List Nat := [0, 0, 2, 7, 0, 0, 32, 112, 0, 0, 783, 2047]
theorem cobweblaw02_FracTurned.tab5 : rtab .any (opsOf Try.f7 5) = cobweblaw02_FracTurned.T5 := by kernel_rfl
theorem cobweblaw02_FracTurned.bits5 : waitsOk cobweblaw02_FracTurned.T5.2 cobweblaw02_FracTurned.B5 = true := by kernel_rfl
def cobweblaw02_FracTurned.T9 : Bool × List (List Nat × List Nat) := (true, [([], []), ([], []), ([0, 1, 1], [0, 1]), ([2], [2]), ([3], [3]), ([3], [3]), ([], []), ([6, 4, 2, 0, 1, 2, 3, 4, 6], [4, 6]), ([5, 7, 0, 1, 2, 3, 4, 5, 6, 7], [5])])
def cobweblaw02_FracTurned.B9 : List Nat := [0, 0, 3, 7, 15, 15, 0, 95, 255]
theorem cobweblaw02_FracTurned.tab9 : rtab .any (opsOf Try.f7 9) = cobweblaw02_FracTurned.T9 := by kernel_rfl
theorem cobweblaw02_FracTurned.bits9 : waitsOk cobweblaw02_FracTurned.T9.2 cobweblaw02_FracTurned.B9 = true := by kernel_rfl
def cobweblaw02_FracTurned.T12 : Bool × List (List Nat × List Nat) := (true, [([], []), ([0, 0], [0]), ([1], [1]), ([1, 1], [1]), ([2, 3, 1], [1, 2, 3]), ([1], [1]), ([4, 5, 3, 1], [1, 4, 5]), ([6, 1], [1, 6]), ([1, 7], [1, 7]), ([8, 6], [8]), ([9], [9]), ([9, 9], [9]), ([10, 11, 9], [9, 10, 11]), ([9], [9]), ([12, 13, 11, 9], [9, 12, 13]), ([14, 9], [9, 14]), ([9, 15], [9, 15]), ([16, 14, 0, 1, 2, 3, 4, 5, 6, 7, 8, 9, 10, 11, 12, 13, 14, 15, 16], [16])])
def cobweblaw02_FracTurned.B12 : List Nat := [0, 1, 3, 3, 15, 3, 63, 127, 255, 511, 1023, 1023, 4095, 1023, 16383, 32767, 65535, 131071]
theorem cobweblaw02_FracTurned.tab12 : rtab .any (opsOf Try.f7 12) = cobweblaw02_FracTurned.T12 := by kernel_rfl
theorem cobweblaw02_FracTurned.bits12 : waitsOk cobweblaw02_FracTurned.T12.2 cobweblaw02_FracTurned.B12 = true := by kernel_rfl
set_option maxHeartbeats 8000000 in
set_option maxRecDepth 100000 in
theorem cobweblaw02_FracTurned.calls (k : Nat) (a0_0 : Int) (a0_1 : Int) (a0_2 : Int) (a0_3 : Int) (a1_0 : Int) (a1_1 : Int) (a1_2 : Int) (a1_3 : Int) (r : Bool) (w : World) (h : cobweblaw02_FracTurned.f k a0_0 a0_1 a0_2 a0_3 a1_0 a1_1 a1_2 a1_3 = some r) :
    Calls Try.prog 7 #[.agg #[.int .i64 a0_0, .int .u64 a0_1, .int .i64 a0_2, .int .u64 a0_3], .agg #[.int .i64 a1_0, .int .u64 a1_1, .int .i64 a1_2, .int .u64 a1_3]] w fun e w' => e = .returned (.bool r) ∧ Below w.heap.size w w' := by
  have hu26 := Try.underlying26
  have hu24 := Try.underlying24
  have HB := Aside0.mk (Below.refl w.heap.size w)
  have H : ((wide_Neg.f a0_0 a0_1).bind fun bt725 => ((wide_Neg.f a1_0 a1_1).bind fun bt729 => (if bt725.2.2 = true then (if bt729.2.2 = true then ((frac_Right.f a0_0 a0_1 a0_2 a0_3).bind fun t733 => (if t733 = true then ((frac_Right.f a1_0 a1_1 a1_2 a1_3).bind fun t734 => (cobweblaw02_FracTurned.j0 k (!t734) a0_0 a0_1 a0_2 a0_3 a1_0 a1_1 a1_2 a1_3 bt725.1 bt725.2.1 bt729.1 bt729.2.1)) else (cobweblaw02_FracTurned.j0 k true a0_0 a0_1 a0_2 a0_3 a1_0 a1_1 a1_2 a1_3 bt725.1 bt725.2.1 bt729.1 bt729.2.1))) else (cobweblaw02_FracTurned.j0 k true a0_0 a0_1 a0_2 a0_3 a1_0 a1_1 a1_2 a1_3 bt725.1 bt725.2.1 bt729.1 bt729.2.1)) else (cobweblaw02_FracTurned.j0 k true a0_0 a0_1 a0_2 a0_3 a1_0 a1_1 a1_2 a1_3 bt725.1 bt725.2.1 bt729.1 bt729.2.1)))) = some r := h
  clear h
  replace H := Option.bind_eq_some_iff.mp H
  obtain ⟨⟨t725, t726, t727⟩, A30, H⟩ := H
  replace H : ((wide_Neg.f a1_0 a1_1).bind fun bt729 => (if t727 = true then (if bt729.2.2 = true then ((frac_Right.f a0_0 a0_1 a0_2 a0_3).bind fun t733 => (if t733 = true then ((frac_Right.f a1_0 a1_1 a1_2 a1_3).bind fun t734 => (cobweblaw02_FracTurned.j0 k (!t734) a0_0 a0_1 a0_2 a0_3 a1_0 a1_1 a1_2 a1_3 t725 t726 bt729.1 bt729.2.1)) else (cobweblaw02_FracTurned.j0 k true a0_0 a0_1 a0_2 a0_3 a1_0 a1_1 a1_2 a1_3 t725 t726 bt729.1 bt729.2.1))) else (cobweblaw02_FracTurned.j0 k true a0_0 a0_1 a0_2 a0_3 a1_0 a1_1 a1_2 a1_3 t725 t726 bt729.1 bt729.2.1)) else (cobweblaw02_FracTurned.j0 k true a0_0 a0_1 a0_2 a0_3 a1_0 a1_1 a1_2 a1_3 t725 t726 bt729.1 bt729.2.1))) = some r := H
  have A3 := Aside0.mk A30
  clear A30
  replace H := Option.bind_eq_some_iff.mp H
  obtain ⟨⟨t729, t730, t731⟩, A40, H⟩ := H
  replace H : (if t727 = true then (if t731 = true then ((frac_Right.f a0_0 a0_1 a0_2 a0_3).bind fun t733 => (if t733 = true then ((frac_Right.f a1_0 a1_1 a1_2 a1_3).bind fun t734 => (cobweblaw02_FracTurned.j0 k (!t734) a0_0 a0_1 a0_2 a0_3 a1_0 a1_1 a1_2 a1_3 t725 t726 t729 t730)) else (cobweblaw02_FracTurned.j0 k true a0_0 a0_1 a0_2 a0_3 a1_0 a1_1 a1_2 a1_3 t725 t726 t729 t730))) else (cobweblaw02_FracTurned.j0 k true a0_0 a0_1 a0_2 a0_3 a1_0 a1_1 a1_2 a1_3 t725 t726 t729 t730)) else (cobweblaw02_FracTurned.j0 k true a0_0 a0_1 a0_2 a0_3 a1_0 a1_1 a1_2 a1_3 t725 t726 t729 t730)) = some r := H
  have A4 := Aside0.mk A40
  clear A40
  have HC5 := Aside0.mk H
  clear H
  go_enter Try.func7, Try.ntmps7
  go_upto_region 3 with (first | ((with_reducible refine gate_dst (N := 2) rfl ?_); refine box_event ?hg (N := 2) ?hd (cs := #[.int .i64 a0_0, .int .u64 a0_1, .int .i64 a0_2, .int .u64 a0_3]) (t := 26) ?hr ?_; (case hd => rfl); (case hg => rfl); (case hr => first | (go_simp; done) | (go_simp; rfl)); intro gb723 hg w6 hbox hb; have BK723 := Aside0.mk (hbox); have GW723 := kS HB hg; have GE723 := kS HB hg; replace HB := kB HB hb; clear hb hbox hg) | ((with_reducible refine gate_dst (N := 3) rfl ?_); refine box_event ?hg (N := 3) ?hd (cs := #[.int .i64 a1_0, .int .u64 a1_1, .int .i64 a1_2, .int .u64 a1_3]) (t := 26) ?hr ?_; (case hd => rfl); (case hg => rfl); (case hr => first | (go_simp; done) | (go_simp; rfl)); intro gb724 hg w7 hbox hb; have BK724 := Aside0.mk (hbox); have GW724 := kS HB hg; have GE724 := kS HB hg; have NB723_724 := kN BK723 hg; have NB724_723 := kM BK723 hg; replace BK723 := kb BK723 hb; replace HB := kB HB hb; clear hb hbox hg; have hnb8 := NB723_724.out; have hnc8 := NB724_723.out; have hcz9_0 : w7.cell? ⟨gb723, 0, none⟩ = some (.int .i64 a0_0) := kc BK723 0; have hcz9_1 : w7.cell? ⟨gb723, 1, none⟩ = some (.int .u64 a0_1) := kc BK723 1; have hcz9_2 : w7.cell? ⟨gb723, 2, none⟩ = some (.int .i64 a0_2) := kc BK723 2; have hcz9_3 : w7.cell? ⟨gb723, 3, none⟩ = some (.int .u64 a0_3) := kc BK723 3; have hfz9_0 := blk_frozen BK723.out 0; have hfz9_1 := blk_frozen BK723.out 1; have hfz9_2 := blk_frozen BK723.out 2; have hfz9_3 := blk_frozen BK723.out 3) | ((with_reducible refine gate_callee (f := 30) rfl ?_); refine goesL_ (some 18) rfl rfl Try.func30 (by kernel_rfl) rfl #[.agg #[.int .i64 a0_0, .int .u64 a0_1]] rfl (by (try simp only [List.map_toArray, List.map_cons, List.map_nil]); first | done | rfl | (simp only [List.length_drop, List.length_take]; rfl)) ?_; (with_reducible refine (wide_Neg.calls a0_0 a0_1 t725 t726 t727 _ A3.out).mono ?_); rintro e w10 ⟨rfl, hb⟩; refine ⟨_, rfl, ?_⟩; replace BK723 := kb BK723 hb; replace BK724 := kb BK724 hb; replace HB := kB HB hb; (try clear hb); (try clear hb2); (try clear hk); (try clear hi)) | ((with_reducible refine gate_dst (N := 5) rfl ?_); refine box_event ?hg (N := 5) ?hd (cs := #[.int .i64 0, .int .u64 0]) (t := 24) ?hr ?_; (case hd => rfl); (case hg => rfl); (case hr => first | (go_simp; done) | (go_simp; rfl)); intro gb728 hg w11 hbox hb; have BK728 := Aside0.mk (hbox); have GW728 := kS HB hg; have GE728 := kS HB hg; have NB723_728 := kN BK723 hg; have NB728_723 := kM BK723 hg; have NB724_728 := kN BK724 hg; have NB728_724 := kM BK724 hg; replace BK723 := kb BK723 hb; replace BK724 := kb BK724 hb; replace HB := kB HB hb; clear hb hbox hg; have hnb12 := NB728_723.out; have hnc12 := NB723_728.out; have hnb13 := NB728_724.out; have hnc13 := NB724_728.out; have hcz14_0 : w11.cell? ⟨gb728, 0, none⟩ = some (.int .i64 0) := kc BK728 0; have hcz14_1 : w11.cell? ⟨gb728, 1, none⟩ = some (.int .u64 0) := kc BK728 1; have hfz14_0 := blk_frozen BK728.out 0; have hfz14_1 := blk_frozen BK728.out 1; have hcz15_0 : w11.cell? ⟨gb724, 0, none⟩ = some (.int .i64 a1_0) := kc BK724 0; have hcz15_1 : w11.cell? ⟨gb724, 1, none⟩ = some (.int .u64 a1_1) := kc BK724 1; have hcz15_2 : w11.cell? ⟨gb724, 2, none⟩ = some (.int .i64 a1_2) := kc BK724 2; have hcz15_3 : w11.cell? ⟨gb724, 3, none⟩ = some (.int .u64 a1_3) := kc BK724 3; have hfz15_0 := blk_frozen BK724.out 0; have hfz15_1 := blk_frozen BK724.out 1; have hfz15_2 := blk_frozen BK724.out 2; have hfz15_3 := blk_frozen BK724.out 3) | ((with_reducible refine gate_callee (f := 30) rfl ?_); refine goesL_ (some 24) rfl rfl Try.func30 (by kernel_rfl) rfl #[.agg #[.int .i64 a1_0, .int .u64 a1_1]] rfl (by (try simp only [List.map_toArray, List.map_cons, List.map_nil]); first | done | rfl | (simp only [List.length_drop, List.length_take]; rfl)) ?_; (with_reducible refine (wide_Neg.calls a1_0 a1_1 t729 t730 t731 _ A4.out).mono ?_); rintro e w16 ⟨rfl, hb⟩; refine ⟨_, rfl, ?_⟩; have n0_ := kb BK723 hb; have n1_ := kb BK724 hb; have n2_ := Aside0.mk (blk_below (g := gb728) (o := .cells #[.int .i64 t725, .int .u64 t726] 24 (0, 0)) (by (with_reducible repeat (first | refine blk_drewN ?_ _ | refine blk_drew ?_ | refine blk_alloc ?_ _)); refine blk_put (cs := #[.int .i64 t725, .int .u64 0]) ?_ 1 _ rfl; (with_reducible repeat (first | refine blk_drewN ?_ _ | refine blk_drew ?_ | refine blk_alloc ?_ _)); refine blk_put (cs := #[.int .i64 0, .int .u64 0]) ?_ 0 _ rfl; (with_reducible repeat (first | refine blk_drewN ?_ _ | refine blk_drew ?_ | refine blk_alloc ?_ _)); exact BK728.out) hb); have n3_ := kB HB hb; clear BK723; clear BK724; clear BK728; clear HB; have BK723 := n0_; have BK724 := n1_; have BK728 := n2_; have HB := n3_; clear n0_ n1_ n2_ n3_; (try clear hb); (try clear hb2); (try clear hk); (try clear hi)) | ((with_reducible refine gate_dst (N := 7) rfl ?_); refine box_event ?hg (N := 7) ?hd (cs := #[.int .i64 0, .int .u64 0]) (t := 24) ?hr ?_; (case hd => rfl); (case hg => rfl); (case hr => first | (go_simp; done) | (go_simp; rfl)); intro gb732 hg w17 hbox hb; have BK732 := Aside0.mk (hbox); have GW732 := kS HB hg; have GE732 := kS HB hg; have NB723_732 := kN BK723 hg; have NB732_723 := kM BK723 hg; have NB724_732 := kN BK724 hg; have NB732_724 := kM BK724 hg; have NB728_732 := kN BK728 hg; have NB732_728 := kM BK728 hg; replace BK723 := kb BK723 hb; replace BK724 := kb BK724 hb; replace BK728 := kb BK728 hb; replace HB := kB HB hb; clear hb hbox hg; have hnb18 := NB732_723.out; have hnc18 := NB723_732.out; have hnb19 := NB732_724.out; have hnc19 := NB724_732.out; have hnb20 := NB732_728.out; have hnc20 := NB728_732.out; have hcz21_0 : w17.cell? ⟨gb732, 0, none⟩ = some (.int .i64 0) := kc BK732 0; have hcz21_1 : w17.cell? ⟨gb732, 1, none⟩ = some (.int .u64 0) := kc BK732 1; have hfz21_0 := blk_frozen BK732.out 0; have hfz21_1 := blk_frozen BK732.out 1))
  (try simp only [Act.put, s1, s2, s3])
  go_cut [42] (fun v42 wc => ∃ (kq : Nat) (x42_4 : Bool), v42 = .bool x42_4 ∧ Aside0 (cobweblaw02_FracTurned.j0 kq x42_4 a0_0 a0_1 a0_2 a0_3 a1_0 a1_1 a1_2 a1_3 t725 t726 t729 t730 = some r) ∧ Aside0 (kq ≤ k) ∧ Aside0 (wc.heap[gb723]? = some (.cells #[.int .i64 a0_0, .int .u64 a0_1, .int .i64 a0_2, .int .u64 a0_3] 26 (0, 0))) ∧ Aside0 (wc.heap[gb724]? = some (.cells #[.int .i64 a1_0, .int .u64 a1_1, .int .i64 a1_2, .int .u64 a1_3] 26 (0, 0))) ∧ Aside0 (wc.heap[gb728]? = some (.cells #[.int .i64 t725, .int .u64 t726] 24 (0, 0))) ∧ Aside0 (wc.heap[gb732]? = some (.cells #[.int .i64 t729, .int .u64 t730] 24 (0, 0))) ∧ Aside0 (Below w.heap.size w wc))
  case first =>
    have H := HC5.out; clear HC5
    by_cases c22 : t727 = true
    rotate_left
    · replace c22 := Bool.eq_false_iff.mpr c22
      subst c22
      have H1 : (cobweblaw02_FracTurned.j0 k true a0_0 a0_1 a0_2 a0_3 a1_0 a1_1 a1_2 a1_3 t725 t726 t729 t730) = some r := by rw [if_neg (show ¬ (false = true) by decide)] at H; exact H
      clear H; have H := H1; clear H1
      have H' := Aside0.mk H
      clear H
      go_wp2
      go_meet
      case rel => exact ⟨_, (true), (by first | rfl | (simp; done) | (simp [*]; done)), H', ⟨by first | omega | exact Nat.le_refl _⟩, ⟨kx BK723⟩, ⟨kx BK724⟩, ⟨kx BK728⟩, ⟨by (with_reducible repeat (first | refine blk_drewN ?_ _ | refine blk_drew ?_ | refine blk_alloc ?_ _)); refine blk_put (cs := #[.int .i64 t729, .int .u64 0]) ?_ 1 _ rfl; (with_reducible repeat (first | refine blk_drewN ?_ _ | refine blk_drew ?_ | refine blk_alloc ?_ _)); refine blk_put (cs := #[.int .i64 0, .int .u64 0]) ?_ 0 _ rfl; (with_reducible repeat (first | refine blk_drewN ?_ _ | refine blk_drew ?_ | refine blk_alloc ?_ _)); exact BK732.out⟩, ⟨ky HB⟩⟩
    subst c22
    have H1 : (if t731 = true then ((frac_Right.f a0_0 a0_1 a0_2 a0_3).bind fun t733 => (if t733 = true then ((frac_Right.f a1_0 a1_1 a1_2 a1_3).bind fun t734 => (cobweblaw02_FracTurned.j0 k (!t734) a0_0 a0_1 a0_2 a0_3 a1_0 a1_1 a1_2 a1_3 t725 t726 t729 t730)) else (cobweblaw02_FracTurned.j0 k true a0_0 a0_1 a0_2 a0_3 a1_0 a1_1 a1_2 a1_3 t725 t726 t729 t730))) else (cobweblaw02_FracTurned.j0 k true a0_0 a0_1 a0_2 a0_3 a1_0 a1_1 a1_2 a1_3 t725 t726 t729 t730)) = some r := by rw [if_pos rfl] at H; exact H
    clear H; have H := H1; clear H1
    by_cases c23 : t731 = true
    rotate_left
    · replace c23 := Bool.eq_false_iff.mpr c23
      subst c23
      have H1 : (cobweblaw02_FracTurned.j0 k true a0_0 a0_1 a0_2 a0_3 a1_0 a1_1 a1_2 a1_3 t725 t726 t729 t730) = some r := by rw [if_neg (show ¬ (false = true) by decide)] at H; exact H
      clear H; have H := H1; clear H1
      have H' := Aside0.mk H
      clear H
      go_wp2
      go_meet
      case rel => exact ⟨_, (true), (by first | rfl | (simp; done) | (simp [*]; done)), H', ⟨by first | omega | exact Nat.le_refl _⟩, ⟨kx BK723⟩, ⟨kx BK724⟩, ⟨kx BK728⟩, ⟨by (with_reducible repeat (first | refine blk_drewN ?_ _ | refine blk_drew ?_ | refine blk_alloc ?_ _)); refine blk_put (cs := #[.int .i64 t729, .int .u64 0]) ?_ 1 _ rfl; (with_reducible repeat (first | refine blk_drewN ?_ _ | refine blk_drew ?_ | refine blk_alloc ?_ _)); refine blk_put (cs := #[.int .i64 0, .int .u64 0]) ?_ 0 _ rfl; (with_reducible repeat (first | refine blk_drewN ?_ _ | refine blk_drew ?_ | refine blk_alloc ?_ _)); exact BK732.out⟩, ⟨ky HB⟩⟩
    subst c23
    have H1 : ((frac_Right.f a0_0 a0_1 a0_2 a0_3).bind fun t733 => (if t733 = true then ((frac_Right.f a1_0 a1_1 a1_2 a1_3).bind fun t734 => (cobweblaw02_FracTurned.j0 k (!t734) a0_0 a0_1 a0_2 a0_3 a1_0 a1_1 a1_2 a1_3 t725 t726 t729 t730)) else (cobweblaw02_FracTurned.j0 k true a0_0 a0_1 a0_2 a0_3 a1_0 a1_1 a1_2 a1_3 t725 t726 t729 t730))) = some r := by rw [if_pos rfl] at H; exact H
    clear H; have H := H1; clear H1
    replace H := Option.bind_eq_some_iff.mp H
    obtain ⟨t733, A240, H⟩ := H
    replace H : (if t733 = true then ((frac_Right.f a1_0 a1_1 a1_2 a1_3).bind fun t734 => (cobweblaw02_FracTurned.j0 k (!t734) a0_0 a0_1 a0_2 a0_3 a1_0 a1_1 a1_2 a1_3 t725 t726 t729 t730)) else (cobweblaw02_FracTurned.j0 k true a0_0 a0_1 a0_2 a0_3 a1_0 a1_1 a1_2 a1_3 t725 t726 t729 t730)) = some r := H
    have A24 := Aside0.mk A240
    clear A240
    by_cases c25 : t733 = true
    rotate_left
    · replace c25 := Bool.eq_false_iff.mpr c25
      subst c25
      have H1 : (cobweblaw02_FracTurned.j0 k true a0_0 a0_1 a0_2 a0_3 a1_0 a1_1 a1_2 a1_3 t725 t726 t729 t730) = some r := by rw [if_neg (show ¬ (false = true) by decide)] at H; exact H
      clear H; have H := H1; clear H1
      have H' := Aside0.mk H
      clear H; have hnb36 := NB723_724.out; have hnc36 := NB724_723.out; have hnb37 := NB723_728.out; have hnc37 := NB728_723.out; have hnb38 := NB723_732.out; have hnc38 := NB732_723.out
      have hcz39_0 : w17.cell? ⟨gb723, 0, none⟩ = some (.int .i64 a0_0) := kc BK723 0
      have hcz39_1 : w17.cell? ⟨gb723, 1, none⟩ = some (.int .u64 a0_1) := kc BK723 1
      have hcz39_2 : w17.cell? ⟨gb723, 2, none⟩ = some (.int .i64 a0_2) := kc BK723 2
      have hcz39_3 : w17.cell? ⟨gb723, 3, none⟩ = some (.int .u64 a0_3) := kc BK723 3
      have hfz39_0 := blk_frozen BK723.out 0
      have hfz39_1 := blk_frozen BK723.out 1
      have hfz39_2 := blk_frozen BK723.out 2
      have hfz39_3 := blk_frozen BK723.out 3
      go_wp2_with (first | (go_at_call 20; (with_reducible refine (frac_Right.calls a0_0 a0_1 a0_2 a0_3 false _ A24.out).mono ?_); rintro e w40 ⟨rfl, hb⟩; have n0_ := kb BK723 hb; have n1_ := kb BK724 hb; have n2_ := kb BK728 hb; have n3_ := Aside0.mk (blk_below (g := gb732) (o := .cells #[.int .i64 t729, .int .u64 t730] 24 (0, 0)) (by (with_reducible repeat (first | refine blk_drewN ?_ _ | refine blk_drew ?_ | refine blk_alloc ?_ _)); refine blk_put (cs := #[.int .i64 t729, .int .u64 0]) ?_ 1 _ rfl; (with_reducible repeat (first | refine blk_drewN ?_ _ | refine blk_drew ?_ | refine blk_alloc ?_ _)); refine blk_put (cs := #[.int .i64 0, .int .u64 0]) ?_ 0 _ rfl; (with_reducible repeat (first | refine blk_drewN ?_ _ | refine blk_drew ?_ | refine blk_alloc ?_ _)); exact BK732.out) hb); have n4_ := kB HB hb; clear BK723; clear BK724; clear BK728; clear BK732; clear HB; have BK723 := n0_; have BK724 := n1_; have BK728 := n2_; have BK732 := n3_; have HB := n4_; clear n0_ n1_ n2_ n3_ n4_; (try clear hb); (try clear hb2); (try clear hk); (try clear hi)))
      go_meet
      case rel => exact ⟨_, (true), (by first | rfl | (simp; done) | (simp [*]; done)), H', ⟨by first | omega | exact Nat.le_refl _⟩, ⟨kx BK723⟩, ⟨kx BK724⟩, ⟨kx BK728⟩, ⟨kx BK732⟩, ⟨ky HB⟩⟩
    subst c25
    have H1 : ((frac_Right.f a1_0 a1_1 a1_2 a1_3).bind fun t734 => (cobweblaw02_FracTurned.j0 k (!t734) a0_0 a0_1 a0_2 a0_3 a1_0 a1_1 a1_2 a1_3 t725 t726 t729 t730)) = some r := by rw [if_pos rfl] at H; exact H
    clear H; have H := H1; clear H1
    replace H := Option.bind_eq_some_iff.mp H
    obtain ⟨t734, A260, H⟩ := H
    replace H : (cobweblaw02_FracTurned.j0 k (!t734) a0_0 a0_1 a0_2 a0_3 a1_0 a1_1 a1_2 a1_3 t725 t726 t729 t730) = some r := H
    have A26 := Aside0.mk A260
    clear A260
    have H' := Aside0.mk H
    clear H; have hnb27 := NB723_724.out; have hnc27 := NB724_723.out; have hnb28 := NB723_728.out; have hnc28 := NB728_723.out; have hnb29 := NB723_732.out; have hnc29 := NB732_723.out
    have hcz30_0 : w17.cell? ⟨gb723, 0, none⟩ = some (.int .i64 a0_0) := kc BK723 0
    have hcz30_1 : w17.cell? ⟨gb723, 1, none⟩ = some (.int .u64 a0_1) := kc BK723 1
    have hcz30_2 : w17.cell? ⟨gb723, 2, none⟩ = some (.int .i64 a0_2) := kc BK723 2
    have hcz30_3 : w17.cell? ⟨gb723, 3, none⟩ = some (.int .u64 a0_3) := kc BK723 3
    have hfz30_0 := blk_frozen BK723.out 0
    have hfz30_1 := blk_frozen BK723.out 1
    have hfz30_2 := blk_frozen BK723.out 2
    have hfz30_3 := blk_frozen BK723.out 3
    go_wp2_with (first | (go_at_call 20; (with_reducible refine (frac_Right.calls a0_0 a0_1 a0_2 a0_3 true _ A24.out).mono ?_); rintro e w31 ⟨rfl, hb⟩; have n0_ := kb BK723 hb; have n1_ := kb BK724 hb; have n2_ := kb BK728 hb; have n3_ := Aside0.mk (blk_below (g := gb732) (o := .cells #[.int .i64 t729, .int .u64 t730] 24 (0, 0)) (by (with_reducible repeat (first | refine blk_drewN ?_ _ | refine blk_drew ?_ | refine blk_alloc ?_ _)); refine blk_put (cs := #[.int .i64 t729, .int .u64 0]) ?_ 1 _ rfl; (with_reducible repeat (first | refine blk_drewN ?_ _ | refine blk_drew ?_ | refine blk_alloc ?_ _)); refine blk_put (cs := #[.int .i64 0, .int .u64 0]) ?_ 0 _ rfl; (with_reducible repeat (first | refine blk_drewN ?_ _ | refine blk_drew ?_ | refine blk_alloc ?_ _)); exact BK732.out) hb); have n4_ := kB HB hb; clear BK723; clear BK724; clear BK728; clear BK732; clear HB; have BK723 := n0_; have BK724 := n1_; have BK728 := n2_; have BK732 := n3_; have HB := n4_; clear n0_ n1_ n2_ n3_ n4_; (try clear hb); (try clear hb2); (try clear hk); (try clear hi); have hnb32 := NB724_728.out; have hnc32 := NB728_724.out; have hnb33 := NB724_732.out; have hnc33 := NB732_724.out; have hcz34_0 : w31.cell? ⟨gb724, 0, none⟩ = some (.int .i64 a1_0) := kc BK724 0; have hcz34_1 : w31.cell? ⟨gb724, 1, none⟩ = some (.int .u64 a1_1) := kc BK724 1; have hcz34_2 : w31.cell? ⟨gb724, 2, none⟩ = some (.int .i64 a1_2) := kc BK724 2; have hcz34_3 : w31.cell? ⟨gb724, 3, none⟩ = some (.int .u64 a1_3) := kc BK724 3; have hfz34_0 := blk_frozen BK724.out 0; have hfz34_1 := blk_frozen BK724.out 1; have hfz34_2 := blk_frozen BK724.out 2; have hfz34_3 := blk_frozen BK724.out 3) | (go_at_call 20; (with_reducible refine (frac_Right.calls a1_0 a1_1 a1_2 a1_3 t734 _ A26.out).mono ?_); rintro e w35 ⟨rfl, hb⟩; replace BK723 := kb BK723 hb; replace BK724 := kb BK724 hb; replace BK728 := kb BK728 hb; replace BK732 := kb BK732 hb; replace HB := kB HB hb; (try clear hb); (try clear hb2); (try clear hk); (try clear hi)))
    go_meet
    case rel => exact ⟨_, (!t734), (by first | rfl | (simp; done) | (simp [*]; done)), H', ⟨by first | omega | exact Nat.le_refl _⟩, ⟨kx BK723⟩, ⟨kx BK724⟩, ⟨kx BK728⟩, ⟨kx BK732⟩, ⟨ky HB⟩⟩
  case rest =>
    clear HC5; try clear c1; try clear c2; try clear p2; try clear c3; try clear c7; try clear c8; try clear c12; try clear c13; try clear c18; try clear c19; try clear c20; try clear c22; try clear c23; try clear c25; try clear c27; try clear c28; try clear c29; try clear c30; try clear c32; try clear c33; try clear c36; try clear c37; try clear c38; try clear hcz14_0; try clear hcz14_1; try clear hcz15_0; try clear hcz15_1; try clear hcz15_2; try clear hcz15_3; try clear hcz21_0; try clear hcz21_1; try clear hcz30_0; try clear hcz30_1; try clear hcz30_2; try clear hcz30_3; try clear hcz34_0; try clear hcz34_1; try clear hcz34_2; try clear hcz34_3; try clear hcz39_0; try clear hcz39_1; try clear hcz39_2; try clear hcz39_3; try clear hcz9_0; try clear hcz9_1; try clear hcz9_2; try clear hcz9_3; try clear hfz14_0; try clear hfz14_1; try clear hfz15_0; try clear hfz15_1; try clear hfz15_2; try clear hfz15_3; try clear hfz21_0; try clear hfz21_1; try clear hfz30_0; try clear hfz30_1; try clear hfz30_2; try clear hfz30_3; try clear hfz34_0; try clear hfz34_1; try clear hfz34_2; try clear hfz34_3; try clear hfz39_0; try clear hfz39_1; try clear hfz39_2; try clear hfz39_3; try clear hfz9_0; try clear hfz9_1; try clear hfz9_2; try clear hfz9_3
    obtain ⟨kq, x42_4, rfl, HA, HJ4, BK723, BK724, BK728, BK732, HB⟩ := hcut
    cases kq with
    | zero => exact absurd HA.out (by simp [cobweblaw02_FracTurned.j0])
    | succ kj4 =>
      have H := HA.out; clear HA
      simp only [cobweblaw02_FracTurned.j0] at H
      by_cases c41 : x42_4 = true
      · subst c41
        have H1 : ((cobweblaw02_alive.f kj4).bind fun t735 => (some t735)) = some r := by rw [if_pos rfl] at H; exact H
        clear H; have H := H1; clear H1
        replace H := Option.bind_eq_some_iff.mp H
        obtain ⟨t735, A420, H⟩ := H
        replace H : (some t735) = some r := H
        have A42 := Aside0.mk A420
        clear A420
        obtain rfl := Option.some.inj H
        go_wp2_with (first | ((with_reducible refine gate_callee (f := 16) rfl ?_); refine goesL_ (some 43) rfl rfl Try.func16 (by kernel_rfl) rfl #[] rfl (by (try simp only [List.map_toArray, List.map_cons, List.map_nil]); first | done | rfl | (simp only [List.length_drop, List.length_take]; rfl)) ?_; (with_reducible refine (cobweblaw02_alive.calls kj4  t735 _ A42.out).mono ?_); rintro e w43 ⟨rfl, hb⟩; refine ⟨_, rfl, ?_⟩; replace BK723 := kb BK723 hb; replace BK724 := kb BK724 hb; replace BK728 := kb BK728 hb; replace BK732 := kb BK732 hb; replace HB := kB HB hb; (try clear hb); (try clear hb2); (try clear hk); (try clear hi)))
        go_ret
        exact ⟨by first | rfl | (simp [errW_none, errW_some] <;> rfl) | (simp [*, errW_none, errW_some] <;> rfl), ky HB⟩
      replace c41 := Bool.eq_false_iff.mpr c41
      subst c41
      have H1 : ((frac_Cmp.f kj4 t725 t726 a0_2 a0_3 t729 t730 a1_2 a1_3).bind fun t738 => ((frac_Cmp.f kj4 a1_0 a1_1 a1_2 a1_3 a0_0 a0_1 a0_2 a0_3).bind fun t739 => (if t738 = t739 then ((frac_Floor.f kj4 t725 t726 a0_2 a0_3).bind fun bt740 => ((wide_Neg.f bt740.1 bt740.2).bind fun bt742 => ((wide_Of.f 1).bind fun bt746 => ((wide_Sub.f bt742.1 bt742.2.1 bt746.1 bt746.2).bind fun bt748 => (if bt742.2.2 = true then (cobweblaw02_FracTurned.j1 kj4 (!bt748.2.2) a0_0 a0_1 a0_2 a0_3 bt742.1 bt742.2.1 bt748.1 bt748.2.1) else (cobweblaw02_FracTurned.j1 kj4 true a0_0 a0_1 a0_2 a0_3 bt742.1 bt742.2.1 bt748.1 bt748.2.1)))))) else (some false)))) = some r := by rw [if_neg (show ¬ (false = true) by decide)] at H; exact H
      clear H; have H := H1; clear H1
      replace H := Option.bind_eq_some_iff.mp H
      obtain ⟨t738, A440, H⟩ := H
      replace H : ((frac_Cmp.f kj4 a1_0 a1_1 a1_2 a1_3 a0_0 a0_1 a0_2 a0_3).bind fun t739 => (if t738 = t739 then ((frac_Floor.f kj4 t725 t726 a0_2 a0_3).bind fun bt740 => ((wide_Neg.f bt740.1 bt740.2).bind fun bt742 => ((wide_Of.f 1).bind fun bt746 => ((wide_Sub.f bt742.1 bt742.2.1 bt746.1 bt746.2).bind fun bt748 => (if bt742.2.2 = true then (cobweblaw02_FracTurned.j1 kj4 (!bt748.2.2) a0_0 a0_1 a0_2 a0_3 bt742.1 bt742.2.1 bt748.1 bt748.2.1) else (cobweblaw02_FracTurned.j1 kj4 true a0_0 a0_1 a0_2 a0_3 bt742.1 bt742.2.1 bt748.1 bt748.2.1)))))) else (some false))) = some r := H
      have A44 := Aside0.mk A440
      clear A440
      replace H := Option.bind_eq_some_iff.mp H
      obtain ⟨t739, A450, H⟩ := H
      replace H : (if t738 = t739 then ((frac_Floor.f kj4 t725 t726 a0_2 a0_3).bind fun bt740 => ((wide_Neg.f bt740.1 bt740.2).bind fun bt742 => ((wide_Of.f 1).bind fun bt746 => ((wide_Sub.f bt742.1 bt742.2.1 bt746.1 bt746.2).bind fun bt748 => (if bt742.2.2 = true then (cobweblaw02_FracTurned.j1 kj4 (!bt748.2.2) a0_0 a0_1 a0_2 a0_3 bt742.1 bt742.2.1 bt748.1 bt748.2.1) else (cobweblaw02_FracTurned.j1 kj4 true a0_0 a0_1 a0_2 a0_3 bt742.1 bt742.2.1 bt748.1 bt748.2.1)))))) else (some false)) = some r := H
      have A45 := Aside0.mk A450
      clear A450
      by_cases c46 : t738 = t739
      rotate_left
      · rw [if_neg c46] at H
        have c46b0 : (t738 == t739) = false := beq_eq_false_iff_ne.mpr c46
        have c46b1 : (t738 != t739) = true := bne_iff_ne.mpr c46
        obtain rfl := Option.some.inj H
        try go_wp2
        replace BK723 := Aside0.mk (blk_drew BK723.out)
        replace BK724 := Aside0.mk (blk_drew BK724.out)
        replace BK728 := Aside0.mk (blk_drew BK728.out)
        replace BK732 := Aside0.mk (blk_drew BK732.out)
        replace HB := Aside0.mk (below_drew1 HB.out)
        refine start_ (n := 12) (S := fun w' => w'.cell? ⟨gb728, 0, none⟩ = some (.int .i64 t725) ∧ w'.cell? ⟨gb728, 1, none⟩ = some (.int .u64 t726) ∧ w'.cell? ⟨gb723, 0, none⟩ = some (.int .i64 a0_0) ∧ w'.cell? ⟨gb723, 1, none⟩ = some (.int .u64 a0_1) ∧ w'.cell? ⟨gb723, 2, none⟩ = some (.int .i64 a0_2) ∧ w'.cell? ⟨gb723, 3, none⟩ = some (.int .u64 a0_3) ∧ w'.cell? ⟨gb732, 0, none⟩ = some (.int .i64 t729) ∧ w'.cell? ⟨gb732, 1, none⟩ = some (.int .u64 t730) ∧ w'.cell? ⟨gb724, 0, none⟩ = some (.int .i64 a1_0) ∧ w'.cell? ⟨gb724, 1, none⟩ = some (.int .u64 a1_1) ∧ w'.cell? ⟨gb724, 2, none⟩ = some (.int .i64 a1_2) ∧ w'.cell? ⟨gb724, 3, none⟩ = some (.int .u64 a1_3)) (ds := []) #[O, O, O, O, O, O, O, O, O, O, O, O] (by kernel_rfl) rfl rfl ⟨kc BK728 0, kc BK728 1, kc BK723 0, kc BK723 1, kc BK723 2, kc BK723 3, kc BK732 0, kc BK732 1, kc BK724 0, kc BK724 1, kc BK724 2, kc BK724 3⟩ (fun hHeld => ?_); refine with_tabW cobweblaw02_FracTurned.tab5 cobweblaw02_FracTurned.bits5 (fun HT_ HW_ => ?_)
        generalize wc.drew = w109 at BK723 BK724 BK728 BK732 HB hHeld ⊢
        refine pure_ (i := 1) (N := some 45) (v := ?_) (a' := ?_) #[O, T, O, O, O, O, O, O, O, O, O, O] rfl rfl (any_of HT_.out (by kernel_rfl)) (fun _ _ _ h => h) (Or.inl ⟨by rfl, ?_⟩) ?_ ?_; rotate_left; focus (intro w'; go_simp; with_reducible rfl)
        rotate_left; focus (simp only [Act.put, s1, s2, s3, i64_w, i32_w]; rfl)
        refine pure_ (i := 5) (N := some 49) (v := ?_) (a' := ?_) #[O, T, O, O, O, T, O, O, O, O, O, O] rfl rfl (any_of HT_.out (by kernel_rfl)) (fun _ _ _ h => h) (Or.inl ⟨by rfl, ?_⟩) ?_ ?_; rotate_left; focus (intro w'; go_simp; with_reducible rfl)
        rotate_left; focus (simp only [Act.put, s1, s2, s3, i64_w, i32_w]; rfl)
        refine take_ (i := 0) (N := some 44) (v := ?_) (a' := ?_) #[T, T, O, O, O, T, O, O, O, O, O, O] rfl rfl (take_ofW HT_.out HW_.out (by kernel_rfl)) (fun _ _ _ h => h) (Or.inl ⟨by rfl, ?_⟩) hHeld ?_ ?_; rotate_left; focus (rintro w' ⟨s0, s1, s2, s3, s4, s5, s6, s7, s8, s9, s10, s11⟩; go_simp; with_reducible rfl)
        rotate_left; focus (simp only [Act.put, s1, s2, s3, i64_w, i32_w]; rfl)
        refine take_ (i := 2) (N := some 46) (v := ?_) (a' := ?_) #[T, T, T, O, O, T, O, O, O, O, O, O] rfl rfl (take_ofW HT_.out HW_.out (by kernel_rfl)) (fun _ _ _ h => h) (Or.inl ⟨by rfl, ?_⟩) hHeld ?_ ?_; rotate_left; focus (rintro w' ⟨s0, s1, s2, s3, s4, s5, s6, s7, s8, s9, s10, s11⟩; go_simp; with_reducible rfl)
        rotate_left; focus (simp only [Act.put, s1, s2, s3, i64_w, i32_w]; rfl)
        refine pure_ (i := 3) (N := some 47) (v := ?_) (a' := ?_) #[T, T, T, T, O, T, O, O, O, O, O, O] rfl rfl (any_of HT_.out (by kernel_rfl)) (fun _ _ _ h => h) (Or.inl ⟨by rfl, ?_⟩) ?_ ?_; rotate_left; focus (intro w'; go_simp; with_reducible rfl)
        rotate_left; focus (simp only [Act.put, s1, s2, s3, i64_w, i32_w]; rfl)
        refine take_ (i := 4) (N := some 48) (v := ?_) (a' := ?_) #[T, T, T, T, T, T, O, O, O, O, O, O] rfl rfl (take_ofW HT_.out HW_.out (by kernel_rfl)) (fun _ _ _ h => h) (Or.inl ⟨by rfl, ?_⟩) hHeld ?_ ?_; rotate_left; focus (rintro w' ⟨s0, s1, s2, s3, s4, s5, s6, s7, s8, s9, s10, s11⟩; go_simp; with_reducible rfl)
        rotate_left; focus (simp only [Act.put, s1, s2, s3, i64_w, i32_w]; rfl)
        refine take_ (i := 6) (N := some 50) (v := ?_) (a' := ?_) #[T, T, T, T, T, T, T, O, O, O, O, O] rfl rfl (take_ofW HT_.out HW_.out (by kernel_rfl)) (fun _ _ _ h => h) (Or.inl ⟨by rfl, ?_⟩) hHeld ?_ ?_; rotate_left; focus (rintro w' ⟨s0, s1, s2, s3, s4, s5, s6, s7, s8, s9, s10, s11⟩; go_simp; with_reducible rfl)
        rotate_left; focus (simp only [Act.put, s1, s2, s3, i64_w, i32_w]; rfl)
        refine pure_ (i := 7) (N := some 51) (v := ?_) (a' := ?_) #[T, T, T, T, T, T, T, T, O, O, O, O] rfl rfl (any_of HT_.out (by kernel_rfl)) (fun _ _ _ h => h) (Or.inl ⟨by rfl, ?_⟩) ?_ ?_; rotate_left; focus (intro w'; go_simp; with_reducible rfl)
        rotate_left; focus (simp only [Act.put, s1, s2, s3, i64_w, i32_w]; rfl)
        refine join_ (σ := Nat × Nat) 2 #[T, T, T, T, T, T, T, T, T, T, O, O] (fun s_ => [(9, .pointer (some ⟨s_.1, 0, none⟩)), (10, .pointer (some ⟨s_.2, 0, none⟩))]) (fun s_ w' => (w'.cell? ⟨gb728, 0, none⟩ = some (.int .i64 t725) ∧ w'.cell? ⟨gb728, 1, none⟩ = some (.int .u64 t726) ∧ w'.cell? ⟨gb723, 0, none⟩ = some (.int .i64 a0_0) ∧ w'.cell? ⟨gb723, 1, none⟩ = some (.int .u64 a0_1) ∧ w'.cell? ⟨gb723, 2, none⟩ = some (.int .i64 a0_2) ∧ w'.cell? ⟨gb723, 3, none⟩ = some (.int .u64 a0_3) ∧ w'.cell? ⟨gb732, 0, none⟩ = some (.int .i64 t729) ∧ w'.cell? ⟨gb732, 1, none⟩ = some (.int .u64 t730) ∧ w'.cell? ⟨gb724, 0, none⟩ = some (.int .i64 a1_0) ∧ w'.cell? ⟨gb724, 1, none⟩ = some (.int .u64 a1_1) ∧ w'.cell? ⟨gb724, 2, none⟩ = some (.int .i64 a1_2) ∧ w'.cell? ⟨gb724, 3, none⟩ = some (.int .u64 a1_3)) ∧ (w'.heap[gb723]? = some (.cells #[.int .i64 a0_0, .int .u64 a0_1, .int .i64 a0_2, .int .u64 a0_3] 26 (0, 0))) ∧ (w'.heap[gb724]? = some (.cells #[.int .i64 a1_0, .int .u64 a1_1, .int .i64 a1_2, .int .u64 a1_3] 26 (0, 0))) ∧ (w'.heap[gb728]? = some (.cells #[.int .i64 t725, .int .u64 t726] 24 (0, 0))) ∧ (w'.heap[gb732]? = some (.cells #[.int .i64 t729, .int .u64 t730] 24 (0, 0))) ∧ (w'.heap[s_.1]? = some (.cells #[.int .i64 0, .int .u64 0, .int .i64 0, .int .u64 0] 26 (0, 0))) ∧ (w'.heap[s_.2]? = some (.cells #[.int .i64 0, .int .u64 0, .int .i64 0, .int .u64 0] 26 (0, 0))) ∧ (w.heap.size ≤ s_.1) ∧ (w.heap.size ≤ s_.1) ∧ (gb723 ≠ s_.1) ∧ (s_.1 ≠ gb723) ∧ (gb724 ≠ s_.1) ∧ (s_.1 ≠ gb724) ∧ (gb728 ≠ s_.1) ∧ (s_.1 ≠ gb728) ∧ (gb732 ≠ s_.1) ∧ (s_.1 ≠ gb732) ∧ (s_.2 ≠ s_.1) ∧ (s_.1 ≠ s_.2) ∧ (w.heap.size ≤ s_.2) ∧ (w.heap.size ≤ s_.2) ∧ (gb723 ≠ s_.2) ∧ (s_.2 ≠ gb723) ∧ (gb724 ≠ s_.2) ∧ (s_.2 ≠ gb724) ∧ (gb728 ≠ s_.2) ∧ (s_.2 ≠ gb728) ∧ (gb732 ≠ s_.2) ∧ (s_.2 ≠ gb732) ∧ (Below w.heap.size w w')) ?_ ?_
        rotate_left
        · intro hCont
          refine two_ (i := 8) (j := 9) (Ni := some 9) (Nj := some 10) #[T, T, T, T, T, T, T, T, T, O, O, O] #[T, T, T, T, T, T, T, T, O, T, O, O] rfl rfl rfl rfl (two_of HT_.out (by kernel_rfl)) (by decide) (by decide) (fun K hK => ?_) (fun K hK => ?_)
          · skip
            refine box_step ?hg (N := 9) ?hd (cs := #[.int .i64 0, .int .u64 0, .int .i64 0, .int .u64 0]) (t := 26) ?hr ?_; (case hd => rfl); (case hg => rfl); (case hr => first | (go_simp; done) | (go_simp; rfl))
            intro gb736 hg w110 hbox hb
            have BK736 := Aside0.mk (hbox)
            have GW736 := kS HB hg
            have GE736 := kS HB hg
            have NB723_736 := kN BK723 hg
            have NB736_723 := kM BK723 hg
            have NB724_736 := kN BK724 hg
            have NB736_724 := kM BK724 hg
            have NB728_736 := kN BK728 hg
            have NB736_728 := kM BK728 hg
            have NB732_736 := kN BK732 hg
            have NB736_732 := kM BK732 hg
            replace BK723 := kb BK723 hb
            replace BK724 := kb BK724 hb
            replace BK728 := kb BK728 hb
            replace BK732 := kb BK732 hb
            replace HB := kB HB hb
            clear hb hbox hg
            refine hK.out _ _ ⟨kc BK728 0, kc BK728 1, kc BK723 0, kc BK723 1, kc BK723 2, kc BK723 3, kc BK732 0, kc BK732 1, kc BK724 0, kc BK724 1, kc BK724 2, kc BK724 3⟩ (fun hHeld => ?_)
            clear hK K
            refine norm_ (a' := ?_) ?_ ?_; rotate_left; focus (show Act.put _ (some 9) _ = _; simp only [Act.put, s1, s2, s3, i64_w, i32_w]; rfl)
            refine one_ (i := 9) (N := some 10) #[T, T, T, T, T, T, T, T, T, T, O, O] rfl rfl (one_of HT_.out (by kernel_rfl)) (by decide) (fun K hK => ?_)
            refine box_step ?hg (N := 10) ?hd (cs := #[.int .i64 0, .int .u64 0, .int .i64 0, .int .u64 0]) (t := 26) ?hr ?_; (case hd => rfl); (case hg => rfl); (case hr => first | (go_simp; done) | (go_simp; rfl))
            intro gb737 hg w111 hbox hb
            have BK737 := Aside0.mk (hbox)
            have GW737 := kS HB hg
            have GE737 := kS HB hg
            have NB723_737 := kN BK723 hg
            have NB737_723 := kM BK723 hg
            have NB724_737 := kN BK724 hg
            have NB737_724 := kM BK724 hg
            have NB728_737 := kN BK728 hg
            have NB737_728 := kM BK728 hg
            have NB732_737 := kN BK732 hg
            have NB737_732 := kM BK732 hg
            have NB736_737 := kN BK736 hg
            have NB737_736 := kM BK736 hg
            replace BK723 := kb BK723 hb
            replace BK724 := kb BK724 hb
            replace BK728 := kb BK728 hb
            replace BK732 := kb BK732 hb
            replace BK736 := kb BK736 hb
            replace HB := kB HB hb
            clear hb hbox hg
            refine hK.out _ _ ⟨kc BK728 0, kc BK728 1, kc BK723 0, kc BK723 1, kc BK723 2, kc BK723 3, kc BK732 0, kc BK732 1, kc BK724 0, kc BK724 1, kc BK724 2, kc BK724 3⟩ (fun hHeld => ?_)
            clear hK K
            refine norm_ (a' := ?_) ?_ ?_; rotate_left; focus (show Act.put _ (some 10) _ = _; simp only [Act.put, s1, s2, s3, i64_w, i32_w]; rfl)
            exact norm_ (by simp only [putAll, Act.put, s1, s2, s3]) (hCont (gb736, gb737) _ ⟨hHeld, (kx BK723), (kx BK724), (kx BK728), (kx BK732), (kx BK736), (kx BK737), GW736.out, GE736.out, NB723_736.out, NB736_723.out, NB724_736.out, NB736_724.out, NB728_736.out, NB736_728.out, NB732_736.out, NB736_732.out, NB737_736.out, NB736_737.out, GW737.out, GE737.out, NB723_737.out, NB737_723.out, NB724_737.out, NB737_724.out, NB728_737.out, NB737_728.out, NB732_737.out, NB737_732.out, (ky HB)⟩)
          · skip
            refine box_step ?hg (N := 10) ?hd (cs := #[.int .i64 0, .int .u64 0, .int .i64 0, .int .u64 0]) (t := 26) ?hr ?_; (case hd => rfl); (case hg => rfl); (case hr => first | (go_simp; done) | (go_simp; rfl))
            intro gb737 hg w110 hbox hb
            have BK737 := Aside0.mk (hbox)
            have GW737 := kS HB hg
            have GE737 := kS HB hg
            have NB723_737 := kN BK723 hg
            have NB737_723 := kM BK723 hg
            have NB724_737 := kN BK724 hg
            have NB737_724 := kM BK724 hg
            have NB728_737 := kN BK728 hg
            have NB737_728 := kM BK728 hg
            have NB732_737 := kN BK732 hg
            have NB737_732 := kM BK732 hg
            replace BK723 := kb BK723 hb
            replace BK724 := kb BK724 hb
            replace BK728 := kb BK728 hb
            replace BK732 := kb BK732 hb
            replace HB := kB HB hb
            clear hb hbox hg
            refine hK.out _ _ ⟨kc BK728 0, kc BK728 1, kc BK723 0, kc BK723 1, kc BK723 2, kc BK723 3, kc BK732 0, kc BK732 1, kc BK724 0, kc BK724 1, kc BK724 2, kc BK724 3⟩ (fun hHeld => ?_)
            clear hK K
            refine norm_ (a' := ?_) ?_ ?_; rotate_left; focus (show Act.put _ (some 10) _ = _; simp only [Act.put, s1, s2, s3, i64_w, i32_w]; rfl)
            refine one_ (i := 8) (N := some 9) #[T, T, T, T, T, T, T, T, T, T, O, O] rfl rfl (one_of HT_.out (by kernel_rfl)) (by decide) (fun K hK => ?_)
            refine box_step ?hg (N := 9) ?hd (cs := #[.int .i64 0, .int .u64 0, .int .i64 0, .int .u64 0]) (t := 26) ?hr ?_; (case hd => rfl); (case hg => rfl); (case hr => first | (go_simp; done) | (go_simp; rfl))
            intro gb736 hg w111 hbox hb
            have BK736 := Aside0.mk (hbox)
            have GW736 := kS HB hg
            have GE736 := kS HB hg
            have NB723_736 := kN BK723 hg
            have NB736_723 := kM BK723 hg
            have NB724_736 := kN BK724 hg
            have NB736_724 := kM BK724 hg
            have NB728_736 := kN BK728 hg
            have NB736_728 := kM BK728 hg
            have NB732_736 := kN BK732 hg
            have NB736_732 := kM BK732 hg
            have NB737_736 := kN BK737 hg
            have NB736_737 := kM BK737 hg
            replace BK723 := kb BK723 hb
            replace BK724 := kb BK724 hb
            replace BK728 := kb BK728 hb
            replace BK732 := kb BK732 hb
            replace BK737 := kb BK737 hb
            replace HB := kB HB hb
            clear hb hbox hg
            refine hK.out _ _ ⟨kc BK728 0, kc BK728 1, kc BK723 0, kc BK723 1, kc BK723 2, kc BK723 3, kc BK732 0, kc BK732 1, kc BK724 0, kc BK724 1, kc BK724 2, kc BK724 3⟩ (fun hHeld => ?_)
            clear hK K
            refine norm_ (a' := ?_) ?_ ?_; rotate_left; focus (show Act.put _ (some 9) _ = _; simp only [Act.put, s1, s2, s3, i64_w, i32_w]; rfl)
            exact norm_ (by simp only [putAll, Act.put, s1, s2, s3]) (hCont (gb736, gb737) _ ⟨hHeld, (kx BK723), (kx BK724), (kx BK728), (kx BK732), (kx BK736), (kx BK737), GW736.out, GE736.out, NB723_736.out, NB736_723.out, NB724_736.out, NB736_724.out, NB728_736.out, NB736_728.out, NB732_736.out, NB736_732.out, NB737_736.out, NB736_737.out, GW737.out, GE737.out, NB723_737.out, NB737_723.out, NB724_737.out, NB737_724.out, NB728_737.out, NB737_728.out, NB732_737.out, NB737_732.out, (ky HB)⟩)
        rintro ⟨gb736, gb737⟩ w112 ⟨hS_, h0_, h1_, h2_, h3_, h4_, h5_, h6_, h7_, h8_, h9_, h10_, h11_, h12_, h13_, h14_, h15_, h16_, h17_, h18_, h19_, h20_, h21_, h22_, h23_, h24_, h25_, h26_, h27_, h28_⟩
        clear BK723 BK724 BK728 BK732 HB
        have BK723 := A0 h0_; have BK724 := A0 h1_; have BK728 := A0 h2_; have BK732 := A0 h3_; have BK736 := A0 h4_; have BK737 := A0 h5_; have GW736 := A0 h6_; have GE736 := A0 h7_; have NB723_736 := A0 h8_; have NB736_723 := A0 h9_; have NB724_736 := A0 h10_; have NB736_724 := A0 h11_; have NB728_736 := A0 h12_; have NB736_728 := A0 h13_; have NB732_736 := A0 h14_; have NB736_732 := A0 h15_; have NB737_736 := A0 h16_; have NB736_737 := A0 h17_; have GW737 := A0 h18_; have GE737 := A0 h19_; have NB723_737 := A0 h20_; have NB737_723 := A0 h21_; have NB724_737 := A0 h22_; have NB737_724 := A0 h23_; have NB728_737 := A0 h24_; have NB737_728 := A0 h25_; have NB732_737 := A0 h26_; have NB737_732 := A0 h27_; have HB := A0 h28_
        clear h0_ h1_ h2_ h3_ h4_ h5_ h6_ h7_ h8_ h9_ h10_ h11_ h12_ h13_ h14_ h15_ h16_ h17_ h18_ h19_ h20_ h21_ h22_ h23_ h24_ h25_ h26_ h27_ h28_
        have hHeld := hS_
        refine norm_ (a' := ?_) ?_ ?_; rotate_left; focus (simp only [putAll, Act.put, s1, s2, s3]; rfl)
        refine one_ (i := 10) (N := none) #[T, T, T, T, T, T, T, T, T, T, T, O] rfl rfl (one_of HT_.out (by kernel_rfl)) (by decide) (fun K hK => ?_)
        have hs113 : w112.cell? ⟨gb736, 0, none⟩ = some (.int .i64 0) := kc BK736 0
        have hfs113 := blk_frozen BK736.out 0
        have hns113_0 := NB723_736.out; have hns113_1 := NB724_736.out; have hns113_2 := NB728_736.out; have hns113_3 := NB732_736.out; have hns113_5 := NB737_736.out; have hms113_0 := NB736_723.out; have hms113_1 := NB736_724.out; have hms113_2 := NB736_728.out; have hms113_3 := NB736_732.out; have hms113_5 := NB736_737.out
        have hs114 : w112.cell? ⟨gb736, 1, none⟩ = some (.int .u64 0) := kc BK736 1
        have hfs114 := blk_frozen BK736.out 1
        have hns114_0 := NB723_736.out; have hns114_1 := NB724_736.out; have hns114_2 := NB728_736.out; have hns114_3 := NB732_736.out; have hns114_5 := NB737_736.out; have hms114_0 := NB736_723.out; have hms114_1 := NB736_724.out; have hms114_2 := NB736_728.out; have hms114_3 := NB736_732.out; have hms114_5 := NB736_737.out
        have hs115 : w112.cell? ⟨gb736, 2, none⟩ = some (.int .i64 0) := kc BK736 2
        have hfs115 := blk_frozen BK736.out 2
        have hns115_0 := NB723_736.out; have hns115_1 := NB724_736.out; have hns115_2 := NB728_736.out; have hns115_3 := NB732_736.out; have hns115_5 := NB737_736.out; have hms115_0 := NB736_723.out; have hms115_1 := NB736_724.out; have hms115_2 := NB736_728.out; have hms115_3 := NB736_732.out; have hms115_5 := NB736_737.out
        have hs116 : w112.cell? ⟨gb736, 3, none⟩ = some (.int .u64 0) := kc BK736 3
        have hfs116 := blk_frozen BK736.out 3
        have hns116_0 := NB723_736.out; have hns116_1 := NB724_736.out; have hns116_2 := NB728_736.out; have hns116_3 := NB732_736.out; have hns116_5 := NB737_736.out; have hms116_0 := NB736_723.out; have hms116_1 := NB736_724.out; have hms116_2 := NB736_728.out; have hms116_3 := NB736_732.out; have hms116_5 := NB736_737.out
        refine skip_ (w1 := ?_) (by rfl) rfl ?_ ?_
        rotate_left
        · go_simp
          rfl
        refine hK.out _ _ ⟨((cell_far (p := ⟨gb736, _, none⟩) NB728_736.out _).trans (((cell_far (p := ⟨gb736, _, none⟩) NB728_736.out _).trans (((cell_far (p := ⟨gb736, _, none⟩) NB728_736.out _).trans (((cell_far (p := ⟨gb736, _, none⟩) NB728_736.out _).trans (hHeld.1)))))))), ((cell_far (p := ⟨gb736, _, none⟩) NB728_736.out _).trans (((cell_far (p := ⟨gb736, _, none⟩) NB728_736.out _).trans (((cell_far (p := ⟨gb736, _, none⟩) NB728_736.out _).trans (((cell_far (p := ⟨gb736, _, none⟩) NB728_736.out _).trans (hHeld.2.1)))))))), ((cell_far (p := ⟨gb736, _, none⟩) NB723_736.out _).trans (((cell_far (p := ⟨gb736, _, none⟩) NB723_736.out _).trans (((cell_far (p := ⟨gb736, _, none⟩) NB723_736.out _).trans (((cell_far (p := ⟨gb736, _, none⟩) NB723_736.out _).trans (hHeld.2.2.1)))))))), ((cell_far (p := ⟨gb736, _, none⟩) NB723_736.out _).trans (((cell_far (p := ⟨gb736, _, none⟩) NB723_736.out _).trans (((cell_far (p := ⟨gb736, _, none⟩) NB723_736.out _).trans (((cell_far (p := ⟨gb736, _, none⟩) NB723_736.out _).trans (hHeld.2.2.2.1)))))))), ((cell_far (p := ⟨gb736, _, none⟩) NB723_736.out _).trans (((cell_far (p := ⟨gb736, _, none⟩) NB723_736.out _).trans (((cell_far (p := ⟨gb736, _, none⟩) NB723_736.out _).trans (((cell_far (p := ⟨gb736, _, none⟩) NB723_736.out _).trans (hHeld.2.2.2.2.1)))))))), ((cell_far (p := ⟨gb736, _, none⟩) NB723_736.out _).trans (((cell_far (p := ⟨gb736, _, none⟩) NB723_736.out _).trans (((cell_far (p := ⟨gb736, _, none⟩) NB723_736.out _).trans (((cell_far (p := ⟨gb736, _, none⟩) NB723_736.out _).trans (hHeld.2.2.2.2.2.1)))))))), ((cell_far (p := ⟨gb736, _, none⟩) NB732_736.out _).trans (((cell_far (p := ⟨gb736, _, none⟩) NB732_736.out _).trans (((cell_far (p := ⟨gb736, _, none⟩) NB732_736.out _).trans (((cell_far (p := ⟨gb736, _, none⟩) NB732_736.out _).trans (hHeld.2.2.2.2.2.2.1)))))))), ((cell_far (p := ⟨gb736, _, none⟩) NB732_736.out _).trans (((cell_far (p := ⟨gb736, _, none⟩) NB732_736.out _).trans (((cell_far (p := ⟨gb736, _, none⟩) NB732_736.out _).trans (((cell_far (p := ⟨gb736, _, none⟩) NB732_736.out _).trans (hHeld.2.2.2.2.2.2.2.1)))))))), ((cell_far (p := ⟨gb736, _, none⟩) NB724_736.out _).trans (((cell_far (p := ⟨gb736, _, none⟩) NB724_736.out _).trans (((cell_far (p := ⟨gb736, _, none⟩) NB724_736.out _).trans (((cell_far (p := ⟨gb736, _, none⟩) NB724_736.out _).trans (hHeld.2.2.2.2.2.2.2.2.1)))))))), ((cell_far (p := ⟨gb736, _, none⟩) NB724_736.out _).trans (((cell_far (p := ⟨gb736, _, none⟩) NB724_736.out _).trans (((cell_far (p := ⟨gb736, _, none⟩) NB724_736.out _).trans (((cell_far (p := ⟨gb736, _, none⟩) NB724_736.out _).trans (hHeld.2.2.2.2.2.2.2.2.2.1)))))))), ((cell_far (p := ⟨gb736, _, none⟩) NB724_736.out _).trans (((cell_far (p := ⟨gb736, _, none⟩) NB724_736.out _).trans (((cell_far (p := ⟨gb736, _, none⟩) NB724_736.out _).trans (((cell_far (p := ⟨gb736, _, none⟩) NB724_736.out _).trans (hHeld.2.2.2.2.2.2.2.2.2.2.1)))))))), ((cell_far (p := ⟨gb736, _, none⟩) NB724_736.out _).trans (((cell_far (p := ⟨gb736, _, none⟩) NB724_736.out _).trans (((cell_far (p := ⟨gb736, _, none⟩) NB724_736.out _).trans (((cell_far (p := ⟨gb736, _, none⟩) NB724_736.out _).trans (hHeld.2.2.2.2.2.2.2.2.2.2.2))))))))⟩ (fun hHeld => ?_)
        clear hK K
        refine one_ (i := 11) (N := none) #[T, T, T, T, T, T, T, T, T, T, T, T] rfl rfl (one_of HT_.out (by kernel_rfl)) (by decide) (fun K hK => ?_)
        have hs117 : w112.cell? ⟨gb737, 0, none⟩ = some (.int .i64 0) := kc BK737 0
        have hfs117 := blk_frozen BK737.out 0
        have hns117_0 := NB723_737.out; have hns117_1 := NB724_737.out; have hns117_2 := NB728_737.out; have hns117_3 := NB732_737.out; have hns117_4 := NB736_737.out; have hms117_0 := NB737_723.out; have hms117_1 := NB737_724.out; have hms117_2 := NB737_728.out; have hms117_3 := NB737_732.out; have hms117_4 := NB737_736.out
        have hs118 : w112.cell? ⟨gb737, 1, none⟩ = some (.int .u64 0) := kc BK737 1
        have hfs118 := blk_frozen BK737.out 1
        have hns118_0 := NB723_737.out; have hns118_1 := NB724_737.out; have hns118_2 := NB728_737.out; have hns118_3 := NB732_737.out; have hns118_4 := NB736_737.out; have hms118_0 := NB737_723.out; have hms118_1 := NB737_724.out; have hms118_2 := NB737_728.out; have hms118_3 := NB737_732.out; have hms118_4 := NB737_736.out
        have hs119 : w112.cell? ⟨gb737, 2, none⟩ = some (.int .i64 0) := kc BK737 2
        have hfs119 := blk_frozen BK737.out 2
        have hns119_0 := NB723_737.out; have hns119_1 := NB724_737.out; have hns119_2 := NB728_737.out; have hns119_3 := NB732_737.out; have hns119_4 := NB736_737.out; have hms119_0 := NB737_723.out; have hms119_1 := NB737_724.out; have hms119_2 := NB737_728.out; have hms119_3 := NB737_732.out; have hms119_4 := NB737_736.out
        have hs120 : w112.cell? ⟨gb737, 3, none⟩ = some (.int .u64 0) := kc BK737 3
        have hfs120 := blk_frozen BK737.out 3
        have hns120_0 := NB723_737.out; have hns120_1 := NB724_737.out; have hns120_2 := NB728_737.out; have hns120_3 := NB732_737.out; have hns120_4 := NB736_737.out; have hms120_0 := NB737_723.out; have hms120_1 := NB737_724.out; have hms120_2 := NB737_728.out; have hms120_3 := NB737_732.out; have hms120_4 := NB737_736.out
        refine skip_ (w1 := ?_) (by rfl) rfl ?_ ?_
        rotate_left
        · go_simp
          rfl
        refine hK.out _ _ ⟨((cell_far (p := ⟨gb737, _, none⟩) NB728_737.out _).trans (((cell_far (p := ⟨gb737, _, none⟩) NB728_737.out _).trans (((cell_far (p := ⟨gb737, _, none⟩) NB728_737.out _).trans (((cell_far (p := ⟨gb737, _, none⟩) NB728_737.out _).trans (hHeld.1)))))))), ((cell_far (p := ⟨gb737, _, none⟩) NB728_737.out _).trans (((cell_far (p := ⟨gb737, _, none⟩) NB728_737.out _).trans (((cell_far (p := ⟨gb737, _, none⟩) NB728_737.out _).trans (((cell_far (p := ⟨gb737, _, none⟩) NB728_737.out _).trans (hHeld.2.1)))))))), ((cell_far (p := ⟨gb737, _, none⟩) NB723_737.out _).trans (((cell_far (p := ⟨gb737, _, none⟩) NB723_737.out _).trans (((cell_far (p := ⟨gb737, _, none⟩) NB723_737.out _).trans (((cell_far (p := ⟨gb737, _, none⟩) NB723_737.out _).trans (hHeld.2.2.1)))))))), ((cell_far (p := ⟨gb737, _, none⟩) NB723_737.out _).trans (((cell_far (p := ⟨gb737, _, none⟩) NB723_737.out _).trans (((cell_far (p := ⟨gb737, _, none⟩) NB723_737.out _).trans (((cell_far (p := ⟨gb737, _, none⟩) NB723_737.out _).trans (hHeld.2.2.2.1)))))))), ((cell_far (p := ⟨gb737, _, none⟩) NB723_737.out _).trans (((cell_far (p := ⟨gb737, _, none⟩) NB723_737.out _).trans (((cell_far (p := ⟨gb737, _, none⟩) NB723_737.out _).trans (((cell_far (p := ⟨gb737, _, none⟩) NB723_737.out _).trans (hHeld.2.2.2.2.1)))))))), ((cell_far (p := ⟨gb737, _, none⟩) NB723_737.out _).trans (((cell_far (p := ⟨gb737, _, none⟩) NB723_737.out _).trans (((cell_far (p := ⟨gb737, _, none⟩) NB723_737.out _).trans (((cell_far (p := ⟨gb737, _, none⟩) NB723_737.out _).trans (hHeld.2.2.2.2.2.1)))))))), ((cell_far (p := ⟨gb737, _, none⟩) NB732_737.out _).trans (((cell_far (p := ⟨gb737, _, none⟩) NB732_737.out _).trans (((cell_far (p := ⟨gb737, _, none⟩) NB732_737.out _).trans (((cell_far (p := ⟨gb737, _, none⟩) NB732_737.out _).trans (hHeld.2.2.2.2.2.2.1)))))))), ((cell_far (p := ⟨gb737, _, none⟩) NB732_737.out _).trans (((cell_far (p := ⟨gb737, _, none⟩) NB732_737.out _).trans (((cell_far (p := ⟨gb737, _, none⟩) NB732_737.out _).trans (((cell_far (p := ⟨gb737, _, none⟩) NB732_737.out _).trans (hHeld.2.2.2.2.2.2.2.1)))))))), ((cell_far (p := ⟨gb737, _, none⟩) NB724_737.out _).trans (((cell_far (p := ⟨gb737, _, none⟩) NB724_737.out _).trans (((cell_far (p := ⟨gb737, _, none⟩) NB724_737.out _).trans (((cell_far (p := ⟨gb737, _, none⟩) NB724_737.out _).trans (hHeld.2.2.2.2.2.2.2.2.1)))))))), ((cell_far (p := ⟨gb737, _, none⟩) NB724_737.out _).trans (((cell_far (p := ⟨gb737, _, none⟩) NB724_737.out _).trans (((cell_far (p := ⟨gb737, _, none⟩) NB724_737.out _).trans (((cell_far (p := ⟨gb737, _, none⟩) NB724_737.out _).trans (hHeld.2.2.2.2.2.2.2.2.2.1)))))))), ((cell_far (p := ⟨gb737, _, none⟩) NB724_737.out _).trans (((cell_far (p := ⟨gb737, _, none⟩) NB724_737.out _).trans (((cell_far (p := ⟨gb737, _, none⟩) NB724_737.out _).trans (((cell_far (p := ⟨gb737, _, none⟩) NB724_737.out _).trans (hHeld.2.2.2.2.2.2.2.2.2.2.1)))))))), ((cell_far (p := ⟨gb737, _, none⟩) NB724_737.out _).trans (((cell_far (p := ⟨gb737, _, none⟩) NB724_737.out _).trans (((cell_far (p := ⟨gb737, _, none⟩) NB724_737.out _).trans (((cell_far (p := ⟨gb737, _, none⟩) NB724_737.out _).trans (hHeld.2.2.2.2.2.2.2.2.2.2.2))))))))⟩ (fun hHeld => ?_)
        clear hK K
        refine done_ (done_of HT_.out (by kernel_rfl)) ?_
        try go_wp2
        have n0_ : Aside0 (((((((((w112.setCell ⟨gb736, 0, none⟩ (.int .i64 t725)).setCell ⟨gb736, 1, none⟩ (.int .u64 t726)).setCell ⟨gb736, 2, none⟩ (.int .i64 a0_2)).setCell ⟨gb736, 3, none⟩ (.int .u64 a0_3)).setCell ⟨gb737, 0, none⟩ (.int .i64 t729)).setCell ⟨gb737, 1, none⟩ (.int .u64 t730)).setCell ⟨gb737, 2, none⟩ (.int .i64 a1_2)).setCell ⟨gb737, 3, none⟩ (.int .u64 a1_3)).heap[gb723]? = some (.cells #[.int .i64 a0_0, .int .u64 a0_1, .int .i64 a0_2, .int .u64 a0_3] 26 (0, 0))) := ⟨kx BK723⟩
        have n1_ : Aside0 (((((((((w112.setCell ⟨gb736, 0, none⟩ (.int .i64 t725)).setCell ⟨gb736, 1, none⟩ (.int .u64 t726)).setCell ⟨gb736, 2, none⟩ (.int .i64 a0_2)).setCell ⟨gb736, 3, none⟩ (.int .u64 a0_3)).setCell ⟨gb737, 0, none⟩ (.int .i64 t729)).setCell ⟨gb737, 1, none⟩ (.int .u64 t730)).setCell ⟨gb737, 2, none⟩ (.int .i64 a1_2)).setCell ⟨gb737, 3, none⟩ (.int .u64 a1_3)).heap[gb724]? = some (.cells #[.int .i64 a1_0, .int .u64 a1_1, .int .i64 a1_2, .int .u64 a1_3] 26 (0, 0))) := ⟨kx BK724⟩
        have n2_ : Aside0 (((((((((w112.setCell ⟨gb736, 0, none⟩ (.int .i64 t725)).setCell ⟨gb736, 1, none⟩ (.int .u64 t726)).setCell ⟨gb736, 2, none⟩ (.int .i64 a0_2)).setCell ⟨gb736, 3, none⟩ (.int .u64 a0_3)).setCell ⟨gb737, 0, none⟩ (.int .i64 t729)).setCell ⟨gb737, 1, none⟩ (.int .u64 t730)).setCell ⟨gb737, 2, none⟩ (.int .i64 a1_2)).setCell ⟨gb737, 3, none⟩ (.int .u64 a1_3)).heap[gb728]? = some (.cells #[.int .i64 t725, .int .u64 t726] 24 (0, 0))) := ⟨kx BK728⟩
        have n3_ : Aside0 (((((((((w112.setCell ⟨gb736, 0, none⟩ (.int .i64 t725)).setCell ⟨gb736, 1, none⟩ (.int .u64 t726)).setCell ⟨gb736, 2, none⟩ (.int .i64 a0_2)).setCell ⟨gb736, 3, none⟩ (.int .u64 a0_3)).setCell ⟨gb737, 0, none⟩ (.int .i64 t729)).setCell ⟨gb737, 1, none⟩ (.int .u64 t730)).setCell ⟨gb737, 2, none⟩ (.int .i64 a1_2)).setCell ⟨gb737, 3, none⟩ (.int .u64 a1_3)).heap[gb732]? = some (.cells #[.int .i64 t729, .int .u64 t730] 24 (0, 0))) := ⟨kx BK732⟩
        have n4_ : Aside0 (((((((((w112.setCell ⟨gb736, 0, none⟩ (.int .i64 t725)).setCell ⟨gb736, 1, none⟩ (.int .u64 t726)).setCell ⟨gb736, 2, none⟩ (.int .i64 a0_2)).setCell ⟨gb736, 3, none⟩ (.int .u64 a0_3)).setCell ⟨gb737, 0, none⟩ (.int .i64 t729)).setCell ⟨gb737, 1, none⟩ (.int .u64 t730)).setCell ⟨gb737, 2, none⟩ (.int .i64 a1_2)).setCell ⟨gb737, 3, none⟩ (.int .u64 a1_3)).heap[gb736]? = some (.cells #[.int .i64 t725, .int .u64 t726, .int .i64 a0_2, .int .u64 a0_3] 26 (0, 0))) := ⟨by (with_reducible repeat (first | refine blk_drewN ?_ _ | refine blk_drew ?_ | refine blk_alloc ?_ _)); refine blk_far ?_ NB736_737.out _; (with_reducible repeat (first | refine blk_drewN ?_ _ | refine blk_drew ?_ | refine blk_alloc ?_ _)); refine blk_far ?_ NB736_737.out _; (with_reducible repeat (first | refine blk_drewN ?_ _ | refine blk_drew ?_ | refine blk_alloc ?_ _)); refine blk_far ?_ NB736_737.out _; (with_reducible repeat (first | refine blk_drewN ?_ _ | refine blk_drew ?_ | refine blk_alloc ?_ _)); refine blk_far ?_ NB736_737.out _; (with_reducible repeat (first | refine blk_drewN ?_ _ | refine blk_drew ?_ | refine blk_alloc ?_ _)); refine blk_put (cs := #[.int .i64 t725, .int .u64 t726, .int .i64 a0_2, .int .u64 0]) ?_ 3 _ rfl; (with_reducible repeat (first | refine blk_drewN ?_ _ | refine blk_drew ?_ | refine blk_alloc ?_ _)); refine blk_put (cs := #[.int .i64 t725, .int .u64 t726, .int .i64 0, .int .u64 0]) ?_ 2 _ rfl; (with_reducible repeat (first | refine blk_drewN ?_ _ | refine blk_drew ?_ | refine blk_alloc ?_ _)); refine blk_put (cs := #[.int .i64 t725, .int .u64 0, .int .i64 0, .int .u64 0]) ?_ 1 _ rfl; (with_reducible repeat (first | refine blk_drewN ?_ _ | refine blk_drew ?_ | refine blk_alloc ?_ _)); refine blk_put (cs := #[.int .i64 0, .int .u64 0, .int .i64 0, .int .u64 0]) ?_ 0 _ rfl; (with_reducible repeat (first | refine blk_drewN ?_ _ | refine blk_drew ?_ | refine blk_alloc ?_ _)); exact BK736.out⟩
        have n5_ : Aside0 (((((((((w112.setCell ⟨gb736, 0, none⟩ (.int .i64 t725)).setCell ⟨gb736, 1, none⟩ (.int .u64 t726)).setCell ⟨gb736, 2, none⟩ (.int .i64 a0_2)).setCell ⟨gb736, 3, none⟩ (.int .u64 a0_3)).setCell ⟨gb737, 0, none⟩ (.int .i64 t729)).setCell ⟨gb737, 1, none⟩ (.int .u64 t730)).setCell ⟨gb737, 2, none⟩ (.int .i64 a1_2)).setCell ⟨gb737, 3, none⟩ (.int .u64 a1_3)).heap[gb737]? = some (.cells #[.int .i64 t729, .int .u64 t730, .int .i64 a1_2, .int .u64 a1_3] 26 (0, 0))) := ⟨by (with_reducible repeat (first | refine blk_drewN ?_ _ | refine blk_drew ?_ | refine blk_alloc ?_ _)); refine blk_put (cs := #[.int .i64 t729, .int .u64 t730, .int .i64 a1_2, .int .u64 0]) ?_ 3 _ rfl; (with_reducible repeat (first | refine blk_drewN ?_ _ | refine blk_drew ?_ | refine blk_alloc ?_ _)); refine blk_put (cs := #[.int .i64 t729, .int .u64 t730, .int .i64 0, .int .u64 0]) ?_ 2 _ rfl; (with_reducible repeat (first | refine blk_drewN ?_ _ | refine blk_drew ?_ | refine blk_alloc ?_ _)); refine blk_put (cs := #[.int .i64 t729, .int .u64 0, .int .i64 0, .int .u64 0]) ?_ 1 _ rfl; (with_reducible repeat (first | refine blk_drewN ?_ _ | refine blk_drew ?_ | refine blk_alloc ?_ _)); refine blk_put (cs := #[.int .i64 0, .int .u64 0, .int .i64 0, .int .u64 0]) ?_ 0 _ rfl; (with_reducible repeat (first | refine blk_drewN ?_ _ | refine blk_drew ?_ | refine blk_alloc ?_ _)); refine blk_far ?_ NB737_736.out _; (with_reducible repeat (first | refine blk_drewN ?_ _ | refine blk_drew ?_ | refine blk_alloc ?_ _)); refine blk_far ?_ NB737_736.out _; (with_reducible repeat (first | refine blk_drewN ?_ _ | refine blk_drew ?_ | refine blk_alloc ?_ _)); refine blk_far ?_ NB737_736.out _; (with_reducible repeat (first | refine blk_drewN ?_ _ | refine blk_drew ?_ | refine blk_alloc ?_ _)); refine blk_far ?_ NB737_736.out _; (with_reducible repeat (first | refine blk_drewN ?_ _ | refine blk_drew ?_ | refine blk_alloc ?_ _)); exact BK737.out⟩
        have n6_ : Aside0 (Below w.heap.size w ((((((((w112.setCell ⟨gb736, 0, none⟩ (.int .i64 t725)).setCell ⟨gb736, 1, none⟩ (.int .u64 t726)).setCell ⟨gb736, 2, none⟩ (.int .i64 a0_2)).setCell ⟨gb736, 3, none⟩ (.int .u64 a0_3)).setCell ⟨gb737, 0, none⟩ (.int .i64 t729)).setCell ⟨gb737, 1, none⟩ (.int .u64 t730)).setCell ⟨gb737, 2, none⟩ (.int .i64 a1_2)).setCell ⟨gb737, 3, none⟩ (.int .u64 a1_3))) := ⟨ky HB⟩
        (try clear BK723); (try clear BK724); (try clear BK728); (try clear BK732); (try clear BK736); (try clear BK737); (try clear HB)
        generalize ((((((((w112.setCell ⟨gb736, 0, none⟩ (.int .i64 t725)).setCell ⟨gb736, 1, none⟩ (.int .u64 t726)).setCell ⟨gb736, 2, none⟩ (.int .i64 a0_2)).setCell ⟨gb736, 3, none⟩ (.int .u64 a0_3)).setCell ⟨gb737, 0, none⟩ (.int .i64 t729)).setCell ⟨gb737, 1, none⟩ (.int .u64 t730)).setCell ⟨gb737, 2, none⟩ (.int .i64 a1_2)).setCell ⟨gb737, 3, none⟩ (.int .u64 a1_3)) = w121 at n0_ n1_ n2_ n3_ n4_ n5_ n6_ ⊢
        have BK723 := n0_; have BK724 := n1_; have BK728 := n2_; have BK732 := n3_; have BK736 := n4_; have BK737 := n5_; have HB := n6_
        clear n0_ n1_ n2_ n3_ n4_ n5_ n6_
        replace BK723 := Aside0.mk (blk_drew BK723.out)
        replace BK724 := Aside0.mk (blk_drew BK724.out)
        replace BK728 := Aside0.mk (blk_drew BK728.out)
        replace BK732 := Aside0.mk (blk_drew BK732.out)
        replace BK736 := Aside0.mk (blk_drew BK736.out)
        replace BK737 := Aside0.mk (blk_drew BK737.out)
        replace HB := Aside0.mk (below_drew1 HB.out)
        refine start_ (n := 7) (S := fun w' => w'.cell? ⟨gb736, 0, none⟩ = some (.int .i64 t725) ∧ w'.cell? ⟨gb736, 1, none⟩ = some (.int .u64 t726) ∧ w'.cell? ⟨gb736, 2, none⟩ = some (.int .i64 a0_2) ∧ w'.cell? ⟨gb736, 3, none⟩ = some (.int .u64 a0_3) ∧ w'.cell? ⟨gb737, 0, none⟩ = some (.int .i64 t729) ∧ w'.cell? ⟨gb737, 1, none⟩ = some (.int .u64 t730) ∧ w'.cell? ⟨gb737, 2, none⟩ = some (.int .i64 a1_2) ∧ w'.cell? ⟨gb737, 3, none⟩ = some (.int .u64 a1_3) ∧ w'.cell? ⟨gb724, 0, none⟩ = some (.int .i64 a1_0) ∧ w'.cell? ⟨gb724, 1, none⟩ = some (.int .u64 a1_1) ∧ w'.cell? ⟨gb724, 2, none⟩ = some (.int .i64 a1_2) ∧ w'.cell? ⟨gb724, 3, none⟩ = some (.int .u64 a1_3) ∧ w'.cell? ⟨gb723, 0, none⟩ = some (.int .i64 a0_0) ∧ w'.cell? ⟨gb723, 1, none⟩ = some (.int .u64 a0_1) ∧ w'.cell? ⟨gb723, 2, none⟩ = some (.int .i64 a0_2) ∧ w'.cell? ⟨gb723, 3, none⟩ = some (.int .u64 a0_3)) (ds := []) #[O, O, O, O, O, O, O] (by kernel_rfl) rfl rfl ⟨kc BK736 0, kc BK736 1, kc BK736 2, kc BK736 3, kc BK737 0, kc BK737 1, kc BK737 2, kc BK737 3, kc BK724 0, kc BK724 1, kc BK724 2, kc BK724 3, kc BK723 0, kc BK723 1, kc BK723 2, kc BK723 3⟩ (fun hHeld => ?_)
        generalize w121.drew = w122 at BK723 BK724 BK728 BK732 BK736 BK737 HB hHeld ⊢
        refine take_ (i := 0) (N := some 52) (v := ?_) (a' := ?_) #[T, O, O, O, O, O, O] rfl rfl (by kernel_rfl) (fun _ _ _ h => h) (Or.inl ⟨by rfl, ?_⟩) hHeld ?_ ?_; rotate_left; focus (rintro w' ⟨s0, s1, s2, s3, s4, s5, s6, s7, s8, s9, s10, s11, s12, s13, s14, s15⟩; go_simp; with_reducible rfl)
        rotate_left; focus (simp only [Act.put, s1, s2, s3, i64_w, i32_w]; rfl)
        refine take_ (i := 1) (N := some 53) (v := ?_) (a' := ?_) #[T, T, O, O, O, O, O] rfl rfl (by kernel_rfl) (fun _ _ _ h => h) (Or.inl ⟨by rfl, ?_⟩) hHeld ?_ ?_; rotate_left; focus (rintro w' ⟨s0, s1, s2, s3, s4, s5, s6, s7, s8, s9, s10, s11, s12, s13, s14, s15⟩; go_simp; with_reducible rfl)
        rotate_left; focus (simp only [Act.put, s1, s2, s3, i64_w, i32_w]; rfl)
        refine take_ (i := 3) (N := some 55) (v := ?_) (a' := ?_) #[T, T, O, T, O, O, O] rfl rfl (by kernel_rfl) (fun _ _ _ h => h) (Or.inl ⟨by rfl, ?_⟩) hHeld ?_ ?_; rotate_left; focus (rintro w' ⟨s0, s1, s2, s3, s4, s5, s6, s7, s8, s9, s10, s11, s12, s13, s14, s15⟩; go_simp; with_reducible rfl)
        rotate_left; focus (simp only [Act.put, s1, s2, s3, i64_w, i32_w]; rfl)
        refine take_ (i := 4) (N := some 56) (v := ?_) (a' := ?_) #[T, T, O, T, T, O, O] rfl rfl (by kernel_rfl) (fun _ _ _ h => h) (Or.inl ⟨by rfl, ?_⟩) hHeld ?_ ?_; rotate_left; focus (rintro w' ⟨s0, s1, s2, s3, s4, s5, s6, s7, s8, s9, s10, s11, s12, s13, s14, s15⟩; go_simp; with_reducible rfl)
        rotate_left; focus (simp only [Act.put, s1, s2, s3, i64_w, i32_w]; rfl)
        refine one_ (i := 2) (N := some 54) #[T, T, T, T, T, O, O] rfl rfl (by kernel_rfl) (by decide) (fun K hK => ?_)
        refine goes_ Try.func14 (by kernel_rfl) rfl #[.agg #[.int .i64 t725, .int .u64 t726, .int .i64 a0_2, .int .u64 a0_3], .agg #[.int .i64 t729, .int .u64 t730, .int .i64 a1_2, .int .u64 a1_3]] (by rfl) rfl rfl (by (try simp only [List.map_toArray, List.map_cons, List.map_nil]); first | done | rfl | (simp only [List.length_drop, List.length_take]; rfl)) ?_
        with_reducible refine (frac_Cmp.calls kj4 t725 t726 a0_2 a0_3 t729 t730 a1_2 a1_3 t738 _ A44.out).mono ?_
        rintro e w123 ⟨rfl, hb⟩
        refine ⟨_, rfl, ?_⟩
        replace BK723 := kb BK723 hb
        replace BK724 := kb BK724 hb
        replace BK728 := kb BK728 hb
        replace BK732 := kb BK732 hb
        replace BK736 := kb BK736 hb
        replace BK737 := kb BK737 hb
        replace HB := kB HB hb
        (try clear hb); (try clear hb2); (try clear hk); (try clear hi)
        refine hK.out _ _ ⟨kc BK736 0, kc BK736 1, kc BK736 2, kc BK736 3, kc BK737 0, kc BK737 1, kc BK737 2, kc BK737 3, kc BK724 0, kc BK724 1, kc BK724 2, kc BK724 3, kc BK723 0, kc BK723 1, kc BK723 2, kc BK723 3⟩ (fun hHeld => ?_)
        clear hK K
        refine norm_ (a' := ?_) ?_ ?_; rotate_left; focus (show Act.put _ (some 54) _ = _; simp only [Act.put, s1, s2, s3, i64_w, i32_w]; rfl)
        refine one_ (i := 5) (N := some 57) #[T, T, T, T, T, T, O] rfl rfl (by kernel_rfl) (by decide) (fun K hK => ?_)
        refine goes_ Try.func14 (by kernel_rfl) rfl #[.agg #[.int .i64 a1_0, .int .u64 a1_1, .int .i64 a1_2, .int .u64 a1_3], .agg #[.int .i64 a0_0, .int .u64 a0_1, .int .i64 a0_2, .int .u64 a0_3]] (by rfl) rfl rfl (by (try simp only [List.map_toArray, List.map_cons, List.map_nil]); first | done | rfl | (simp only [List.length_drop, List.length_take]; rfl)) ?_
        with_reducible refine (frac_Cmp.calls kj4 a1_0 a1_1 a1_2 a1_3 a0_0 a0_1 a0_2 a0_3 t739 _ A45.out).mono ?_
        rintro e w124 ⟨rfl, hb⟩
        refine ⟨_, rfl, ?_⟩
        replace BK723 := kb BK723 hb
        replace BK724 := kb BK724 hb
        replace BK728 := kb BK728 hb
        replace BK732 := kb BK732 hb
        replace BK736 := kb BK736 hb
        replace BK737 := kb BK737 hb
        replace HB := kB HB hb
        (try clear hb); (try clear hb2); (try clear hk); (try clear hi)
        refine hK.out _ _ ⟨kc BK736 0, kc BK736 1, kc BK736 2, kc BK736 3, kc BK737 0, kc BK737 1, kc BK737 2, kc BK737 3, kc BK724 0, kc BK724 1, kc BK724 2, kc BK724 3, kc BK723 0, kc BK723 1, kc BK723 2, kc BK723 3⟩ (fun hHeld => ?_)
        clear hK K
        refine norm_ (a' := ?_) ?_ ?_; rotate_left; focus (show Act.put _ (some 57) _ = _; simp only [Act.put, s1, s2, s3, i64_w, i32_w]; rfl)
        refine pure_ (i := 6) (N := some 58) (v := ?_) (a' := ?_) #[T, T, T, T, T, T, T] rfl rfl (by kernel_rfl) (fun _ _ _ h => h) (Or.inl ⟨by rfl, ?_⟩) ?_ ?_; rotate_left; focus (intro w'; go_simp; with_reducible rfl)
        rotate_left; focus (simp only [Act.put, s1, s2, s3, i64_w, i32_w]; rfl)
        refine done_ (by kernel_rfl) ?_
        try go_wp2
        go_ret
        exact ⟨by first | rfl | (simp [errW_none, errW_some] <;> rfl) | (simp [*, errW_none, errW_some] <;> rfl), ky HB⟩

      rw [if_pos c46] at H
      have c46b0 : (t738 == t739) = true := beq_iff_eq.mpr c46
      have c46b1 : (t738 != t739) = false := bne_eq_false_iff_eq.mpr c46
      clear c46
      replace H := Option.bind_eq_some_iff.mp H
      obtain ⟨⟨t740, t741⟩, A470, H⟩ := H
      replace H : ((wide_Neg.f t740 t741).bind fun bt742 => ((wide_Of.f 1).bind fun bt746 => ((wide_Sub.f bt742.1 bt742.2.1 bt746.1 bt746.2).bind fun bt748 => (if bt742.2.2 = true then (cobweblaw02_FracTurned.j1 kj4 (!bt748.2.2) a0_0 a0_1 a0_2 a0_3 bt742.1 bt742.2.1 bt748.1 bt748.2.1) else (cobweblaw02_FracTurned.j1 kj4 true a0_0 a0_1 a0_2 a0_3 bt742.1 bt742.2.1 bt748.1 bt748.2.1))))) = some r := H
      have A47 := Aside0.mk A470
      clear A470
      replace H := Option.bind_eq_some_iff.mp H
      obtain ⟨⟨t742, t743, t744⟩, A480, H⟩ := H
      replace H : ((wide_Of.f 1).bind fun bt746 => ((wide_Sub.f t742 t743 bt746.1 bt746.2).bind fun bt748 => (if t744 = true then (cobweblaw02_FracTurned.j1 kj4 (!bt748.2.2) a0_0 a0_1 a0_2 a0_3 t742 t743 bt748.1 bt748.2.1) else (cobweblaw02_FracTurned.j1 kj4 true a0_0 a0_1 a0_2 a0_3 t742 t743 bt748.1 bt748.2.1)))) = some r := H
      have A48 := Aside0.mk A480
      clear A480
      replace H := Option.bind_eq_some_iff.mp H
      obtain ⟨⟨t746, t747⟩, A490, H⟩ := H
      replace H : ((wide_Sub.f t742 t743 t746 t747).bind fun bt748 => (if t744 = true then (cobweblaw02_FracTurned.j1 kj4 (!bt748.2.2) a0_0 a0_1 a0_2 a0_3 t742 t743 bt748.1 bt748.2.1) else (cobweblaw02_FracTurned.j1 kj4 true a0_0 a0_1 a0_2 a0_3 t742 t743 bt748.1 bt748.2.1))) = some r := H
      have A49 := Aside0.mk A490
      clear A490
      replace H := Option.bind_eq_some_iff.mp H
      obtain ⟨⟨t748, t749, t750⟩, A500, H⟩ := H
      replace H : (if t744 = true then (cobweblaw02_FracTurned.j1 kj4 (!t750) a0_0 a0_1 a0_2 a0_3 t742 t743 t748 t749) else (cobweblaw02_FracTurned.j1 kj4 true a0_0 a0_1 a0_2 a0_3 t742 t743 t748 t749)) = some r := H
      have A50 := Aside0.mk A500
      clear A500
      have HC51 := Aside0.mk H
      clear H
      try go_wp2
      replace BK723 := Aside0.mk (blk_drew BK723.out)
      replace BK724 := Aside0.mk (blk_drew BK724.out)
      replace BK728 := Aside0.mk (blk_drew BK728.out)
      replace BK732 := Aside0.mk (blk_drew BK732.out)
      replace HB := Aside0.mk (below_drew1 HB.out)
      refine start_ (n := 12) (S := fun w' => w'.cell? ⟨gb728, 0, none⟩ = some (.int .i64 t725) ∧ w'.cell? ⟨gb728, 1, none⟩ = some (.int .u64 t726) ∧ w'.cell? ⟨gb723, 0, none⟩ = some (.int .i64 a0_0) ∧ w'.cell? ⟨gb723, 1, none⟩ = some (.int .u64 a0_1) ∧ w'.cell? ⟨gb723, 2, none⟩ = some (.int .i64 a0_2) ∧ w'.cell? ⟨gb723, 3, none⟩ = some (.int .u64 a0_3) ∧ w'.cell? ⟨gb732, 0, none⟩ = some (.int .i64 t729) ∧ w'.cell? ⟨gb732, 1, none⟩ = some (.int .u64 t730) ∧ w'.cell? ⟨gb724, 0, none⟩ = some (.int .i64 a1_0) ∧ w'.cell? ⟨gb724, 1, none⟩ = some (.int .u64 a1_1) ∧ w'.cell? ⟨gb724, 2, none⟩ = some (.int .i64 a1_2) ∧ w'.cell? ⟨gb724, 3, none⟩ = some (.int .u64 a1_3)) (ds := []) #[O, O, O, O, O, O, O, O, O, O, O, O] (by kernel_rfl) rfl rfl ⟨kc BK728 0, kc BK728 1, kc BK723 0, kc BK723 1, kc BK723 2, kc BK723 3, kc BK732 0, kc BK732 1, kc BK724 0, kc BK724 1, kc BK724 2, kc BK724 3⟩ (fun hHeld => ?_); refine with_tabW cobweblaw02_FracTurned.tab5 cobweblaw02_FracTurned.bits5 (fun HT_ HW_ => ?_)
      generalize wc.drew = w52 at BK723 BK724 BK728 BK732 HB hHeld ⊢
      refine pure_ (i := 1) (N := some 45) (v := ?_) (a' := ?_) #[O, T, O, O, O, O, O, O, O, O, O, O] rfl rfl (any_of HT_.out (by kernel_rfl)) (fun _ _ _ h => h) (Or.inl ⟨by rfl, ?_⟩) ?_ ?_; rotate_left; focus (intro w'; go_simp; with_reducible rfl)
      rotate_left; focus (simp only [Act.put, s1, s2, s3, i64_w, i32_w]; rfl)
      refine pure_ (i := 5) (N := some 49) (v := ?_) (a' := ?_) #[O, T, O, O, O, T, O, O, O, O, O, O] rfl rfl (any_of HT_.out (by kernel_rfl)) (fun _ _ _ h => h) (Or.inl ⟨by rfl, ?_⟩) ?_ ?_; rotate_left; focus (intro w'; go_simp; with_reducible rfl)
      rotate_left; focus (simp only [Act.put, s1, s2, s3, i64_w, i32_w]; rfl)
      refine take_ (i := 0) (N := some 44) (v := ?_) (a' := ?_) #[T, T, O, O, O, T, O, O, O, O, O, O] rfl rfl (take_ofW HT_.out HW_.out (by kernel_rfl)) (fun _ _ _ h => h) (Or.inl ⟨by rfl, ?_⟩) hHeld ?_ ?_; rotate_left; focus (rintro w' ⟨s0, s1, s2, s3, s4, s5, s6, s7, s8, s9, s10, s11⟩; go_simp; with_reducible rfl)
      rotate_left; focus (simp only [Act.put, s1, s2, s3, i64_w, i32_w]; rfl)
      refine take_ (i := 2) (N := some 46) (v := ?_) (a' := ?_) #[T, T, T, O, O, T, O, O, O, O, O, O] rfl rfl (take_ofW HT_.out HW_.out (by kernel_rfl)) (fun _ _ _ h => h) (Or.inl ⟨by rfl, ?_⟩) hHeld ?_ ?_; rotate_left; focus (rintro w' ⟨s0, s1, s2, s3, s4, s5, s6, s7, s8, s9, s10, s11⟩; go_simp; with_reducible rfl)
      rotate_left; focus (simp only [Act.put, s1, s2, s3, i64_w, i32_w]; rfl)
      refine pure_ (i := 3) (N := some 47) (v := ?_) (a' := ?_) #[T, T, T, T, O, T, O, O, O, O, O, O] rfl rfl (any_of HT_.out (by kernel_rfl)) (fun _ _ _ h => h) (Or.inl ⟨by rfl, ?_⟩) ?_ ?_; rotate_left; focus (intro w'; go_simp; with_reducible rfl)
      rotate_left; focus (simp only [Act.put, s1, s2, s3, i64_w, i32_w]; rfl)
      refine take_ (i := 4) (N := some 48) (v := ?_) (a' := ?_) #[T, T, T, T, T, T, O, O, O, O, O, O] rfl rfl (take_ofW HT_.out HW_.out (by kernel_rfl)) (fun _ _ _ h => h) (Or.inl ⟨by rfl, ?_⟩) hHeld ?_ ?_; rotate_left; focus (rintro w' ⟨s0, s1, s2, s3, s4, s5, s6, s7, s8, s9, s10, s11⟩; go_simp; with_reducible rfl)
      rotate_left; focus (simp only [Act.put, s1, s2, s3, i64_w, i32_w]; rfl)
      refine take_ (i := 6) (N := some 50) (v := ?_) (a' := ?_) #[T, T, T, T, T, T, T, O, O, O, O, O] rfl rfl (take_ofW HT_.out HW_.out (by kernel_rfl)) (fun _ _ _ h => h) (Or.inl ⟨by rfl, ?_⟩) hHeld ?_ ?_; rotate_left; focus (rintro w' ⟨s0, s1, s2, s3, s4, s5, s6, s7, s8, s9, s10, s11⟩; go_simp; with_reducible rfl)
      rotate_left; focus (simp only [Act.put, s1, s2, s3, i64_w, i32_w]; rfl)
      refine pure_ (i := 7) (N := some 51) (v := ?_) (a' := ?_) #[T, T, T, T, T, T, T, T, O, O, O, O] rfl rfl (any_of HT_.out (by kernel_rfl)) (fun _ _ _ h => h) (Or.inl ⟨by rfl, ?_⟩) ?_ ?_; rotate_left; focus (intro w'; go_simp; with_reducible rfl)
      rotate_left; focus (simp only [Act.put, s1, s2, s3, i64_w, i32_w]; rfl)
      refine join_ (σ := Nat × Nat) 2 #[T, T, T, T, T, T, T, T, T, T, O, O] (fun s_ => [(9, .pointer (some ⟨s_.1, 0, none⟩)), (10, .pointer (some ⟨s_.2, 0, none⟩))]) (fun s_ w' => (w'.cell? ⟨gb728, 0, none⟩ = some (.int .i64 t725) ∧ w'.cell? ⟨gb728, 1, none⟩ = some (.int .u64 t726) ∧ w'.cell? ⟨gb723, 0, none⟩ = some (.int .i64 a0_0) ∧ w'.cell? ⟨gb723, 1, none⟩ = some (.int .u64 a0_1) ∧ w'.cell? ⟨gb723, 2, none⟩ = some (.int .i64 a0_2) ∧ w'.cell? ⟨gb723, 3, none⟩ = some (.int .u64 a0_3) ∧ w'.cell? ⟨gb732, 0, none⟩ = some (.int .i64 t729) ∧ w'.cell? ⟨gb732, 1, none⟩ = some (.int .u64 t730) ∧ w'.cell? ⟨gb724, 0, none⟩ = some (.int .i64 a1_0) ∧ w'.cell? ⟨gb724, 1, none⟩ = some (.int .u64 a1_1) ∧ w'.cell? ⟨gb724, 2, none⟩ = some (.int .i64 a1_2) ∧ w'.cell? ⟨gb724, 3, none⟩ = some (.int .u64 a1_3)) ∧ (w'.heap[gb723]? = some (.cells #[.int .i64 a0_0, .int .u64 a0_1, .int .i64 a0_2, .int .u64 a0_3] 26 (0, 0))) ∧ (w'.heap[gb724]? = some (.cells #[.int .i64 a1_0, .int .u64 a1_1, .int .i64 a1_2, .int .u64 a1_3] 26 (0, 0))) ∧ (w'.heap[gb728]? = some (.cells #[.int .i64 t725, .int .u64 t726] 24 (0, 0))) ∧ (w'.heap[gb732]? = some (.cells #[.int .i64 t729, .int .u64 t730] 24 (0, 0))) ∧ (w'.heap[s_.1]? = some (.cells #[.int .i64 0, .int .u64 0, .int .i64 0, .int .u64 0] 26 (0, 0))) ∧ (w'.heap[s_.2]? = some (.cells #[.int .i64 0, .int .u64 0, .int .i64 0, .int .u64 0] 26 (0, 0))) ∧ (w.heap.size ≤ s_.1) ∧ (w.heap.size ≤ s_.1) ∧ (gb723 ≠ s_.1) ∧ (s_.1 ≠ gb723) ∧ (gb724 ≠ s_.1) ∧ (s_.1 ≠ gb724) ∧ (gb728 ≠ s_.1) ∧ (s_.1 ≠ gb728) ∧ (gb732 ≠ s_.1) ∧ (s_.1 ≠ gb732) ∧ (s_.2 ≠ s_.1) ∧ (s_.1 ≠ s_.2) ∧ (w.heap.size ≤ s_.2) ∧ (w.heap.size ≤ s_.2) ∧ (gb723 ≠ s_.2) ∧ (s_.2 ≠ gb723) ∧ (gb724 ≠ s_.2) ∧ (s_.2 ≠ gb724) ∧ (gb728 ≠ s_.2) ∧ (s_.2 ≠ gb728) ∧ (gb732 ≠ s_.2) ∧ (s_.2 ≠ gb732) ∧ (Below w.heap.size w w')) ?_ ?_
      rotate_left
      · intro hCont
        refine two_ (i := 8) (j := 9) (Ni := some 9) (Nj := some 10) #[T, T, T, T, T, T, T, T, T, O, O, O] #[T, T, T, T, T, T, T, T, O, T, O, O] rfl rfl rfl rfl (two_of HT_.out (by kernel_rfl)) (by decide) (by decide) (fun K hK => ?_) (fun K hK => ?_)
        · skip
          refine box_step ?hg (N := 9) ?hd (cs := #[.int .i64 0, .int .u64 0, .int .i64 0, .int .u64 0]) (t := 26) ?hr ?_; (case hd => rfl); (case hg => rfl); (case hr => first | (go_simp; done) | (go_simp; rfl))
          intro gb736 hg w53 hbox hb
          have BK736 := Aside0.mk (hbox)
          have GW736 := kS HB hg
          have GE736 := kS HB hg
          have NB723_736 := kN BK723 hg
          have NB736_723 := kM BK723 hg
          have NB724_736 := kN BK724 hg
          have NB736_724 := kM BK724 hg
          have NB728_736 := kN BK728 hg
          have NB736_728 := kM BK728 hg
          have NB732_736 := kN BK732 hg
          have NB736_732 := kM BK732 hg
          replace BK723 := kb BK723 hb
          replace BK724 := kb BK724 hb
          replace BK728 := kb BK728 hb
          replace BK732 := kb BK732 hb
          replace HB := kB HB hb
          clear hb hbox hg
          refine hK.out _ _ ⟨kc BK728 0, kc BK728 1, kc BK723 0, kc BK723 1, kc BK723 2, kc BK723 3, kc BK732 0, kc BK732 1, kc BK724 0, kc BK724 1, kc BK724 2, kc BK724 3⟩ (fun hHeld => ?_)
          clear hK K
          refine norm_ (a' := ?_) ?_ ?_; rotate_left; focus (show Act.put _ (some 9) _ = _; simp only [Act.put, s1, s2, s3, i64_w, i32_w]; rfl)
          refine one_ (i := 9) (N := some 10) #[T, T, T, T, T, T, T, T, T, T, O, O] rfl rfl (one_of HT_.out (by kernel_rfl)) (by decide) (fun K hK => ?_)
          refine box_step ?hg (N := 10) ?hd (cs := #[.int .i64 0, .int .u64 0, .int .i64 0, .int .u64 0]) (t := 26) ?hr ?_; (case hd => rfl); (case hg => rfl); (case hr => first | (go_simp; done) | (go_simp; rfl))
          intro gb737 hg w54 hbox hb
          have BK737 := Aside0.mk (hbox)
          have GW737 := kS HB hg
          have GE737 := kS HB hg
          have NB723_737 := kN BK723 hg
          have NB737_723 := kM BK723 hg
          have NB724_737 := kN BK724 hg
          have NB737_724 := kM BK724 hg
          have NB728_737 := kN BK728 hg
          have NB737_728 := kM BK728 hg
          have NB732_737 := kN BK732 hg
          have NB737_732 := kM BK732 hg
          have NB736_737 := kN BK736 hg
          have NB737_736 := kM BK736 hg
          replace BK723 := kb BK723 hb
          replace BK724 := kb BK724 hb
          replace BK728 := kb BK728 hb
          replace BK732 := kb BK732 hb
          replace BK736 := kb BK736 hb
          replace HB := kB HB hb
          clear hb hbox hg
          refine hK.out _ _ ⟨kc BK728 0, kc BK728 1, kc BK723 0, kc BK723 1, kc BK723 2, kc BK723 3, kc BK732 0, kc BK732 1, kc BK724 0, kc BK724 1, kc BK724 2, kc BK724 3⟩ (fun hHeld => ?_)
          clear hK K
          refine norm_ (a' := ?_) ?_ ?_; rotate_left; focus (show Act.put _ (some 10) _ = _; simp only [Act.put, s1, s2, s3, i64_w, i32_w]; rfl)
          exact norm_ (by simp only [putAll, Act.put, s1, s2, s3]) (hCont (gb736, gb737) _ ⟨hHeld, (kx BK723), (kx BK724), (kx BK728), (kx BK732), (kx BK736), (kx BK737), GW736.out, GE736.out, NB723_736.out, NB736_723.out, NB724_736.out, NB736_724.out, NB728_736.out, NB736_728.out, NB732_736.out, NB736_732.out, NB737_736.out, NB736_737.out, GW737.out, GE737.out, NB723_737.out, NB737_723.out, NB724_737.out, NB737_724.out, NB728_737.out, NB737_728.out, NB732_737.out, NB737_732.out, (ky HB)⟩)
        · skip
          refine box_step ?hg (N := 10) ?hd (cs := #[.int .i64 0, .int .u64 0, .int .i64 0, .int .u64 0]) (t := 26) ?hr ?_; (case hd => rfl); (case hg => rfl); (case hr => first | (go_simp; done) | (go_simp; rfl))
          intro gb737 hg w53 hbox hb
          have BK737 := Aside0.mk (hbox)
          have GW737 := kS HB hg
          have GE737 := kS HB hg
          have NB723_737 := kN BK723 hg
          have NB737_723 := kM BK723 hg
          have NB724_737 := kN BK724 hg
          have NB737_724 := kM BK724 hg
          have NB728_737 := kN BK728 hg
          have NB737_728 := kM BK728 hg
          have NB732_737 := kN BK732 hg
          have NB737_732 := kM BK732 hg
          replace BK723 := kb BK723 hb
          replace BK724 := kb BK724 hb
          replace BK728 := kb BK728 hb
          replace BK732 := kb BK732 hb
          replace HB := kB HB hb
          clear hb hbox hg
          refine hK.out _ _ ⟨kc BK728 0, kc BK728 1, kc BK723 0, kc BK723 1, kc BK723 2, kc BK723 3, kc BK732 0, kc BK732 1, kc BK724 0, kc BK724 1, kc BK724 2, kc BK724 3⟩ (fun hHeld => ?_)
          clear hK K
          refine norm_ (a' := ?_) ?_ ?_; rotate_left; focus (show Act.put _ (some 10) _ = _; simp only [Act.put, s1, s2, s3, i64_w, i32_w]; rfl)
          refine one_ (i := 8) (N := some 9) #[T, T, T, T, T, T, T, T, T, T, O, O] rfl rfl (one_of HT_.out (by kernel_rfl)) (by decide) (fun K hK => ?_)
          refine box_step ?hg (N := 9) ?hd (cs := #[.int .i64 0, .int .u64 0, .int .i64 0, .int .u64 0]) (t := 26) ?hr ?_; (case hd => rfl); (case hg => rfl); (case hr => first | (go_simp; done) | (go_simp; rfl))
          intro gb736 hg w54 hbox hb
          have BK736 := Aside0.mk (hbox)
          have GW736 := kS HB hg
          have GE736 := kS HB hg
          have NB723_736 := kN BK723 hg
          have NB736_723 := kM BK723 hg
          have NB724_736 := kN BK724 hg
          have NB736_724 := kM BK724 hg
          have NB728_736 := kN BK728 hg
          have NB736_728 := kM BK728 hg
          have NB732_736 := kN BK732 hg
          have NB736_732 := kM BK732 hg
          have NB737_736 := kN BK737 hg
          have NB736_737 := kM BK737 hg
          replace BK723 := kb BK723 hb
          replace BK724 := kb BK724 hb
          replace BK728 := kb BK728 hb
          replace BK732 := kb BK732 hb
          replace BK737 := kb BK737 hb
          replace HB := kB HB hb
          clear hb hbox hg
          refine hK.out _ _ ⟨kc BK728 0, kc BK728 1, kc BK723 0, kc BK723 1, kc BK723 2, kc BK723 3, kc BK732 0, kc BK732 1, kc BK724 0, kc BK724 1, kc BK724 2, kc BK724 3⟩ (fun hHeld => ?_)
          clear hK K
          refine norm_ (a' := ?_) ?_ ?_; rotate_left; focus (show Act.put _ (some 9) _ = _; simp only [Act.put, s1, s2, s3, i64_w, i32_w]; rfl)
          exact norm_ (by simp only [putAll, Act.put, s1, s2, s3]) (hCont (gb736, gb737) _ ⟨hHeld, (kx BK723), (kx BK724), (kx BK728), (kx BK732), (kx BK736), (kx BK737), GW736.out, GE736.out, NB723_736.out, NB736_723.out, NB724_736.out, NB736_724.out, NB728_736.out, NB736_728.out, NB732_736.out, NB736_732.out, NB737_736.out, NB736_737.out, GW737.out, GE737.out, NB723_737.out, NB737_723.out, NB724_737.out, NB737_724.out, NB728_737.out, NB737_728.out, NB732_737.out, NB737_732.out, (ky HB)⟩)
      rintro ⟨gb736, gb737⟩ w55 ⟨hS_, h0_, h1_, h2_, h3_, h4_, h5_, h6_, h7_, h8_, h9_, h10_, h11_, h12_, h13_, h14_, h15_, h16_, h17_, h18_, h19_, h20_, h21_, h22_, h23_, h24_, h25_, h26_, h27_, h28_⟩
      clear BK723 BK724 BK728 BK732 HB
      have BK723 := A0 h0_; have BK724 := A0 h1_; have BK728 := A0 h2_; have BK732 := A0 h3_; have BK736 := A0 h4_; have BK737 := A0 h5_; have GW736 := A0 h6_; have GE736 := A0 h7_; have NB723_736 := A0 h8_; have NB736_723 := A0 h9_; have NB724_736 := A0 h10_; have NB736_724 := A0 h11_; have NB728_736 := A0 h12_; have NB736_728 := A0 h13_; have NB732_736 := A0 h14_; have NB736_732 := A0 h15_; have NB737_736 := A0 h16_; have NB736_737 := A0 h17_; have GW737 := A0 h18_; have GE737 := A0 h19_; have NB723_737 := A0 h20_; have NB737_723 := A0 h21_; have NB724_737 := A0 h22_; have NB737_724 := A0 h23_; have NB728_737 := A0 h24_; have NB737_728 := A0 h25_; have NB732_737 := A0 h26_; have NB737_732 := A0 h27_; have HB := A0 h28_
      clear h0_ h1_ h2_ h3_ h4_ h5_ h6_ h7_ h8_ h9_ h10_ h11_ h12_ h13_ h14_ h15_ h16_ h17_ h18_ h19_ h20_ h21_ h22_ h23_ h24_ h25_ h26_ h27_ h28_
      have hHeld := hS_
      refine norm_ (a' := ?_) ?_ ?_; rotate_left; focus (simp only [putAll, Act.put, s1, s2, s3]; rfl)
      refine one_ (i := 10) (N := none) #[T, T, T, T, T, T, T, T, T, T, T, O] rfl rfl (one_of HT_.out (by kernel_rfl)) (by decide) (fun K hK => ?_)
      have hs56 : w55.cell? ⟨gb736, 0, none⟩ = some (.int .i64 0) := kc BK736 0
      have hfs56 := blk_frozen BK736.out 0
      have hns56_0 := NB723_736.out; have hns56_1 := NB724_736.out; have hns56_2 := NB728_736.out; have hns56_3 := NB732_736.out; have hns56_5 := NB737_736.out; have hms56_0 := NB736_723.out; have hms56_1 := NB736_724.out; have hms56_2 := NB736_728.out; have hms56_3 := NB736_732.out; have hms56_5 := NB736_737.out
      have hs57 : w55.cell? ⟨gb736, 1, none⟩ = some (.int .u64 0) := kc BK736 1
      have hfs57 := blk_frozen BK736.out 1
      have hns57_0 := NB723_736.out; have hns57_1 := NB724_736.out; have hns57_2 := NB728_736.out; have hns57_3 := NB732_736.out; have hns57_5 := NB737_736.out; have hms57_0 := NB736_723.out; have hms57_1 := NB736_724.out; have hms57_2 := NB736_728.out; have hms57_3 := NB736_732.out; have hms57_5 := NB736_737.out
      have hs58 : w55.cell? ⟨gb736, 2, none⟩ = some (.int .i64 0) := kc BK736 2
      have hfs58 := blk_frozen BK736.out 2
      have hns58_0 := NB723_736.out; have hns58_1 := NB724_736.out; have hns58_2 := NB728_736.out; have hns58_3 := NB732_736.out; have hns58_5 := NB737_736.out; have hms58_0 := NB736_723.out; have hms58_1 := NB736_724.out; have hms58_2 := NB736_728.out; have hms58_3 := NB736_732.out; have hms58_5 := NB736_737.out
      have hs59 : w55.cell? ⟨gb736, 3, none⟩ = some (.int .u64 0) := kc BK736 3
      have hfs59 := blk_frozen BK736.out 3
      have hns59_0 := NB723_736.out; have hns59_1 := NB724_736.out; have hns59_2 := NB728_736.out; have hns59_3 := NB732_736.out; have hns59_5 := NB737_736.out; have hms59_0 := NB736_723.out; have hms59_1 := NB736_724.out; have hms59_2 := NB736_728.out; have hms59_3 := NB736_732.out; have hms59_5 := NB736_737.out
      refine skip_ (w1 := ?_) (by rfl) rfl ?_ ?_
      rotate_left
      · go_simp
        rfl
      refine hK.out _ _ ⟨((cell_far (p := ⟨gb736, _, none⟩) NB728_736.out _).trans (((cell_far (p := ⟨gb736, _, none⟩) NB728_736.out _).trans (((cell_far (p := ⟨gb736, _, none⟩) NB728_736.out _).trans (((cell_far (p := ⟨gb736, _, none⟩) NB728_736.out _).trans (hHeld.1)))))))), ((cell_far (p := ⟨gb736, _, none⟩) NB728_736.out _).trans (((cell_far (p := ⟨gb736, _, none⟩) NB728_736.out _).trans (((cell_far (p := ⟨gb736, _, none⟩) NB728_736.out _).trans (((cell_far (p := ⟨gb736, _, none⟩) NB728_736.out _).trans (hHeld.2.1)))))))), ((cell_far (p := ⟨gb736, _, none⟩) NB723_736.out _).trans (((cell_far (p := ⟨gb736, _, none⟩) NB723_736.out _).trans (((cell_far (p := ⟨gb736, _, none⟩) NB723_736.out _).trans (((cell_far (p := ⟨gb736, _, none⟩) NB723_736.out _).trans (hHeld.2.2.1)))))))), ((cell_far (p := ⟨gb736, _, none⟩) NB723_736.out _).trans (((cell_far (p := ⟨gb736, _, none⟩) NB723_736.out _).trans (((cell_far (p := ⟨gb736, _, none⟩) NB723_736.out _).trans (((cell_far (p := ⟨gb736, _, none⟩) NB723_736.out _).trans (hHeld.2.2.2.1)))))))), ((cell_far (p := ⟨gb736, _, none⟩) NB723_736.out _).trans (((cell_far (p := ⟨gb736, _, none⟩) NB723_736.out _).trans (((cell_far (p := ⟨gb736, _, none⟩) NB723_736.out _).trans (((cell_far (p := ⟨gb736, _, none⟩) NB723_736.out _).trans (hHeld.2.2.2.2.1)))))))), ((cell_far (p := ⟨gb736, _, none⟩) NB723_736.out _).trans (((cell_far (p := ⟨gb736, _, none⟩) NB723_736.out _).trans (((cell_far (p := ⟨gb736, _, none⟩) NB723_736.out _).trans (((cell_far (p := ⟨gb736, _, none⟩) NB723_736.out _).trans (hHeld.2.2.2.2.2.1)))))))), ((cell_far (p := ⟨gb736, _, none⟩) NB732_736.out _).trans (((cell_far (p := ⟨gb736, _, none⟩) NB732_736.out _).trans (((cell_far (p := ⟨gb736, _, none⟩) NB732_736.out _).trans (((cell_far (p := ⟨gb736, _, none⟩) NB732_736.out _).trans (hHeld.2.2.2.2.2.2.1)))))))), ((cell_far (p := ⟨gb736, _, none⟩) NB732_736.out _).trans (((cell_far (p := ⟨gb736, _, none⟩) NB732_736.out _).trans (((cell_far (p := ⟨gb736, _, none⟩) NB732_736.out _).trans (((cell_far (p := ⟨gb736, _, none⟩) NB732_736.out _).trans (hHeld.2.2.2.2.2.2.2.1)))))))), ((cell_far (p := ⟨gb736, _, none⟩) NB724_736.out _).trans (((cell_far (p := ⟨gb736, _, none⟩) NB724_736.out _).trans (((cell_far (p := ⟨gb736, _, none⟩) NB724_736.out _).trans (((cell_far (p := ⟨gb736, _, none⟩) NB724_736.out _).trans (hHeld.2.2.2.2.2.2.2.2.1)))))))), ((cell_far (p := ⟨gb736, _, none⟩) NB724_736.out _).trans (((cell_far (p := ⟨gb736, _, none⟩) NB724_736.out _).trans (((cell_far (p := ⟨gb736, _, none⟩) NB724_736.out _).trans (((cell_far (p := ⟨gb736, _, none⟩) NB724_736.out _).trans (hHeld.2.2.2.2.2.2.2.2.2.1)))))))), ((cell_far (p := ⟨gb736, _, none⟩) NB724_736.out _).trans (((cell_far (p := ⟨gb736, _, none⟩) NB724_736.out _).trans (((cell_far (p := ⟨gb736, _, none⟩) NB724_736.out _).trans (((cell_far (p := ⟨gb736, _, none⟩) NB724_736.out _).trans (hHeld.2.2.2.2.2.2.2.2.2.2.1)))))))), ((cell_far (p := ⟨gb736, _, none⟩) NB724_736.out _).trans (((cell_far (p := ⟨gb736, _, none⟩) NB724_736.out _).trans (((cell_far (p := ⟨gb736, _, none⟩) NB724_736.out _).trans (((cell_far (p := ⟨gb736, _, none⟩) NB724_736.out _).trans (hHeld.2.2.2.2.2.2.2.2.2.2.2))))))))⟩ (fun hHeld => ?_)
      clear hK K
      refine one_ (i := 11) (N := none) #[T, T, T, T, T, T, T, T, T, T, T, T] rfl rfl (one_of HT_.out (by kernel_rfl)) (by decide) (fun K hK => ?_)
      have hs60 : w55.cell? ⟨gb737, 0, none⟩ = some (.int .i64 0) := kc BK737 0
      have hfs60 := blk_frozen BK737.out 0
      have hns60_0 := NB723_737.out; have hns60_1 := NB724_737.out; have hns60_2 := NB728_737.out; have hns60_3 := NB732_737.out; have hns60_4 := NB736_737.out; have hms60_0 := NB737_723.out; have hms60_1 := NB737_724.out; have hms60_2 := NB737_728.out; have hms60_3 := NB737_732.out; have hms60_4 := NB737_736.out
      have hs61 : w55.cell? ⟨gb737, 1, none⟩ = some (.int .u64 0) := kc BK737 1
      have hfs61 := blk_frozen BK737.out 1
      have hns61_0 := NB723_737.out; have hns61_1 := NB724_737.out; have hns61_2 := NB728_737.out; have hns61_3 := NB732_737.out; have hns61_4 := NB736_737.out; have hms61_0 := NB737_723.out; have hms61_1 := NB737_724.out; have hms61_2 := NB737_728.out; have hms61_3 := NB737_732.out; have hms61_4 := NB737_736.out
      have hs62 : w55.cell? ⟨gb737, 2, none⟩ = some (.int .i64 0) := kc BK737 2
      have hfs62 := blk_frozen BK737.out 2
      have hns62_0 := NB723_737.out; have hns62_1 := NB724_737.out; have hns62_2 := NB728_737.out; have hns62_3 := NB732_737.out; have hns62_4 := NB736_737.out; have hms62_0 := NB737_723.out; have hms62_1 := NB737_724.out; have hms62_2 := NB737_728.out; have hms62_3 := NB737_732.out; have hms62_4 := NB737_736.out
      have hs63 : w55.cell? ⟨gb737, 3, none⟩ = some (.int .u64 0) := kc BK737 3
      have hfs63 := blk_frozen BK737.out 3
      have hns63_0 := NB723_737.out; have hns63_1 := NB724_737.out; have hns63_2 := NB728_737.out; have hns63_3 := NB732_737.out; have hns63_4 := NB736_737.out; have hms63_0 := NB737_723.out; have hms63_1 := NB737_724.out; have hms63_2 := NB737_728.out; have hms63_3 := NB737_732.out; have hms63_4 := NB737_736.out
      refine skip_ (w1 := ?_) (by rfl) rfl ?_ ?_
      rotate_left
      · go_simp
        rfl
      refine hK.out _ _ ⟨((cell_far (p := ⟨gb737, _, none⟩) NB728_737.out _).trans (((cell_far (p := ⟨gb737, _, none⟩) NB728_737.out _).trans (((cell_far (p := ⟨gb737, _, none⟩) NB728_737.out _).trans (((cell_far (p := ⟨gb737, _, none⟩) NB728_737.out _).trans (hHeld.1)))))))), ((cell_far (p := ⟨gb737, _, none⟩) NB728_737.out _).trans (((cell_far (p := ⟨gb737, _, none⟩) NB728_737.out _).trans (((cell_far (p := ⟨gb737, _, none⟩) NB728_737.out _).trans (((cell_far (p := ⟨gb737, _, none⟩) NB728_737.out _).trans (hHeld.2.1)))))))), ((cell_far (p := ⟨gb737, _, none⟩) NB723_737.out _).trans (((cell_far (p := ⟨gb737, _, none⟩) NB723_737.out _).trans (((cell_far (p := ⟨gb737, _, none⟩) NB723_737.out _).trans (((cell_far (p := ⟨gb737, _, none⟩) NB723_737.out _).trans (hHeld.2.2.1)))))))), ((cell_far (p := ⟨gb737, _, none⟩) NB723_737.out _).trans (((cell_far (p := ⟨gb737, _, none⟩) NB723_737.out _).trans (((cell_far (p := ⟨gb737, _, none⟩) NB723_737.out _).trans (((cell_far (p := ⟨gb737, _, none⟩) NB723_737.out _).trans (hHeld.2.2.2.1)))))))), ((cell_far (p := ⟨gb737, _, none⟩) NB723_737.out _).trans (((cell_far (p := ⟨gb737, _, none⟩) NB723_737.out _).trans (((cell_far (p := ⟨gb737, _, none⟩) NB723_737.out _).trans (((cell_far (p := ⟨gb737, _, none⟩) NB723_737.out _).trans (hHeld.2.2.2.2.1)))))))), ((cell_far (p := ⟨gb737, _, none⟩) NB723_737.out _).trans (((cell_far (p := ⟨gb737, _, none⟩) NB723_737.out _).trans (((cell_far (p := ⟨gb737, _, none⟩) NB723_737.out _).trans (((cell_far (p := ⟨gb737, _, none⟩) NB723_737.out _).trans (hHeld.2.2.2.2.2.1)))))))), ((cell_far (p := ⟨gb737, _, none⟩) NB732_737.out _).trans (((cell_far (p := ⟨gb737, _, none⟩) NB732_737.out _).trans (((cell_far (p := ⟨gb737, _, none⟩) NB732_737.out _).trans (((cell_far (p := ⟨gb737, _, none⟩) NB732_737.out _).trans (hHeld.2.2.2.2.2.2.1)))))))), ((cell_far (p := ⟨gb737, _, none⟩) NB732_737.out _).trans (((cell_far (p := ⟨gb737, _, none⟩) NB732_737.out _).trans (((cell_far (p := ⟨gb737, _, none⟩) NB732_737.out _).trans (((cell_far (p := ⟨gb737, _, none⟩) NB732_737.out _).trans (hHeld.2.2.2.2.2.2.2.1)))))))), ((cell_far (p := ⟨gb737, _, none⟩) NB724_737.out _).trans (((cell_far (p := ⟨gb737, _, none⟩) NB724_737.out _).trans (((cell_far (p := ⟨gb737, _, none⟩) NB724_737.out _).trans (((cell_far (p := ⟨gb737, _, none⟩) NB724_737.out _).trans (hHeld.2.2.2.2.2.2.2.2.1)))))))), ((cell_far (p := ⟨gb737, _, none⟩) NB724_737.out _).trans (((cell_far (p := ⟨gb737, _, none⟩) NB724_737.out _).trans (((cell_far (p := ⟨gb737, _, none⟩) NB724_737.out _).trans (((cell_far (p := ⟨gb737, _, none⟩) NB724_737.out _).trans (hHeld.2.2.2.2.2.2.2.2.2.1)))))))), ((cell_far (p := ⟨gb737, _, none⟩) NB724_737.out _).trans (((cell_far (p := ⟨gb737, _, none⟩) NB724_737.out _).trans (((cell_far (p := ⟨gb737, _, none⟩) NB724_737.out _).trans (((cell_far (p := ⟨gb737, _, none⟩) NB724_737.out _).trans (hHeld.2.2.2.2.2.2.2.2.2.2.1)))))))), ((cell_far (p := ⟨gb737, _, none⟩) NB724_737.out _).trans (((cell_far (p := ⟨gb737, _, none⟩) NB724_737.out _).trans (((cell_far (p := ⟨gb737, _, none⟩) NB724_737.out _).trans (((cell_far (p := ⟨gb737, _, none⟩) NB724_737.out _).trans (hHeld.2.2.2.2.2.2.2.2.2.2.2))))))))⟩ (fun hHeld => ?_)
      clear hK K
      refine done_ (done_of HT_.out (by kernel_rfl)) ?_
      try go_wp2
      have n0_ : Aside0 (((((((((w55.setCell ⟨gb736, 0, none⟩ (.int .i64 t725)).setCell ⟨gb736, 1, none⟩ (.int .u64 t726)).setCell ⟨gb736, 2, none⟩ (.int .i64 a0_2)).setCell ⟨gb736, 3, none⟩ (.int .u64 a0_3)).setCell ⟨gb737, 0, none⟩ (.int .i64 t729)).setCell ⟨gb737, 1, none⟩ (.int .u64 t730)).setCell ⟨gb737, 2, none⟩ (.int .i64 a1_2)).setCell ⟨gb737, 3, none⟩ (.int .u64 a1_3)).heap[gb723]? = some (.cells #[.int .i64 a0_0, .int .u64 a0_1, .int .i64 a0_2, .int .u64 a0_3] 26 (0, 0))) := ⟨kx BK723⟩
      have n1_ : Aside0 (((((((((w55.setCell ⟨gb736, 0, none⟩ (.int .i64 t725)).setCell ⟨gb736, 1, none⟩ (.int .u64 t726)).setCell ⟨gb736, 2, none⟩ (.int .i64 a0_2)).setCell ⟨gb736, 3, none⟩ (.int .u64 a0_3)).setCell ⟨gb737, 0, none⟩ (.int .i64 t729)).setCell ⟨gb737, 1, none⟩ (.int .u64 t730)).setCell ⟨gb737, 2, none⟩ (.int .i64 a1_2)).setCell ⟨gb737, 3, none⟩ (.int .u64 a1_3)).heap[gb724]? = some (.cells #[.int .i64 a1_0, .int .u64 a1_1, .int .i64 a1_2, .int .u64 a1_3] 26 (0, 0))) := ⟨kx BK724⟩
      have n2_ : Aside0 (((((((((w55.setCell ⟨gb736, 0, none⟩ (.int .i64 t725)).setCell ⟨gb736, 1, none⟩ (.int .u64 t726)).setCell ⟨gb736, 2, none⟩ (.int .i64 a0_2)).setCell ⟨gb736, 3, none⟩ (.int .u64 a0_3)).setCell ⟨gb737, 0, none⟩ (.int .i64 t729)).setCell ⟨gb737, 1, none⟩ (.int .u64 t730)).setCell ⟨gb737, 2, none⟩ (.int .i64 a1_2)).setCell ⟨gb737, 3, none⟩ (.int .u64 a1_3)).heap[gb728]? = some (.cells #[.int .i64 t725, .int .u64 t726] 24 (0, 0))) := ⟨kx BK728⟩
      have n3_ : Aside0 (((((((((w55.setCell ⟨gb736, 0, none⟩ (.int .i64 t725)).setCell ⟨gb736, 1, none⟩ (.int .u64 t726)).setCell ⟨gb736, 2, none⟩ (.int .i64 a0_2)).setCell ⟨gb736, 3, none⟩ (.int .u64 a0_3)).setCell ⟨gb737, 0, none⟩ (.int .i64 t729)).setCell ⟨gb737, 1, none⟩ (.int .u64 t730)).setCell ⟨gb737, 2, none⟩ (.int .i64 a1_2)).setCell ⟨gb737, 3, none⟩ (.int .u64 a1_3)).heap[gb732]? = some (.cells #[.int .i64 t729, .int .u64 t730] 24 (0, 0))) := ⟨kx BK732⟩
      have n4_ : Aside0 (((((((((w55.setCell ⟨gb736, 0, none⟩ (.int .i64 t725)).setCell ⟨gb736, 1, none⟩ (.int .u64 t726)).setCell ⟨gb736, 2, none⟩ (.int .i64 a0_2)).setCell ⟨gb736, 3, none⟩ (.int .u64 a0_3)).setCell ⟨gb737, 0, none⟩ (.int .i64 t729)).setCell ⟨gb737, 1, none⟩ (.int .u64 t730)).setCell ⟨gb737, 2, none⟩ (.int .i64 a1_2)).setCell ⟨gb737, 3, none⟩ (.int .u64 a1_3)).heap[gb736]? = some (.cells #[.int .i64 t725, .int .u64 t726, .int .i64 a0_2, .int .u64 a0_3] 26 (0, 0))) := ⟨by (with_reducible repeat (first | refine blk_drewN ?_ _ | refine blk_drew ?_ | refine blk_alloc ?_ _)); refine blk_far ?_ NB736_737.out _; (with_reducible repeat (first | refine blk_drewN ?_ _ | refine blk_drew ?_ | refine blk_alloc ?_ _)); refine blk_far ?_ NB736_737.out _; (with_reducible repeat (first | refine blk_drewN ?_ _ | refine blk_drew ?_ | refine blk_alloc ?_ _)); refine blk_far ?_ NB736_737.out _; (with_reducible repeat (first | refine blk_drewN ?_ _ | refine blk_drew ?_ | refine blk_alloc ?_ _)); refine blk_far ?_ NB736_737.out _; (with_reducible repeat (first | refine blk_drewN ?_ _ | refine blk_drew ?_ | refine blk_alloc ?_ _)); refine blk_put (cs := #[.int .i64 t725, .int .u64 t726, .int .i64 a0_2, .int .u64 0]) ?_ 3 _ rfl; (with_reducible repeat (first | refine blk_drewN ?_ _ | refine blk_drew ?_ | refine blk_alloc ?_ _)); refine blk_put (cs := #[.int .i64 t725, .int .u64 t726, .int .i64 0, .int .u64 0]) ?_ 2 _ rfl; (with_reducible repeat (first | refine blk_drewN ?_ _ | refine blk_drew ?_ | refine blk_alloc ?_ _)); refine blk_put (cs := #[.int .i64 t725, .int .u64 0, .int .i64 0, .int .u64 0]) ?_ 1 _ rfl; (with_reducible repeat (first | refine blk_drewN ?_ _ | refine blk_drew ?_ | refine blk_alloc ?_ _)); refine blk_put (cs := #[.int .i64 0, .int .u64 0, .int .i64 0, .int .u64 0]) ?_ 0 _ rfl; (with_reducible repeat (first | refine blk_drewN ?_ _ | refine blk_drew ?_ | refine blk_alloc ?_ _)); exact BK736.out⟩
      have n5_ : Aside0 (((((((((w55.setCell ⟨gb736, 0, none⟩ (.int .i64 t725)).setCell ⟨gb736, 1, none⟩ (.int .u64 t726)).setCell ⟨gb736, 2, none⟩ (.int .i64 a0_2)).setCell ⟨gb736, 3, none⟩ (.int .u64 a0_3)).setCell ⟨gb737, 0, none⟩ (.int .i64 t729)).setCell ⟨gb737, 1, none⟩ (.int .u64 t730)).setCell ⟨gb737, 2, none⟩ (.int .i64 a1_2)).setCell ⟨gb737, 3, none⟩ (.int .u64 a1_3)).heap[gb737]? = some (.cells #[.int .i64 t729, .int .u64 t730, .int .i64 a1_2, .int .u64 a1_3] 26 (0, 0))) := ⟨by (with_reducible repeat (first | refine blk_drewN ?_ _ | refine blk_drew ?_ | refine blk_alloc ?_ _)); refine blk_put (cs := #[.int .i64 t729, .int .u64 t730, .int .i64 a1_2, .int .u64 0]) ?_ 3 _ rfl; (with_reducible repeat (first | refine blk_drewN ?_ _ | refine blk_drew ?_ | refine blk_alloc ?_ _)); refine blk_put (cs := #[.int .i64 t729, .int .u64 t730, .int .i64 0, .int .u64 0]) ?_ 2 _ rfl; (with_reducible repeat (first | refine blk_drewN ?_ _ | refine blk_drew ?_ | refine blk_alloc ?_ _)); refine blk_put (cs := #[.int .i64 t729, .int .u64 0, .int .i64 0, .int .u64 0]) ?_ 1 _ rfl; (with_reducible repeat (first | refine blk_drewN ?_ _ | refine blk_drew ?_ | refine blk_alloc ?_ _)); refine blk_put (cs := #[.int .i64 0, .int .u64 0, .int .i64 0, .int .u64 0]) ?_ 0 _ rfl; (with_reducible repeat (first | refine blk_drewN ?_ _ | refine blk_drew ?_ | refine blk_alloc ?_ _)); refine blk_far ?_ NB737_736.out _; (with_reducible repeat (first | refine blk_drewN ?_ _ | refine blk_drew ?_ | refine blk_alloc ?_ _)); refine blk_far ?_ NB737_736.out _; (with_reducible repeat (first | refine blk_drewN ?_ _ | refine blk_drew ?_ | refine blk_alloc ?_ _)); refine blk_far ?_ NB737_736.out _; (with_reducible repeat (first | refine blk_drewN ?_ _ | refine blk_drew ?_ | refine blk_alloc ?_ _)); refine blk_far ?_ NB737_736.out _; (with_reducible repeat (first | refine blk_drewN ?_ _ | refine blk_drew ?_ | refine blk_alloc ?_ _)); exact BK737.out⟩
      have n6_ : Aside0 (Below w.heap.size w ((((((((w55.setCell ⟨gb736, 0, none⟩ (.int .i64 t725)).setCell ⟨gb736, 1, none⟩ (.int .u64 t726)).setCell ⟨gb736, 2, none⟩ (.int .i64 a0_2)).setCell ⟨gb736, 3, none⟩ (.int .u64 a0_3)).setCell ⟨gb737, 0, none⟩ (.int .i64 t729)).setCell ⟨gb737, 1, none⟩ (.int .u64 t730)).setCell ⟨gb737, 2, none⟩ (.int .i64 a1_2)).setCell ⟨gb737, 3, none⟩ (.int .u64 a1_3))) := ⟨ky HB⟩
      (try clear BK723); (try clear BK724); (try clear BK728); (try clear BK732); (try clear BK736); (try clear BK737); (try clear HB)
      generalize ((((((((w55.setCell ⟨gb736, 0, none⟩ (.int .i64 t725)).setCell ⟨gb736, 1, none⟩ (.int .u64 t726)).setCell ⟨gb736, 2, none⟩ (.int .i64 a0_2)).setCell ⟨gb736, 3, none⟩ (.int .u64 a0_3)).setCell ⟨gb737, 0, none⟩ (.int .i64 t729)).setCell ⟨gb737, 1, none⟩ (.int .u64 t730)).setCell ⟨gb737, 2, none⟩ (.int .i64 a1_2)).setCell ⟨gb737, 3, none⟩ (.int .u64 a1_3)) = w64 at n0_ n1_ n2_ n3_ n4_ n5_ n6_ ⊢
      have BK723 := n0_; have BK724 := n1_; have BK728 := n2_; have BK732 := n3_; have BK736 := n4_; have BK737 := n5_; have HB := n6_
      clear n0_ n1_ n2_ n3_ n4_ n5_ n6_
      replace BK723 := Aside0.mk (blk_drew BK723.out)
      replace BK724 := Aside0.mk (blk_drew BK724.out)
      replace BK728 := Aside0.mk (blk_drew BK728.out)
      replace BK732 := Aside0.mk (blk_drew BK732.out)
      replace BK736 := Aside0.mk (blk_drew BK736.out)
      replace BK737 := Aside0.mk (blk_drew BK737.out)
      replace HB := Aside0.mk (below_drew1 HB.out)
      refine start_ (n := 7) (S := fun w' => w'.cell? ⟨gb736, 0, none⟩ = some (.int .i64 t725) ∧ w'.cell? ⟨gb736, 1, none⟩ = some (.int .u64 t726) ∧ w'.cell? ⟨gb736, 2, none⟩ = some (.int .i64 a0_2) ∧ w'.cell? ⟨gb736, 3, none⟩ = some (.int .u64 a0_3) ∧ w'.cell? ⟨gb737, 0, none⟩ = some (.int .i64 t729) ∧ w'.cell? ⟨gb737, 1, none⟩ = some (.int .u64 t730) ∧ w'.cell? ⟨gb737, 2, none⟩ = some (.int .i64 a1_2) ∧ w'.cell? ⟨gb737, 3, none⟩ = some (.int .u64 a1_3) ∧ w'.cell? ⟨gb724, 0, none⟩ = some (.int .i64 a1_0) ∧ w'.cell? ⟨gb724, 1, none⟩ = some (.int .u64 a1_1) ∧ w'.cell? ⟨gb724, 2, none⟩ = some (.int .i64 a1_2) ∧ w'.cell? ⟨gb724, 3, none⟩ = some (.int .u64 a1_3) ∧ w'.cell? ⟨gb723, 0, none⟩ = some (.int .i64 a0_0) ∧ w'.cell? ⟨gb723, 1, none⟩ = some (.int .u64 a0_1) ∧ w'.cell? ⟨gb723, 2, none⟩ = some (.int .i64 a0_2) ∧ w'.cell? ⟨gb723, 3, none⟩ = some (.int .u64 a0_3)) (ds := []) #[O, O, O, O, O, O, O] (by kernel_rfl) rfl rfl ⟨kc BK736 0, kc BK736 1, kc BK736 2, kc BK736 3, kc BK737 0, kc BK737 1, kc BK737 2, kc BK737 3, kc BK724 0, kc BK724 1, kc BK724 2, kc BK724 3, kc BK723 0, kc BK723 1, kc BK723 2, kc BK723 3⟩ (fun hHeld => ?_)
      generalize w64.drew = w65 at BK723 BK724 BK728 BK732 BK736 BK737 HB hHeld ⊢
      refine take_ (i := 0) (N := some 52) (v := ?_) (a' := ?_) #[T, O, O, O, O, O, O] rfl rfl (by kernel_rfl) (fun _ _ _ h => h) (Or.inl ⟨by rfl, ?_⟩) hHeld ?_ ?_; rotate_left; focus (rintro w' ⟨s0, s1, s2, s3, s4, s5, s6, s7, s8, s9, s10, s11, s12, s13, s14, s15⟩; go_simp; with_reducible rfl)
      rotate_left; focus (simp only [Act.put, s1, s2, s3, i64_w, i32_w]; rfl)
      refine take_ (i := 1) (N := some 53) (v := ?_) (a' := ?_) #[T, T, O, O, O, O, O] rfl rfl (by kernel_rfl) (fun _ _ _ h => h) (Or.inl ⟨by rfl, ?_⟩) hHeld ?_ ?_; rotate_left; focus (rintro w' ⟨s0, s1, s2, s3, s4, s5, s6, s7, s8, s9, s10, s11, s12, s13, s14, s15⟩; go_simp; with_reducible rfl)
      rotate_left; focus (simp only [Act.put, s1, s2, s3, i64_w, i32_w]; rfl)
      refine take_ (i := 3) (N := some 55) (v := ?_) (a' := ?_) #[T, T, O, T, O, O, O] rfl rfl (by kernel_rfl) (fun _ _ _ h => h) (Or.inl ⟨by rfl, ?_⟩) hHeld ?_ ?_; rotate_left; focus (rintro w' ⟨s0, s1, s2, s3, s4, s5, s6, s7, s8, s9, s10, s11, s12, s13, s14, s15⟩; go_simp; with_reducible rfl)
      rotate_left; focus (simp only [Act.put, s1, s2, s3, i64_w, i32_w]; rfl)
      refine take_ (i := 4) (N := some 56) (v := ?_) (a' := ?_) #[T, T, O, T, T, O, O] rfl rfl (by kernel_rfl) (fun _ _ _ h => h) (Or.inl ⟨by rfl, ?_⟩) hHeld ?_ ?_; rotate_left; focus (rintro w' ⟨s0, s1, s2, s3, s4, s5, s6, s7, s8, s9, s10, s11, s12, s13, s14, s15⟩; go_simp; with_reducible rfl)
      rotate_left; focus (simp only [Act.put, s1, s2, s3, i64_w, i32_w]; rfl)
      refine one_ (i := 2) (N := some 54) #[T, T, T, T, T, O, O] rfl rfl (by kernel_rfl) (by decide) (fun K hK => ?_)
      refine goes_ Try.func14 (by kernel_rfl) rfl #[.agg #[.int .i64 t725, .int .u64 t726, .int .i64 a0_2, .int .u64 a0_3], .agg #[.int .i64 t729, .int .u64 t730, .int .i64 a1_2, .int .u64 a1_3]] (by rfl) rfl rfl (by (try simp only [List.map_toArray, List.map_cons, List.map_nil]); first | done | rfl | (simp only [List.length_drop, List.length_take]; rfl)) ?_
      with_reducible refine (frac_Cmp.calls kj4 t725 t726 a0_2 a0_3 t729 t730 a1_2 a1_3 t738 _ A44.out).mono ?_
      rintro e w66 ⟨rfl, hb⟩
      refine ⟨_, rfl, ?_⟩
      replace BK723 := kb BK723 hb
      replace BK724 := kb BK724 hb
      replace BK728 := kb BK728 hb
      replace BK732 := kb BK732 hb
      replace BK736 := kb BK736 hb
      replace BK737 := kb BK737 hb
      replace HB := kB HB hb
      (try clear hb); (try clear hb2); (try clear hk); (try clear hi)
      refine hK.out _ _ ⟨kc BK736 0, kc BK736 1, kc BK736 2, kc BK736 3, kc BK737 0, kc BK737 1, kc BK737 2, kc BK737 3, kc BK724 0, kc BK724 1, kc BK724 2, kc BK724 3, kc BK723 0, kc BK723 1, kc BK723 2, kc BK723 3⟩ (fun hHeld => ?_)
      clear hK K
      refine norm_ (a' := ?_) ?_ ?_; rotate_left; focus (show Act.put _ (some 54) _ = _; simp only [Act.put, s1, s2, s3, i64_w, i32_w]; rfl)
      refine one_ (i := 5) (N := some 57) #[T, T, T, T, T, T, O] rfl rfl (by kernel_rfl) (by decide) (fun K hK => ?_)
      refine goes_ Try.func14 (by kernel_rfl) rfl #[.agg #[.int .i64 a1_0, .int .u64 a1_1, .int .i64 a1_2, .int .u64 a1_3], .agg #[.int .i64 a0_0, .int .u64 a0_1, .int .i64 a0_2, .int .u64 a0_3]] (by rfl) rfl rfl (by (try simp only [List.map_toArray, List.map_cons, List.map_nil]); first | done | rfl | (simp only [List.length_drop, List.length_take]; rfl)) ?_
      with_reducible refine (frac_Cmp.calls kj4 a1_0 a1_1 a1_2 a1_3 a0_0 a0_1 a0_2 a0_3 t739 _ A45.out).mono ?_
      rintro e w67 ⟨rfl, hb⟩
      refine ⟨_, rfl, ?_⟩
      replace BK723 := kb BK723 hb
      replace BK724 := kb BK724 hb
      replace BK728 := kb BK728 hb
      replace BK732 := kb BK732 hb
      replace BK736 := kb BK736 hb
      replace BK737 := kb BK737 hb
      replace HB := kB HB hb
      (try clear hb); (try clear hb2); (try clear hk); (try clear hi)
      refine hK.out _ _ ⟨kc BK736 0, kc BK736 1, kc BK736 2, kc BK736 3, kc BK737 0, kc BK737 1, kc BK737 2, kc BK737 3, kc BK724 0, kc BK724 1, kc BK724 2, kc BK724 3, kc BK723 0, kc BK723 1, kc BK723 2, kc BK723 3⟩ (fun hHeld => ?_)
      clear hK K
      refine norm_ (a' := ?_) ?_ ?_; rotate_left; focus (show Act.put _ (some 57) _ = _; simp only [Act.put, s1, s2, s3, i64_w, i32_w]; rfl)
      refine pure_ (i := 6) (N := some 58) (v := ?_) (a' := ?_) #[T, T, T, T, T, T, T] rfl rfl (by kernel_rfl) (fun _ _ _ h => h) (Or.inl ⟨by rfl, ?_⟩) ?_ ?_; rotate_left; focus (intro w'; go_simp; with_reducible rfl)
      rotate_left; focus (simp only [Act.put, s1, s2, s3, i64_w, i32_w]; rfl)
      refine done_ (by kernel_rfl) ?_
      have hnb68 := NB736_723.out; have hnc68 := NB723_736.out; have hnb69 := NB736_724.out; have hnc69 := NB724_736.out; have hnb70 := NB736_728.out; have hnc70 := NB728_736.out; have hnb71 := NB736_732.out; have hnc71 := NB732_736.out; have hnb72 := NB736_737.out; have hnc72 := NB737_736.out
      have hcz73_0 : w67.cell? ⟨gb736, 0, none⟩ = some (.int .i64 t725) := kc BK736 0
      have hcz73_1 : w67.cell? ⟨gb736, 1, none⟩ = some (.int .u64 t726) := kc BK736 1
      have hcz73_2 : w67.cell? ⟨gb736, 2, none⟩ = some (.int .i64 a0_2) := kc BK736 2
      have hcz73_3 : w67.cell? ⟨gb736, 3, none⟩ = some (.int .u64 a0_3) := kc BK736 3
      have hfz73_0 := blk_frozen BK736.out 0
      have hfz73_1 := blk_frozen BK736.out 1
      have hfz73_2 := blk_frozen BK736.out 2
      have hfz73_3 := blk_frozen BK736.out 3
      try go_wp2_with (first | ((with_reducible refine gate_callee (f := 19) rfl ?_); refine goesL_ (some 61) rfl rfl Try.func19 (by kernel_rfl) rfl #[.agg #[.int .i64 t725, .int .u64 t726, .int .i64 a0_2, .int .u64 a0_3]] rfl (by (try simp only [List.map_toArray, List.map_cons, List.map_nil]); first | done | rfl | (simp only [List.length_drop, List.length_take]; rfl)) ?_; (with_reducible refine (frac_Floor.calls kj4 t725 t726 a0_2 a0_3 t740 t741 _ A47.out).mono ?_); rintro e w74 ⟨rfl, hb⟩; refine ⟨_, rfl, ?_⟩; replace BK723 := kb BK723 hb; replace BK724 := kb BK724 hb; replace BK728 := kb BK728 hb; replace BK732 := kb BK732 hb; replace BK736 := kb BK736 hb; replace BK737 := kb BK737 hb; replace HB := kB HB hb; (try clear hb); (try clear hb2); (try clear hk); (try clear hi)) | ((with_reducible refine gate_callee (f := 30) rfl ?_); refine goesL_ (some 62) rfl rfl Try.func30 (by kernel_rfl) rfl #[.agg #[.int .i64 t740, .int .u64 t741]] rfl (by (try simp only [List.map_toArray, List.map_cons, List.map_nil]); first | done | rfl | (simp only [List.length_drop, List.length_take]; rfl)) ?_; (with_reducible refine (wide_Neg.calls t740 t741 t742 t743 t744 _ A48.out).mono ?_); rintro e w75 ⟨rfl, hb⟩; refine ⟨_, rfl, ?_⟩; replace BK723 := kb BK723 hb; replace BK724 := kb BK724 hb; replace BK728 := kb BK728 hb; replace BK732 := kb BK732 hb; replace BK736 := kb BK736 hb; replace BK737 := kb BK737 hb; replace HB := kB HB hb; (try clear hb); (try clear hb2); (try clear hk); (try clear hi)) | ((with_reducible refine gate_dst (N := 11) rfl ?_); refine box_event ?hg (N := 11) ?hd (cs := #[.int .i64 0, .int .u64 0]) (t := 24) ?hr ?_; (case hd => rfl); (case hg => rfl); (case hr => first | (go_simp; done) | (go_simp; rfl)); intro gb745 hg w76 hbox hb; have BK745 := Aside0.mk (hbox); have GW745 := kS HB hg; have GE745 := kS HB hg; have NB723_745 := kN BK723 hg; have NB745_723 := kM BK723 hg; have NB724_745 := kN BK724 hg; have NB745_724 := kM BK724 hg; have NB728_745 := kN BK728 hg; have NB745_728 := kM BK728 hg; have NB732_745 := kN BK732 hg; have NB745_732 := kM BK732 hg; have NB736_745 := kN BK736 hg; have NB745_736 := kM BK736 hg; have NB737_745 := kN BK737 hg; have NB745_737 := kM BK737 hg; replace BK723 := kb BK723 hb; replace BK724 := kb BK724 hb; replace BK728 := kb BK728 hb; replace BK732 := kb BK732 hb; replace BK736 := kb BK736 hb; replace BK737 := kb BK737 hb; replace HB := kB HB hb; clear hb hbox hg; have hnb77 := NB745_723.out; have hnc77 := NB723_745.out; have hnb78 := NB745_724.out; have hnc78 := NB724_745.out; have hnb79 := NB745_728.out; have hnc79 := NB728_745.out; have hnb80 := NB745_732.out; have hnc80 := NB732_745.out; have hnb81 := NB745_736.out; have hnc81 := NB736_745.out; have hnb82 := NB745_737.out; have hnc82 := NB737_745.out; have hcz83_0 : w76.cell? ⟨gb745, 0, none⟩ = some (.int .i64 0) := kc BK745 0; have hcz83_1 : w76.cell? ⟨gb745, 1, none⟩ = some (.int .u64 0) := kc BK745 1; have hfz83_0 := blk_frozen BK745.out 0; have hfz83_1 := blk_frozen BK745.out 1))
      have n0_ : Aside0 (((w76.setCell ⟨gb745, 0, none⟩ (.int .i64 t742)).setCell ⟨gb745, 1, none⟩ (.int .u64 t743)).heap[gb723]? = some (.cells #[.int .i64 a0_0, .int .u64 a0_1, .int .i64 a0_2, .int .u64 a0_3] 26 (0, 0))) := ⟨kx BK723⟩
      have n1_ : Aside0 (((w76.setCell ⟨gb745, 0, none⟩ (.int .i64 t742)).setCell ⟨gb745, 1, none⟩ (.int .u64 t743)).heap[gb724]? = some (.cells #[.int .i64 a1_0, .int .u64 a1_1, .int .i64 a1_2, .int .u64 a1_3] 26 (0, 0))) := ⟨kx BK724⟩
      have n2_ : Aside0 (((w76.setCell ⟨gb745, 0, none⟩ (.int .i64 t742)).setCell ⟨gb745, 1, none⟩ (.int .u64 t743)).heap[gb728]? = some (.cells #[.int .i64 t725, .int .u64 t726] 24 (0, 0))) := ⟨kx BK728⟩
      have n3_ : Aside0 (((w76.setCell ⟨gb745, 0, none⟩ (.int .i64 t742)).setCell ⟨gb745, 1, none⟩ (.int .u64 t743)).heap[gb732]? = some (.cells #[.int .i64 t729, .int .u64 t730] 24 (0, 0))) := ⟨kx BK732⟩
      have n4_ : Aside0 (((w76.setCell ⟨gb745, 0, none⟩ (.int .i64 t742)).setCell ⟨gb745, 1, none⟩ (.int .u64 t743)).heap[gb736]? = some (.cells #[.int .i64 t725, .int .u64 t726, .int .i64 a0_2, .int .u64 a0_3] 26 (0, 0))) := ⟨kx BK736⟩
      have n5_ : Aside0 (((w76.setCell ⟨gb745, 0, none⟩ (.int .i64 t742)).setCell ⟨gb745, 1, none⟩ (.int .u64 t743)).heap[gb737]? = some (.cells #[.int .i64 t729, .int .u64 t730, .int .i64 a1_2, .int .u64 a1_3] 26 (0, 0))) := ⟨kx BK737⟩
      have n6_ : Aside0 (((w76.setCell ⟨gb745, 0, none⟩ (.int .i64 t742)).setCell ⟨gb745, 1, none⟩ (.int .u64 t743)).heap[gb745]? = some (.cells #[.int .i64 t742, .int .u64 t743] 24 (0, 0))) := ⟨by (with_reducible repeat (first | refine blk_drewN ?_ _ | refine blk_drew ?_ | refine blk_alloc ?_ _)); refine blk_put (cs := #[.int .i64 t742, .int .u64 0]) ?_ 1 _ rfl; (with_reducible repeat (first | refine blk_drewN ?_ _ | refine blk_drew ?_ | refine blk_alloc ?_ _)); refine blk_put (cs := #[.int .i64 0, .int .u64 0]) ?_ 0 _ rfl; (with_reducible repeat (first | refine blk_drewN ?_ _ | refine blk_drew ?_ | refine blk_alloc ?_ _)); exact BK745.out⟩
      have n7_ : Aside0 (Below w.heap.size w ((w76.setCell ⟨gb745, 0, none⟩ (.int .i64 t742)).setCell ⟨gb745, 1, none⟩ (.int .u64 t743))) := ⟨ky HB⟩
      (try clear BK723); (try clear BK724); (try clear BK728); (try clear BK732); (try clear BK736); (try clear BK737); (try clear BK745); (try clear HB)
      generalize ((w76.setCell ⟨gb745, 0, none⟩ (.int .i64 t742)).setCell ⟨gb745, 1, none⟩ (.int .u64 t743)) = w84 at n0_ n1_ n2_ n3_ n4_ n5_ n6_ n7_ ⊢
      have BK723 := n0_; have BK724 := n1_; have BK728 := n2_; have BK732 := n3_; have BK736 := n4_; have BK737 := n5_; have BK745 := n6_; have HB := n7_
      clear n0_ n1_ n2_ n3_ n4_ n5_ n6_ n7_
      replace BK723 := Aside0.mk (blk_drew BK723.out)
      replace BK724 := Aside0.mk (blk_drew BK724.out)
      replace BK728 := Aside0.mk (blk_drew BK728.out)
      replace BK732 := Aside0.mk (blk_drew BK732.out)
      replace BK736 := Aside0.mk (blk_drew BK736.out)
      replace BK737 := Aside0.mk (blk_drew BK737.out)
      replace BK745 := Aside0.mk (blk_drew BK745.out)
      replace HB := Aside0.mk (below_drew1 HB.out)
      refine start_ (n := 9) (S := fun w' => w'.cell? ⟨gb745, 0, none⟩ = some (.int .i64 t742) ∧ w'.cell? ⟨gb745, 1, none⟩ = some (.int .u64 t743)) (ds := []) #[O, O, O, O, O, O, O, O, O] (by kernel_rfl) rfl rfl ⟨kc BK745 0, kc BK745 1⟩ (fun hHeld => ?_); refine with_tabW cobweblaw02_FracTurned.tab9 cobweblaw02_FracTurned.bits9 (fun HT_ HW_ => ?_)
      generalize w84.drew = w85 at BK723 BK724 BK728 BK732 BK736 BK737 BK745 HB hHeld ⊢
      refine take_ (i := 0) (N := some 66) (v := ?_) (a' := ?_) #[T, O, O, O, O, O, O, O, O] rfl rfl (take_ofW HT_.out HW_.out (by kernel_rfl)) (fun _ _ _ h => h) (Or.inl ⟨by rfl, ?_⟩) hHeld ?_ ?_; rotate_left; focus (rintro w' ⟨s0, s1⟩; go_simp; with_reducible rfl)
      rotate_left; focus (simp only [Act.put, s1, s2, s3, i64_w, i32_w]; rfl)
      refine join_ (σ := Nat) 2 #[T, T, T, T, T, T, T, O, O] (fun s_ => [(67, .agg #[.int .i64 t746, .int .u64 t747]), (68, .tuple #[.agg #[.int .i64 t748, .int .u64 t749], .bool t750]), (13, .pointer (some ⟨s_, 0, none⟩)), (65, .tuple #[.agg #[.int .i64 t748, .int .u64 t749], .bool t750]), (69, .agg #[.int .i64 t748, .int .u64 t749]), (70, .bool t750)]) (fun s_ w' => (w'.cell? ⟨gb745, 0, none⟩ = some (.int .i64 t742) ∧ w'.cell? ⟨gb745, 1, none⟩ = some (.int .u64 t743)) ∧ (w'.heap[gb723]? = some (.cells #[.int .i64 a0_0, .int .u64 a0_1, .int .i64 a0_2, .int .u64 a0_3] 26 (0, 0))) ∧ (w'.heap[gb724]? = some (.cells #[.int .i64 a1_0, .int .u64 a1_1, .int .i64 a1_2, .int .u64 a1_3] 26 (0, 0))) ∧ (w'.heap[gb728]? = some (.cells #[.int .i64 t725, .int .u64 t726] 24 (0, 0))) ∧ (w'.heap[gb732]? = some (.cells #[.int .i64 t729, .int .u64 t730] 24 (0, 0))) ∧ (w'.heap[gb736]? = some (.cells #[.int .i64 t725, .int .u64 t726, .int .i64 a0_2, .int .u64 a0_3] 26 (0, 0))) ∧ (w'.heap[gb737]? = some (.cells #[.int .i64 t729, .int .u64 t730, .int .i64 a1_2, .int .u64 a1_3] 26 (0, 0))) ∧ (w'.heap[gb745]? = some (.cells #[.int .i64 t742, .int .u64 t743] 24 (0, 0))) ∧ (w'.heap[s_]? = some (.cells #[.int .i64 0, .int .u64 0] 24 (0, 0))) ∧ (w.heap.size ≤ s_) ∧ (w.heap.size ≤ s_) ∧ (gb723 ≠ s_) ∧ (s_ ≠ gb723) ∧ (gb724 ≠ s_) ∧ (s_ ≠ gb724) ∧ (gb728 ≠ s_) ∧ (s_ ≠ gb728) ∧ (gb732 ≠ s_) ∧ (s_ ≠ gb732) ∧ (gb736 ≠ s_) ∧ (s_ ≠ gb736) ∧ (gb737 ≠ s_) ∧ (s_ ≠ gb737) ∧ (gb745 ≠ s_) ∧ (s_ ≠ gb745) ∧ (Below w.heap.size w w')) ?_ ?_
      rotate_left
      · intro hCont
        refine two_ (i := 1) (j := 6) (Ni := some 67) (Nj := some 13) #[T, T, O, O, O, O, O, O, O] #[T, O, O, O, O, O, T, O, O] rfl rfl rfl rfl (two_of HT_.out (by kernel_rfl)) (by decide) (by decide) (fun K hK => ?_) (fun K hK => ?_)
        · skip
          refine goes_ Try.func24 (by kernel_rfl) rfl #[.int .i64 1] (by rfl) rfl rfl (by (try simp only [List.map_toArray, List.map_cons, List.map_nil]); first | done | rfl | (simp only [List.length_drop, List.length_take]; rfl)) ?_
          with_reducible refine (wide_Of.calls 1 t746 t747 _ A49.out).mono ?_
          rintro e w86 ⟨rfl, hb⟩
          refine ⟨_, rfl, ?_⟩
          replace BK723 := kb BK723 hb
          replace BK724 := kb BK724 hb
          replace BK728 := kb BK728 hb
          replace BK732 := kb BK732 hb
          replace BK736 := kb BK736 hb
          replace BK737 := kb BK737 hb
          replace BK745 := kb BK745 hb
          replace HB := kB HB hb
          (try clear hb); (try clear hb2); (try clear hk); (try clear hi)
          refine hK.out _ _ ⟨kc BK745 0, kc BK745 1⟩ (fun hHeld => ?_)
          clear hK K
          refine norm_ (a' := ?_) ?_ ?_; rotate_left; focus (show Act.put _ (some 67) _ = _; simp only [Act.put, s1, s2, s3, i64_w, i32_w]; rfl)
          refine two_ (i := 2) (j := 6) (Ni := some 68) (Nj := some 13) #[T, T, T, O, O, O, O, O, O] #[T, T, O, O, O, O, T, O, O] rfl rfl rfl rfl (two_of HT_.out (by kernel_rfl)) (by decide) (by decide) (fun K hK => ?_) (fun K hK => ?_)
          · skip
            refine goes_ Try.func31 (by kernel_rfl) rfl #[.agg #[.int .i64 t742, .int .u64 t743], .agg #[.int .i64 t746, .int .u64 t747]] (by rfl) rfl rfl (by (try simp only [List.map_toArray, List.map_cons, List.map_nil]); first | done | rfl | (simp only [List.length_drop, List.length_take]; rfl)) ?_
            with_reducible refine (wide_Sub.calls t742 t743 t746 t747 t748 t749 t750 _ A50.out).mono ?_
            rintro e w87 ⟨rfl, hb⟩
            refine ⟨_, rfl, ?_⟩
            replace BK723 := kb BK723 hb
            replace BK724 := kb BK724 hb
            replace BK728 := kb BK728 hb
            replace BK732 := kb BK732 hb
            replace BK736 := kb BK736 hb
            replace BK737 := kb BK737 hb
            replace BK745 := kb BK745 hb
            replace HB := kB HB hb
            (try clear hb); (try clear hb2); (try clear hk); (try clear hi)
            refine hK.out _ _ ⟨kc BK745 0, kc BK745 1⟩ (fun hHeld => ?_)
            clear hK K
            refine norm_ (a' := ?_) ?_ ?_; rotate_left; focus (show Act.put _ (some 68) _ = _; simp only [Act.put, s1, s2, s3, i64_w, i32_w]; rfl)
            refine pure_ (i := 3) (N := some 65) (v := ?_) (a' := ?_) #[T, T, T, T, O, O, O, O, O] rfl rfl (any_of HT_.out (by kernel_rfl)) (fun _ _ _ h => h) (Or.inl ⟨by rfl, ?_⟩) ?_ ?_; rotate_left; focus (intro w'; go_simp; with_reducible rfl)
            rotate_left; focus (simp only [Act.put, s1, s2, s3, i64_w, i32_w]; rfl)
            refine pure_ (i := 4) (N := some 69) (v := ?_) (a' := ?_) #[T, T, T, T, T, O, O, O, O] rfl rfl (any_of HT_.out (by kernel_rfl)) (fun _ _ _ h => h) (Or.inl ⟨by rfl, ?_⟩) ?_ ?_; rotate_left; focus (intro w'; go_simp; with_reducible rfl)
            rotate_left; focus (simp only [Act.put, s1, s2, s3, i64_w, i32_w]; rfl)
            refine pure_ (i := 5) (N := some 70) (v := ?_) (a' := ?_) #[T, T, T, T, T, T, O, O, O] rfl rfl (any_of HT_.out (by kernel_rfl)) (fun _ _ _ h => h) (Or.inl ⟨by rfl, ?_⟩) ?_ ?_; rotate_left; focus (intro w'; go_simp; with_reducible rfl)
            rotate_left; focus (simp only [Act.put, s1, s2, s3, i64_w, i32_w]; rfl)
            refine one_ (i := 6) (N := some 13) #[T, T, T, T, T, T, T, O, O] rfl rfl (one_of HT_.out (by kernel_rfl)) (by decide) (fun K hK => ?_)
            refine box_step ?hg (N := 13) ?hd (cs := #[.int .i64 0, .int .u64 0]) (t := 24) ?hr ?_; (case hd => rfl); (case hg => rfl); (case hr => first | (go_simp; done) | (go_simp; rfl))
            intro gb751 hg w88 hbox hb
            have BK751 := Aside0.mk (hbox)
            have GW751 := kS HB hg
            have GE751 := kS HB hg
            have NB723_751 := kN BK723 hg
            have NB751_723 := kM BK723 hg
            have NB724_751 := kN BK724 hg
            have NB751_724 := kM BK724 hg
            have NB728_751 := kN BK728 hg
            have NB751_728 := kM BK728 hg
            have NB732_751 := kN BK732 hg
            have NB751_732 := kM BK732 hg
            have NB736_751 := kN BK736 hg
            have NB751_736 := kM BK736 hg
            have NB737_751 := kN BK737 hg
            have NB751_737 := kM BK737 hg
            have NB745_751 := kN BK745 hg
            have NB751_745 := kM BK745 hg
            replace BK723 := kb BK723 hb
            replace BK724 := kb BK724 hb
            replace BK728 := kb BK728 hb
            replace BK732 := kb BK732 hb
            replace BK736 := kb BK736 hb
            replace BK737 := kb BK737 hb
            replace BK745 := kb BK745 hb
            replace HB := kB HB hb
            clear hb hbox hg
            refine hK.out _ _ ⟨kc BK745 0, kc BK745 1⟩ (fun hHeld => ?_)
            clear hK K
            refine norm_ (a' := ?_) ?_ ?_; rotate_left; focus (show Act.put _ (some 13) _ = _; simp only [Act.put, s1, s2, s3, i64_w, i32_w]; rfl)
            exact norm_ (by simp only [putAll, Act.put, s1, s2, s3]) (hCont (gb751) _ ⟨hHeld, (kx BK723), (kx BK724), (kx BK728), (kx BK732), (kx BK736), (kx BK737), (kx BK745), (kx BK751), GW751.out, GE751.out, NB723_751.out, NB751_723.out, NB724_751.out, NB751_724.out, NB728_751.out, NB751_728.out, NB732_751.out, NB751_732.out, NB736_751.out, NB751_736.out, NB737_751.out, NB751_737.out, NB745_751.out, NB751_745.out, (ky HB)⟩)
          · skip
            refine box_step ?hg (N := 13) ?hd (cs := #[.int .i64 0, .int .u64 0]) (t := 24) ?hr ?_; (case hd => rfl); (case hg => rfl); (case hr => first | (go_simp; done) | (go_simp; rfl))
            intro gb751 hg w87 hbox hb
            have BK751 := Aside0.mk (hbox)
            have GW751 := kS HB hg
            have GE751 := kS HB hg
            have NB723_751 := kN BK723 hg
            have NB751_723 := kM BK723 hg
            have NB724_751 := kN BK724 hg
            have NB751_724 := kM BK724 hg
            have NB728_751 := kN BK728 hg
            have NB751_728 := kM BK728 hg
            have NB732_751 := kN BK732 hg
            have NB751_732 := kM BK732 hg
            have NB736_751 := kN BK736 hg
            have NB751_736 := kM BK736 hg
            have NB737_751 := kN BK737 hg
            have NB751_737 := kM BK737 hg
            have NB745_751 := kN BK745 hg
            have NB751_745 := kM BK745 hg
            replace BK723 := kb BK723 hb
            replace BK724 := kb BK724 hb
            replace BK728 := kb BK728 hb
            replace BK732 := kb BK732 hb
            replace BK736 := kb BK736 hb
            replace BK737 := kb BK737 hb
            replace BK745 := kb BK745 hb
            replace HB := kB HB hb
            clear hb hbox hg
            refine hK.out _ _ ⟨kc BK745 0, kc BK745 1⟩ (fun hHeld => ?_)
            clear hK K
            refine norm_ (a' := ?_) ?_ ?_; rotate_left; focus (show Act.put _ (some 13) _ = _; simp only [Act.put, s1, s2, s3, i64_w, i32_w]; rfl)
            refine one_ (i := 2) (N := some 68) #[T, T, T, O, O, O, T, O, O] rfl rfl (one_of HT_.out (by kernel_rfl)) (by decide) (fun K hK => ?_)
            refine goes_ Try.func31 (by kernel_rfl) rfl #[.agg #[.int .i64 t742, .int .u64 t743], .agg #[.int .i64 t746, .int .u64 t747]] (by rfl) rfl rfl (by (try simp only [List.map_toArray, List.map_cons, List.map_nil]); first | done | rfl | (simp only [List.length_drop, List.length_take]; rfl)) ?_
            with_reducible refine (wide_Sub.calls t742 t743 t746 t747 t748 t749 t750 _ A50.out).mono ?_
            rintro e w88 ⟨rfl, hb⟩
            refine ⟨_, rfl, ?_⟩
            replace BK723 := kb BK723 hb
            replace BK724 := kb BK724 hb
            replace BK728 := kb BK728 hb
            replace BK732 := kb BK732 hb
            replace BK736 := kb BK736 hb
            replace BK737 := kb BK737 hb
            replace BK745 := kb BK745 hb
            replace BK751 := kb BK751 hb
            replace HB := kB HB hb
            (try clear hb); (try clear hb2); (try clear hk); (try clear hi)
            refine hK.out _ _ ⟨kc BK745 0, kc BK745 1⟩ (fun hHeld => ?_)
            clear hK K
            refine norm_ (a' := ?_) ?_ ?_; rotate_left; focus (show Act.put _ (some 68) _ = _; simp only [Act.put, s1, s2, s3, i64_w, i32_w]; rfl)
            refine pure_ (i := 3) (N := some 65) (v := ?_) (a' := ?_) #[T, T, T, T, O, O, T, O, O] rfl rfl (any_of HT_.out (by kernel_rfl)) (fun _ _ _ h => h) (Or.inl ⟨by rfl, ?_⟩) ?_ ?_; rotate_left; focus (intro w'; go_simp; with_reducible rfl)
            rotate_left; focus (simp only [Act.put, s1, s2, s3, i64_w, i32_w]; rfl)
            refine pure_ (i := 4) (N := some 69) (v := ?_) (a' := ?_) #[T, T, T, T, T, O, T, O, O] rfl rfl (any_of HT_.out (by kernel_rfl)) (fun _ _ _ h => h) (Or.inl ⟨by rfl, ?_⟩) ?_ ?_; rotate_left; focus (intro w'; go_simp; with_reducible rfl)
            rotate_left; focus (simp only [Act.put, s1, s2, s3, i64_w, i32_w]; rfl)
            refine pure_ (i := 5) (N := some 70) (v := ?_) (a' := ?_) #[T, T, T, T, T, T, T, O, O] rfl rfl (any_of HT_.out (by kernel_rfl)) (fun _ _ _ h => h) (Or.inl ⟨by rfl, ?_⟩) ?_ ?_; rotate_left; focus (intro w'; go_simp; with_reducible rfl)
            rotate_left; focus (simp only [Act.put, s1, s2, s3, i64_w, i32_w]; rfl)
            exact norm_ (by simp only [putAll, Act.put, s1, s2, s3]) (hCont (gb751) _ ⟨hHeld, (kx BK723), (kx BK724), (kx BK728), (kx BK732), (kx BK736), (kx BK737), (kx BK745), (kx BK751), GW751.out, GE751.out, NB723_751.out, NB751_723.out, NB724_751.out, NB751_724.out, NB728_751.out, NB751_728.out, NB732_751.out, NB751_732.out, NB736_751.out, NB751_736.out, NB737_751.out, NB751_737.out, NB745_751.out, NB751_745.out, (ky HB)⟩)
        · skip
          refine box_step ?hg (N := 13) ?hd (cs := #[.int .i64 0, .int .u64 0]) (t := 24) ?hr ?_; (case hd => rfl); (case hg => rfl); (case hr => first | (go_simp; done) | (go_simp; rfl))
          intro gb751 hg w86 hbox hb
          have BK751 := Aside0.mk (hbox)
          have GW751 := kS HB hg
          have GE751 := kS HB hg
          have NB723_751 := kN BK723 hg
          have NB751_723 := kM BK723 hg
          have NB724_751 := kN BK724 hg
          have NB751_724 := kM BK724 hg
          have NB728_751 := kN BK728 hg
          have NB751_728 := kM BK728 hg
          have NB732_751 := kN BK732 hg
          have NB751_732 := kM BK732 hg
          have NB736_751 := kN BK736 hg
          have NB751_736 := kM BK736 hg
          have NB737_751 := kN BK737 hg
          have NB751_737 := kM BK737 hg
          have NB745_751 := kN BK745 hg
          have NB751_745 := kM BK745 hg
          replace BK723 := kb BK723 hb
          replace BK724 := kb BK724 hb
          replace BK728 := kb BK728 hb
          replace BK732 := kb BK732 hb
          replace BK736 := kb BK736 hb
          replace BK737 := kb BK737 hb
          replace BK745 := kb BK745 hb
          replace HB := kB HB hb
          clear hb hbox hg
          refine hK.out _ _ ⟨kc BK745 0, kc BK745 1⟩ (fun hHeld => ?_)
          clear hK K
          refine norm_ (a' := ?_) ?_ ?_; rotate_left; focus (show Act.put _ (some 13) _ = _; simp only [Act.put, s1, s2, s3, i64_w, i32_w]; rfl)
          refine one_ (i := 1) (N := some 67) #[T, T, O, O, O, O, T, O, O] rfl rfl (one_of HT_.out (by kernel_rfl)) (by decide) (fun K hK => ?_)
          refine goes_ Try.func24 (by kernel_rfl) rfl #[.int .i64 1] (by rfl) rfl rfl (by (try simp only [List.map_toArray, List.map_cons, List.map_nil]); first | done | rfl | (simp only [List.length_drop, List.length_take]; rfl)) ?_
          with_reducible refine (wide_Of.calls 1 t746 t747 _ A49.out).mono ?_
          rintro e w87 ⟨rfl, hb⟩
          refine ⟨_, rfl, ?_⟩
          replace BK723 := kb BK723 hb
          replace BK724 := kb BK724 hb
          replace BK728 := kb BK728 hb
          replace BK732 := kb BK732 hb
          replace BK736 := kb BK736 hb
          replace BK737 := kb BK737 hb
          replace BK745 := kb BK745 hb
          replace BK751 := kb BK751 hb
          replace HB := kB HB hb
          (try clear hb); (try clear hb2); (try clear hk); (try clear hi)
          refine hK.out _ _ ⟨kc BK745 0, kc BK745 1⟩ (fun hHeld => ?_)
          clear hK K
          refine norm_ (a' := ?_) ?_ ?_; rotate_left; focus (show Act.put _ (some 67) _ = _; simp only [Act.put, s1, s2, s3, i64_w, i32_w]; rfl)
          refine one_ (i := 2) (N := some 68) #[T, T, T, O, O, O, T, O, O] rfl rfl (one_of HT_.out (by kernel_rfl)) (by decide) (fun K hK => ?_)
          refine goes_ Try.func31 (by kernel_rfl) rfl #[.agg #[.int .i64 t742, .int .u64 t743], .agg #[.int .i64 t746, .int .u64 t747]] (by rfl) rfl rfl (by (try simp only [List.map_toArray, List.map_cons, List.map_nil]); first | done | rfl | (simp only [List.length_drop, List.length_take]; rfl)) ?_
          with_reducible refine (wide_Sub.calls t742 t743 t746 t747 t748 t749 t750 _ A50.out).mono ?_
          rintro e w88 ⟨rfl, hb⟩
          refine ⟨_, rfl, ?_⟩
          replace BK723 := kb BK723 hb
          replace BK724 := kb BK724 hb
          replace BK728 := kb BK728 hb
          replace BK732 := kb BK732 hb
          replace BK736 := kb BK736 hb
          replace BK737 := kb BK737 hb
          replace BK745 := kb BK745 hb
          replace BK751 := kb BK751 hb
          replace HB := kB HB hb
          (try clear hb); (try clear hb2); (try clear hk); (try clear hi)
          refine hK.out _ _ ⟨kc BK745 0, kc BK745 1⟩ (fun hHeld => ?_)
          clear hK K
          refine norm_ (a' := ?_) ?_ ?_; rotate_left; focus (show Act.put _ (some 68) _ = _; simp only [Act.put, s1, s2, s3, i64_w, i32_w]; rfl)
          refine pure_ (i := 3) (N := some 65) (v := ?_) (a' := ?_) #[T, T, T, T, O, O, T, O, O] rfl rfl (any_of HT_.out (by kernel_rfl)) (fun _ _ _ h => h) (Or.inl ⟨by rfl, ?_⟩) ?_ ?_; rotate_left; focus (intro w'; go_simp; with_reducible rfl)
          rotate_left; focus (simp only [Act.put, s1, s2, s3, i64_w, i32_w]; rfl)
          refine pure_ (i := 4) (N := some 69) (v := ?_) (a' := ?_) #[T, T, T, T, T, O, T, O, O] rfl rfl (any_of HT_.out (by kernel_rfl)) (fun _ _ _ h => h) (Or.inl ⟨by rfl, ?_⟩) ?_ ?_; rotate_left; focus (intro w'; go_simp; with_reducible rfl)
          rotate_left; focus (simp only [Act.put, s1, s2, s3, i64_w, i32_w]; rfl)
          refine pure_ (i := 5) (N := some 70) (v := ?_) (a' := ?_) #[T, T, T, T, T, T, T, O, O] rfl rfl (any_of HT_.out (by kernel_rfl)) (fun _ _ _ h => h) (Or.inl ⟨by rfl, ?_⟩) ?_ ?_; rotate_left; focus (intro w'; go_simp; with_reducible rfl)
          rotate_left; focus (simp only [Act.put, s1, s2, s3, i64_w, i32_w]; rfl)
          exact norm_ (by simp only [putAll, Act.put, s1, s2, s3]) (hCont (gb751) _ ⟨hHeld, (kx BK723), (kx BK724), (kx BK728), (kx BK732), (kx BK736), (kx BK737), (kx BK745), (kx BK751), GW751.out, GE751.out, NB723_751.out, NB751_723.out, NB724_751.out, NB751_724.out, NB728_751.out, NB751_728.out, NB732_751.out, NB751_732.out, NB736_751.out, NB751_736.out, NB737_751.out, NB751_737.out, NB745_751.out, NB751_745.out, (ky HB)⟩)
      rintro gb751 w89 ⟨hS_, h0_, h1_, h2_, h3_, h4_, h5_, h6_, h7_, h8_, h9_, h10_, h11_, h12_, h13_, h14_, h15_, h16_, h17_, h18_, h19_, h20_, h21_, h22_, h23_, h24_⟩
      clear BK723 BK724 BK728 BK732 BK736 BK737 BK745 HB
      have BK723 := A0 h0_; have BK724 := A0 h1_; have BK728 := A0 h2_; have BK732 := A0 h3_; have BK736 := A0 h4_; have BK737 := A0 h5_; have BK745 := A0 h6_; have BK751 := A0 h7_; have GW751 := A0 h8_; have GE751 := A0 h9_; have NB723_751 := A0 h10_; have NB751_723 := A0 h11_; have NB724_751 := A0 h12_; have NB751_724 := A0 h13_; have NB728_751 := A0 h14_; have NB751_728 := A0 h15_; have NB732_751 := A0 h16_; have NB751_732 := A0 h17_; have NB736_751 := A0 h18_; have NB751_736 := A0 h19_; have NB737_751 := A0 h20_; have NB751_737 := A0 h21_; have NB745_751 := A0 h22_; have NB751_745 := A0 h23_; have HB := A0 h24_
      clear h0_ h1_ h2_ h3_ h4_ h5_ h6_ h7_ h8_ h9_ h10_ h11_ h12_ h13_ h14_ h15_ h16_ h17_ h18_ h19_ h20_ h21_ h22_ h23_ h24_
      have hHeld := hS_
      refine norm_ (a' := ?_) ?_ ?_; rotate_left; focus (simp only [putAll, Act.put, s1, s2, s3]; rfl)
      refine one_ (i := 7) (N := none) #[T, T, T, T, T, T, T, T, O] rfl rfl (one_of HT_.out (by kernel_rfl)) (by decide) (fun K hK => ?_)
      have hs90 : w89.cell? ⟨gb751, 0, none⟩ = some (.int .i64 0) := kc BK751 0
      have hfs90 := blk_frozen BK751.out 0
      have hns90_0 := NB723_751.out; have hns90_1 := NB724_751.out; have hns90_2 := NB728_751.out; have hns90_3 := NB732_751.out; have hns90_4 := NB736_751.out; have hns90_5 := NB737_751.out; have hns90_6 := NB745_751.out; have hms90_0 := NB751_723.out; have hms90_1 := NB751_724.out; have hms90_2 := NB751_728.out; have hms90_3 := NB751_732.out; have hms90_4 := NB751_736.out; have hms90_5 := NB751_737.out; have hms90_6 := NB751_745.out
      have hs91 : w89.cell? ⟨gb751, 1, none⟩ = some (.int .u64 0) := kc BK751 1
      have hfs91 := blk_frozen BK751.out 1
      have hns91_0 := NB723_751.out; have hns91_1 := NB724_751.out; have hns91_2 := NB728_751.out; have hns91_3 := NB732_751.out; have hns91_4 := NB736_751.out; have hns91_5 := NB737_751.out; have hns91_6 := NB745_751.out; have hms91_0 := NB751_723.out; have hms91_1 := NB751_724.out; have hms91_2 := NB751_728.out; have hms91_3 := NB751_732.out; have hms91_4 := NB751_736.out; have hms91_5 := NB751_737.out; have hms91_6 := NB751_745.out
      refine skip_ (w1 := ?_) (by rfl) rfl ?_ ?_
      rotate_left
      · go_simp
        rfl
      refine hK.out _ _ ⟨((cell_far (p := ⟨gb751, _, none⟩) NB745_751.out _).trans (((cell_far (p := ⟨gb751, _, none⟩) NB745_751.out _).trans (hHeld.1)))), ((cell_far (p := ⟨gb751, _, none⟩) NB745_751.out _).trans (((cell_far (p := ⟨gb751, _, none⟩) NB745_751.out _).trans (hHeld.2))))⟩ (fun hHeld => ?_)
      clear hK K
      refine pure_ (i := 8) (N := some 14) (v := ?_) (a' := ?_) #[T, T, T, T, T, T, T, T, T] rfl rfl (any_of HT_.out (by kernel_rfl)) (fun _ _ _ h => h) (Or.inl ⟨by rfl, ?_⟩) ?_ ?_; rotate_left; focus (intro w'; go_simp; with_reducible rfl)
      rotate_left; focus (simp only [Act.put, s1, s2, s3, i64_w, i32_w]; rfl)
      refine done_ (done_of HT_.out (by kernel_rfl)) ?_
      go_upto_region 10 with (fail)
      go_cut [76] (fun v76 wc => ∃ (kq : Nat) (x76_50 : Bool), v76 = .bool x76_50 ∧ Aside0 (cobweblaw02_FracTurned.j1 kq x76_50 a0_0 a0_1 a0_2 a0_3 t742 t743 t748 t749 = some r) ∧ Aside0 (kq ≤ kj4) ∧ Aside0 (wc.heap[gb723]? = some (.cells #[.int .i64 a0_0, .int .u64 a0_1, .int .i64 a0_2, .int .u64 a0_3] 26 (0, 0))) ∧ Aside0 (wc.heap[gb724]? = some (.cells #[.int .i64 a1_0, .int .u64 a1_1, .int .i64 a1_2, .int .u64 a1_3] 26 (0, 0))) ∧ Aside0 (wc.heap[gb728]? = some (.cells #[.int .i64 t725, .int .u64 t726] 24 (0, 0))) ∧ Aside0 (wc.heap[gb732]? = some (.cells #[.int .i64 t729, .int .u64 t730] 24 (0, 0))) ∧ Aside0 (wc.heap[gb736]? = some (.cells #[.int .i64 t725, .int .u64 t726, .int .i64 a0_2, .int .u64 a0_3] 26 (0, 0))) ∧ Aside0 (wc.heap[gb737]? = some (.cells #[.int .i64 t729, .int .u64 t730, .int .i64 a1_2, .int .u64 a1_3] 26 (0, 0))) ∧ Aside0 (wc.heap[gb745]? = some (.cells #[.int .i64 t742, .int .u64 t743] 24 (0, 0))) ∧ Aside0 (wc.heap[gb751]? = some (.cells #[.int .i64 t748, .int .u64 t749] 24 (0, 0))) ∧ Aside0 (Below w.heap.size w wc))
      case first =>
        have H := HC51.out; clear HC51
        by_cases c92 : t744 = true
        · subst c92
          have H1 : (cobweblaw02_FracTurned.j1 kj4 (!t750) a0_0 a0_1 a0_2 a0_3 t742 t743 t748 t749) = some r := by rw [if_pos rfl] at H; exact H
          clear H; have H := H1; clear H1
          have H' := Aside0.mk H
          clear H
          go_wp2
          go_meet
          case rel => exact ⟨_, (!t750), (by first | rfl | (simp; done) | (simp [*]; done)), H', ⟨by have := HJ4.out; first | omega | exact Nat.le_refl _⟩, ⟨kx BK723⟩, ⟨kx BK724⟩, ⟨kx BK728⟩, ⟨kx BK732⟩, ⟨kx BK736⟩, ⟨kx BK737⟩, ⟨kx BK745⟩, ⟨by (with_reducible repeat (first | refine blk_drewN ?_ _ | refine blk_drew ?_ | refine blk_alloc ?_ _)); refine blk_put (cs := #[.int .i64 t748, .int .u64 0]) ?_ 1 _ rfl; (with_reducible repeat (first | refine blk_drewN ?_ _ | refine blk_drew ?_ | refine blk_alloc ?_ _)); refine blk_put (cs := #[.int .i64 0, .int .u64 0]) ?_ 0 _ rfl; (with_reducible repeat (first | refine blk_drewN ?_ _ | refine blk_drew ?_ | refine blk_alloc ?_ _)); exact BK751.out⟩, ⟨ky HB⟩⟩
        replace c92 := Bool.eq_false_iff.mpr c92
        subst c92
        have H1 : (cobweblaw02_FracTurned.j1 kj4 true a0_0 a0_1 a0_2 a0_3 t742 t743 t748 t749) = some r := by rw [if_neg (show ¬ (false = true) by decide)] at H; exact H
        clear H; have H := H1; clear H1
        have H' := Aside0.mk H
        clear H
        go_wp2
        go_meet
        case rel => exact ⟨_, (true), (by first | rfl | (simp; done) | (simp [*]; done)), H', ⟨by have := HJ4.out; first | omega | exact Nat.le_refl _⟩, ⟨kx BK723⟩, ⟨kx BK724⟩, ⟨kx BK728⟩, ⟨kx BK732⟩, ⟨kx BK736⟩, ⟨kx BK737⟩, ⟨kx BK745⟩, ⟨by (with_reducible repeat (first | refine blk_drewN ?_ _ | refine blk_drew ?_ | refine blk_alloc ?_ _)); refine blk_put (cs := #[.int .i64 t748, .int .u64 0]) ?_ 1 _ rfl; (with_reducible repeat (first | refine blk_drewN ?_ _ | refine blk_drew ?_ | refine blk_alloc ?_ _)); refine blk_put (cs := #[.int .i64 0, .int .u64 0]) ?_ 0 _ rfl; (with_reducible repeat (first | refine blk_drewN ?_ _ | refine blk_drew ?_ | refine blk_alloc ?_ _)); exact BK751.out⟩, ⟨ky HB⟩⟩
      case rest =>
        clear HC51; try clear c2; try clear p2; try clear c3; try clear c9; try clear c24; try clear c31; try clear c92
        obtain ⟨kq, x76_50, rfl, HA, HJ50, BK723, BK724, BK728, BK732, BK736, BK737, BK745, BK751, HB⟩ := hcut
        cases kq with
        | zero => exact absurd HA.out (by simp [cobweblaw02_FracTurned.j1])
        | succ kj50 =>
          have H := HA.out; clear HA
          simp only [cobweblaw02_FracTurned.j1] at H
          by_cases c93 : x76_50 = true
          · subst c93
            have H1 : ((cobweblaw02_alive.f kj50).bind fun t752 => (some t752)) = some r := by rw [if_pos rfl] at H; exact H
            clear H; have H := H1; clear H1
            replace H := Option.bind_eq_some_iff.mp H
            obtain ⟨t752, A940, H⟩ := H
            replace H : (some t752) = some r := H
            have A94 := Aside0.mk A940
            clear A940
            obtain rfl := Option.some.inj H
            go_wp2_with (first | ((with_reducible refine gate_callee (f := 16) rfl ?_); refine goesL_ (some 77) rfl rfl Try.func16 (by kernel_rfl) rfl #[] rfl (by (try simp only [List.map_toArray, List.map_cons, List.map_nil]); first | done | rfl | (simp only [List.length_drop, List.length_take]; rfl)) ?_; (with_reducible refine (cobweblaw02_alive.calls kj50  t752 _ A94.out).mono ?_); rintro e w95 ⟨rfl, hb⟩; refine ⟨_, rfl, ?_⟩; replace BK723 := kb BK723 hb; replace BK724 := kb BK724 hb; replace BK728 := kb BK728 hb; replace BK732 := kb BK732 hb; replace BK736 := kb BK736 hb; replace BK737 := kb BK737 hb; replace BK745 := kb BK745 hb; replace BK751 := kb BK751 hb; replace HB := kB HB hb; (try clear hb); (try clear hb2); (try clear hk); (try clear hi)))
            go_ret
            exact ⟨by first | rfl | (simp [errW_none, errW_some] <;> rfl) | (simp [*, errW_none, errW_some] <;> rfl), ky HB⟩
          replace c93 := Bool.eq_false_iff.mpr c93
          subst c93
          have H1 : ((cobweblaw02_alive.f kj50).bind fun t753 => (if t753 = true then ((wide_Of.f 1).bind fun bt754 => ((frac_Cmp.f kj50 t742 t743 bt754.1 bt754.2 a0_0 a0_1 a0_2 a0_3).bind fun t756 => (if t756 ≥ 0 then ((wide_Of.f 1).bind fun bt757 => ((frac_Cmp.f kj50 t748 t749 bt757.1 bt757.2 a0_0 a0_1 a0_2 a0_3).bind fun t759 => (some (decide (t759 < 0))))) else (none)))) else (none))) = some r := by rw [if_neg (show ¬ (false = true) by decide)] at H; exact H
          clear H; have H := H1; clear H1
          replace H := Option.bind_eq_some_iff.mp H
          obtain ⟨t753, A960, H⟩ := H
          replace H : (if t753 = true then ((wide_Of.f 1).bind fun bt754 => ((frac_Cmp.f kj50 t742 t743 bt754.1 bt754.2 a0_0 a0_1 a0_2 a0_3).bind fun t756 => (if t756 ≥ 0 then ((wide_Of.f 1).bind fun bt757 => ((frac_Cmp.f kj50 t748 t749 bt757.1 bt757.2 a0_0 a0_1 a0_2 a0_3).bind fun t759 => (some (decide (t759 < 0))))) else (none)))) else (none)) = some r := H
          have A96 := Aside0.mk A960
          clear A960
          by_cases c97 : t753 = true
          rotate_left
          · replace c97 := Bool.eq_false_iff.mpr c97
            subst c97
            have H1 : (none) = some r := by rw [if_neg (show ¬ (false = true) by decide)] at H; exact H
            clear H; have H := H1; clear H1
            exact absurd H (by simp)
          subst c97
          have H1 : ((wide_Of.f 1).bind fun bt754 => ((frac_Cmp.f kj50 t742 t743 bt754.1 bt754.2 a0_0 a0_1 a0_2 a0_3).bind fun t756 => (if t756 ≥ 0 then ((wide_Of.f 1).bind fun bt757 => ((frac_Cmp.f kj50 t748 t749 bt757.1 bt757.2 a0_0 a0_1 a0_2 a0_3).bind fun t759 => (some (decide (t759 < 0))))) else (none)))) = some r := by rw [if_pos rfl] at H; exact H
          clear H; have H := H1; clear H1
          replace H := Option.bind_eq_some_iff.mp H
          obtain ⟨⟨t754, t755⟩, A980, H⟩ := H
          replace H : ((frac_Cmp.f kj50 t742 t743 t754 t755 a0_0 a0_1 a0_2 a0_3).bind fun t756 => (if t756 ≥ 0 then ((wide_Of.f 1).bind fun bt757 => ((frac_Cmp.f kj50 t748 t749 bt757.1 bt757.2 a0_0 a0_1 a0_2 a0_3).bind fun t759 => (some (decide (t759 < 0))))) else (none))) = some r := H
          have A98 := Aside0.mk A980
          clear A980
          replace H := Option.bind_eq_some_iff.mp H
          obtain ⟨t756, A990, H⟩ := H
          replace H : (if t756 ≥ 0 then ((wide_Of.f 1).bind fun bt757 => ((frac_Cmp.f kj50 t748 t749 bt757.1 bt757.2 a0_0 a0_1 a0_2 a0_3).bind fun t759 => (some (decide (t759 < 0))))) else (none)) = some r := H
          have A99 := Aside0.mk A990
          clear A990
          by_cases c100 : t756 ≥ 0
          rotate_left
          · rw [if_neg c100] at H
            exact absurd H (by simp)
          rw [if_pos c100] at H
          have c100b0 : decide (0 ≤ t756) = true := decide_eq_true c100
          clear c100
          replace H := Option.bind_eq_some_iff.mp H
          obtain ⟨⟨t757, t758⟩, A1010, H⟩ := H
          replace H : ((frac_Cmp.f kj50 t748 t749 t757 t758 a0_0 a0_1 a0_2 a0_3).bind fun t759 => (some (decide (t759 < 0)))) = some r := H
          have A101 := Aside0.mk A1010
          clear A1010
          replace H := Option.bind_eq_some_iff.mp H
          obtain ⟨t759, A1020, H⟩ := H
          replace H : (some (decide (t759 < 0))) = some r := H
          have A102 := Aside0.mk A1020
          clear A1020
          obtain rfl := Option.some.inj H
          try go_wp2
          replace BK723 := Aside0.mk (blk_drew BK723.out)
          replace BK724 := Aside0.mk (blk_drew BK724.out)
          replace BK728 := Aside0.mk (blk_drew BK728.out)
          replace BK732 := Aside0.mk (blk_drew BK732.out)
          replace BK736 := Aside0.mk (blk_drew BK736.out)
          replace BK737 := Aside0.mk (blk_drew BK737.out)
          replace BK745 := Aside0.mk (blk_drew BK745.out)
          replace BK751 := Aside0.mk (blk_drew BK751.out)
          replace HB := Aside0.mk (below_drew1 HB.out)
          refine start_ (n := 18) (S := fun w' => w'.cell? ⟨gb745, 0, none⟩ = some (.int .i64 t742) ∧ w'.cell? ⟨gb745, 1, none⟩ = some (.int .u64 t743) ∧ w'.cell? ⟨gb723, 0, none⟩ = some (.int .i64 a0_0) ∧ w'.cell? ⟨gb723, 1, none⟩ = some (.int .u64 a0_1) ∧ w'.cell? ⟨gb723, 2, none⟩ = some (.int .i64 a0_2) ∧ w'.cell? ⟨gb723, 3, none⟩ = some (.int .u64 a0_3) ∧ w'.cell? ⟨gb751, 0, none⟩ = some (.int .i64 t748) ∧ w'.cell? ⟨gb751, 1, none⟩ = some (.int .u64 t749)) (ds := []) #[O, O, O, O, O, O, O, O, O, O, O, O, O, O, O, O, O, O] (by kernel_rfl) rfl rfl ⟨kc BK745 0, kc BK745 1, kc BK723 0, kc BK723 1, kc BK723 2, kc BK723 3, kc BK751 0, kc BK751 1⟩ (fun hHeld => ?_); refine with_tabW cobweblaw02_FracTurned.tab12 cobweblaw02_FracTurned.bits12 (fun HT_ HW_ => ?_)
          generalize wc.drew = w103 at BK723 BK724 BK728 BK732 BK736 BK737 BK745 BK751 HB hHeld ⊢
          refine one_ (i := 0) (N := some 78) #[T, O, O, O, O, O, O, O, O, O, O, O, O, O, O, O, O, O] rfl rfl (one_of HT_.out (by kernel_rfl)) (by decide) (fun K hK => ?_)
          refine goes_ Try.func16 (by kernel_rfl) rfl #[] (by rfl) rfl rfl (by (try simp only [List.map_toArray, List.map_cons, List.map_nil]); first | done | rfl | (simp only [List.length_drop, List.length_take]; rfl)) ?_
          with_reducible refine (cobweblaw02_alive.calls kj50  true _ A96.out).mono ?_
          rintro e w104 ⟨rfl, hb⟩
          refine ⟨_, rfl, ?_⟩
          replace BK723 := kb BK723 hb
          replace BK724 := kb BK724 hb
          replace BK728 := kb BK728 hb
          replace BK732 := kb BK732 hb
          replace BK736 := kb BK736 hb
          replace BK737 := kb BK737 hb
          replace BK745 := kb BK745 hb
          replace BK751 := kb BK751 hb
          replace HB := kB HB hb
          (try clear hb); (try clear hb2); (try clear hk); (try clear hi)
          refine hK.out _ _ ⟨kc BK745 0, kc BK745 1, kc BK723 0, kc BK723 1, kc BK723 2, kc BK723 3, kc BK751 0, kc BK751 1⟩ (fun hHeld => ?_)
          clear hK K
          refine norm_ (a' := ?_) ?_ ?_; rotate_left; focus (show Act.put _ (some 78) _ = _; simp only [Act.put, s1, s2, s3, i64_w, i32_w]; rfl)
          refine pure_ (i := 1) (N := some 79) (v := ?_) (a' := ?_) #[T, T, O, O, O, O, O, O, O, O, O, O, O, O, O, O, O, O] rfl rfl (any_of HT_.out (by kernel_rfl)) (fun _ _ _ h => h) (Or.inl ⟨by rfl, ?_⟩) ?_ ?_; rotate_left; focus (intro w'; go_simp; with_reducible rfl)
          rotate_left; focus (simp only [Act.put, s1, s2, s3, i64_w, i32_w]; rfl)
          refine take_ (i := 2) (N := some 80) (v := ?_) (a' := ?_) #[T, T, T, O, O, O, O, O, O, O, O, O, O, O, O, O, O, O] rfl rfl (take_ofW HT_.out HW_.out (by kernel_rfl)) (fun _ _ _ h => h) (Or.inl ⟨by rfl, ?_⟩) hHeld ?_ ?_; rotate_left; focus (rintro w' ⟨s0, s1, s2, s3, s4, s5, s6, s7⟩; go_simp; with_reducible rfl)
          rotate_left; focus (simp only [Act.put, s1, s2, s3, i64_w, i32_w]; rfl)
          refine take_ (i := 5) (N := some 83) (v := ?_) (a' := ?_) #[T, T, T, O, O, T, O, O, O, O, O, O, O, O, O, O, O, O] rfl rfl (take_ofW HT_.out HW_.out (by kernel_rfl)) (fun _ _ _ h => h) (Or.inl ⟨by rfl, ?_⟩) hHeld ?_ ?_; rotate_left; focus (rintro w' ⟨s0, s1, s2, s3, s4, s5, s6, s7⟩; go_simp; with_reducible rfl)
          rotate_left; focus (simp only [Act.put, s1, s2, s3, i64_w, i32_w]; rfl)
          refine one_ (i := 3) (N := some 81) #[T, T, T, T, O, T, O, O, O, O, O, O, O, O, O, O, O, O] rfl rfl (one_of HT_.out (by kernel_rfl)) (by decide) (fun K hK => ?_)
          refine goes_ Try.func24 (by kernel_rfl) rfl #[.int .i64 1] (by rfl) rfl rfl (by (try simp only [List.map_toArray, List.map_cons, List.map_nil]); first | done | rfl | (simp only [List.length_drop, List.length_take]; rfl)) ?_
          with_reducible refine (wide_Of.calls 1 t754 t755 _ A98.out).mono ?_
          rintro e w105 ⟨rfl, hb⟩
          refine ⟨_, rfl, ?_⟩
          replace BK723 := kb BK723 hb
          replace BK724 := kb BK724 hb
          replace BK728 := kb BK728 hb
          replace BK732 := kb BK732 hb
          replace BK736 := kb BK736 hb
          replace BK737 := kb BK737 hb
          replace BK745 := kb BK745 hb
          replace BK751 := kb BK751 hb
          replace HB := kB HB hb
          (try clear hb); (try clear hb2); (try clear hk); (try clear hi)
          refine hK.out _ _ ⟨kc BK745 0, kc BK745 1, kc BK723 0, kc BK723 1, kc BK723 2, kc BK723 3, kc BK751 0, kc BK751 1⟩ (fun hHeld => ?_)
          clear hK K
          refine norm_ (a' := ?_) ?_ ?_; rotate_left; focus (show Act.put _ (some 81) _ = _; simp only [Act.put, s1, s2, s3, i64_w, i32_w]; rfl)
          refine pure_ (i := 4) (N := some 82) (v := ?_) (a' := ?_) #[T, T, T, T, T, T, O, O, O, O, O, O, O, O, O, O, O, O] rfl rfl (any_of HT_.out (by kernel_rfl)) (fun _ _ _ h => h) (Or.inl ⟨by rfl, ?_⟩) ?_ ?_; rotate_left; focus (intro w'; go_simp; with_reducible rfl)
          rotate_left; focus (simp only [Act.put, s1, s2, s3, i64_w, i32_w]; rfl)
          refine one_ (i := 6) (N := some 84) #[T, T, T, T, T, T, T, O, O, O, O, O, O, O, O, O, O, O] rfl rfl (one_of HT_.out (by kernel_rfl)) (by decide) (fun K hK => ?_)
          refine goes_ Try.func14 (by kernel_rfl) rfl #[.agg #[.int .i64 t742, .int .u64 t743, .int .i64 t754, .int .u64 t755], .agg #[.int .i64 a0_0, .int .u64 a0_1, .int .i64 a0_2, .int .u64 a0_3]] (by rfl) rfl rfl (by (try simp only [List.map_toArray, List.map_cons, List.map_nil]); first | done | rfl | (simp only [List.length_drop, List.length_take]; rfl)) ?_
          with_reducible refine (frac_Cmp.calls kj50 t742 t743 t754 t755 a0_0 a0_1 a0_2 a0_3 t756 _ A99.out).mono ?_
          rintro e w106 ⟨rfl, hb⟩
          refine ⟨_, rfl, ?_⟩
          replace BK723 := kb BK723 hb
          replace BK724 := kb BK724 hb
          replace BK728 := kb BK728 hb
          replace BK732 := kb BK732 hb
          replace BK736 := kb BK736 hb
          replace BK737 := kb BK737 hb
          replace BK745 := kb BK745 hb
          replace BK751 := kb BK751 hb
          replace HB := kB HB hb
          (try clear hb); (try clear hb2); (try clear hk); (try clear hi)
          refine hK.out _ _ ⟨kc BK745 0, kc BK745 1, kc BK723 0, kc BK723 1, kc BK723 2, kc BK723 3, kc BK751 0, kc BK751 1⟩ (fun hHeld => ?_)
          clear hK K
          refine norm_ (a' := ?_) ?_ ?_; rotate_left; focus (show Act.put _ (some 84) _ = _; simp only [Act.put, s1, s2, s3, i64_w, i32_w]; rfl)
          refine pure_ (i := 7) (N := some 85) (v := ?_) (a' := ?_) #[T, T, T, T, T, T, T, T, O, O, O, O, O, O, O, O, O, O] rfl rfl (any_of HT_.out (by kernel_rfl)) (fun _ _ _ h => h) (Or.inl ⟨by rfl, ?_⟩) ?_ ?_; rotate_left; focus (intro w'; go_simp; with_reducible rfl)
          rotate_left; focus (simp only [Act.put, s1, s2, s3, i64_w, i32_w]; rfl)
          refine pure_ (i := 8) (N := some 86) (v := ?_) (a' := ?_) #[T, T, T, T, T, T, T, T, T, O, O, O, O, O, O, O, O, O] rfl rfl (any_of HT_.out (by kernel_rfl)) (fun _ _ _ h => h) (Or.inl ⟨by rfl, ?_⟩) ?_ ?_; rotate_left; focus (intro w'; go_simp; with_reducible rfl)
          rotate_left; focus (simp only [Act.put, s1, s2, s3, i64_w, i32_w]; rfl)
          refine pure_ (i := 9) (N := some 87) (v := ?_) (a' := ?_) #[T, T, T, T, T, T, T, T, T, T, O, O, O, O, O, O, O, O] rfl rfl (any_of HT_.out (by kernel_rfl)) (fun _ _ _ h => h) (Or.inl ⟨by rfl, ?_⟩) ?_ ?_; rotate_left; focus (intro w'; go_simp; with_reducible rfl)
          rotate_left; focus (simp only [Act.put, s1, s2, s3, i64_w, i32_w]; rfl)
          refine take_ (i := 10) (N := some 88) (v := ?_) (a' := ?_) #[T, T, T, T, T, T, T, T, T, T, T, O, O, O, O, O, O, O] rfl rfl (take_ofW HT_.out HW_.out (by kernel_rfl)) (fun _ _ _ h => h) (Or.inl ⟨by rfl, ?_⟩) hHeld ?_ ?_; rotate_left; focus (rintro w' ⟨s0, s1, s2, s3, s4, s5, s6, s7⟩; go_simp; with_reducible rfl)
          rotate_left; focus (simp only [Act.put, s1, s2, s3, i64_w, i32_w]; rfl)
          refine take_ (i := 13) (N := some 91) (v := ?_) (a' := ?_) #[T, T, T, T, T, T, T, T, T, T, T, O, O, T, O, O, O, O] rfl rfl (take_ofW HT_.out HW_.out (by kernel_rfl)) (fun _ _ _ h => h) (Or.inl ⟨by rfl, ?_⟩) hHeld ?_ ?_; rotate_left; focus (rintro w' ⟨s0, s1, s2, s3, s4, s5, s6, s7⟩; go_simp; with_reducible rfl)
          rotate_left; focus (simp only [Act.put, s1, s2, s3, i64_w, i32_w]; rfl)
          refine one_ (i := 11) (N := some 89) #[T, T, T, T, T, T, T, T, T, T, T, T, O, T, O, O, O, O] rfl rfl (one_of HT_.out (by kernel_rfl)) (by decide) (fun K hK => ?_)
          refine goes_ Try.func24 (by kernel_rfl) rfl #[.int .i64 1] (by rfl) rfl rfl (by (try simp only [List.map_toArray, List.map_cons, List.map_nil]); first | done | rfl | (simp only [List.length_drop, List.length_take]; rfl)) ?_
          with_reducible refine (wide_Of.calls 1 t757 t758 _ A101.out).mono ?_
          rintro e w107 ⟨rfl, hb⟩
          refine ⟨_, rfl, ?_⟩
          replace BK723 := kb BK723 hb
          replace BK724 := kb BK724 hb
          replace BK728 := kb BK728 hb
          replace BK732 := kb BK732 hb
          replace BK736 := kb BK736 hb
          replace BK737 := kb BK737 hb
          replace BK745 := kb BK745 hb
          replace BK751 := kb BK751 hb
          replace HB := kB HB hb
          (try clear hb); (try clear hb2); (try clear hk); (try clear hi)
          refine hK.out _ _ ⟨kc BK745 0, kc BK745 1, kc BK723 0, kc BK723 1, kc BK723 2, kc BK723 3, kc BK751 0, kc BK751 1⟩ (fun hHeld => ?_)
          clear hK K
          refine norm_ (a' := ?_) ?_ ?_; rotate_left; focus (show Act.put _ (some 89) _ = _; simp only [Act.put, s1, s2, s3, i64_w, i32_w]; rfl)
          refine pure_ (i := 12) (N := some 90) (v := ?_) (a' := ?_) #[T, T, T, T, T, T, T, T, T, T, T, T, T, T, O, O, O, O] rfl rfl (any_of HT_.out (by kernel_rfl)) (fun _ _ _ h => h) (Or.inl ⟨by rfl, ?_⟩) ?_ ?_; rotate_left; focus (intro w'; go_simp; with_reducible rfl)
          rotate_left; focus (simp only [Act.put, s1, s2, s3, i64_w, i32_w]; rfl)
          refine one_ (i := 14) (N := some 92) #[T, T, T, T, T, T, T, T, T, T, T, T, T, T, T, O, O, O] rfl rfl (one_of HT_.out (by kernel_rfl)) (by decide) (fun K hK => ?_)
          refine goes_ Try.func14 (by kernel_rfl) rfl #[.agg #[.int .i64 t748, .int .u64 t749, .int .i64 t757, .int .u64 t758], .agg #[.int .i64 a0_0, .int .u64 a0_1, .int .i64 a0_2, .int .u64 a0_3]] (by rfl) rfl rfl (by (try simp only [List.map_toArray, List.map_cons, List.map_nil]); first | done | rfl | (simp only [List.length_drop, List.length_take]; rfl)) ?_
          with_reducible refine (frac_Cmp.calls kj50 t748 t749 t757 t758 a0_0 a0_1 a0_2 a0_3 t759 _ A102.out).mono ?_
          rintro e w108 ⟨rfl, hb⟩
          refine ⟨_, rfl, ?_⟩
          replace BK723 := kb BK723 hb
          replace BK724 := kb BK724 hb
          replace BK728 := kb BK728 hb
          replace BK732 := kb BK732 hb
          replace BK736 := kb BK736 hb
          replace BK737 := kb BK737 hb
          replace BK745 := kb BK745 hb
          replace BK751 := kb BK751 hb
          replace HB := kB HB hb
          (try clear hb); (try clear hb2); (try clear hk); (try clear hi)
          refine hK.out _ _ ⟨kc BK745 0, kc BK745 1, kc BK723 0, kc BK723 1, kc BK723 2, kc BK723 3, kc BK751 0, kc BK751 1⟩ (fun hHeld => ?_)
          clear hK K
          refine norm_ (a' := ?_) ?_ ?_; rotate_left; focus (show Act.put _ (some 92) _ = _; simp only [Act.put, s1, s2, s3, i64_w, i32_w]; rfl)
          refine pure_ (i := 15) (N := some 93) (v := ?_) (a' := ?_) #[T, T, T, T, T, T, T, T, T, T, T, T, T, T, T, T, O, O] rfl rfl (any_of HT_.out (by kernel_rfl)) (fun _ _ _ h => h) (Or.inl ⟨by rfl, ?_⟩) ?_ ?_; rotate_left; focus (intro w'; go_simp; with_reducible rfl)
          rotate_left; focus (simp only [Act.put, s1, s2, s3, i64_w, i32_w]; rfl)
          refine pure_ (i := 16) (N := some 94) (v := ?_) (a' := ?_) #[T, T, T, T, T, T, T, T, T, T, T, T, T, T, T, T, T, O] rfl rfl (any_of HT_.out (by kernel_rfl)) (fun _ _ _ h => h) (Or.inl ⟨by rfl, ?_⟩) ?_ ?_; rotate_left; focus (intro w'; go_simp; with_reducible rfl)
          rotate_left; focus (simp only [Act.put, s1, s2, s3, i64_w, i32_w]; rfl)
          refine pure_ (i := 17) (N := some 4) (v := ?_) (a' := ?_) #[T, T, T, T, T, T, T, T, T, T, T, T, T, T, T, T, T, T] rfl rfl (any_of HT_.out (by kernel_rfl)) (fun _ _ _ h => h) (Or.inl ⟨by rfl, ?_⟩) ?_ ?_; rotate_left; focus (intro w'; go_simp; with_reducible rfl)
          rotate_left; focus (simp only [Act.put, s1, s2, s3, i64_w, i32_w]; rfl)
          refine done_ (done_of HT_.out (by kernel_rfl)) ?_
          try go_wp2
          go_ret
          exact ⟨by first | rfl | (simp [errW_none, errW_some] <;> rfl) | (simp [*, errW_none, errW_some] <;> rfl), ky HB⟩
end Go.Proofs.Ytpjbniihdndlmab.Q
