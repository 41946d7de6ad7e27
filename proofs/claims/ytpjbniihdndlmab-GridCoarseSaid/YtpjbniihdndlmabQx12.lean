-- Printed by wip/pp.sh (a session's own turning of the kit's print) for this seat.
import Derived.Test.YtpjbniihdndlmabQx0
import Derived.Test.YtpjbniihdndlmabQx1
import Derived.Test.YtpjbniihdndlmabQx5
import Derived.Test.YtpjbniihdndlmabQx6
namespace Go.Proofs.Ytpjbniihdndlmab.Q
open Go.RowKit Go.Proofs.YtpjbniihdndlmabW.PrintWords Go.Proofs.YtpjbniihdndlmabW.PrintLast Go.Proofs.YtpjbniihdndlmabW.PrintMore
open Go.Proofs.Ytpjbniihdndlmab.H
attribute [local go_sem] hq_add64 hq_sub64 hq_not64 add64c_nn sub64c_nn sub64c_le
attribute [local go_sem] max2_int min2_int max_two min_two max_three min_three max_four min_four   -- for this text's walks alone
set_option linter.unusedVariables false
set_option linter.unusedSimpArgs false

attribute [local go_sem high] eqA24
/-! ### frac_Cmp: function 14 -/
mutual
def frac_Cmp.j0 : Nat → Bool → Int → Int → Int → Int → Int → Int → Int → Int → Option (Int)
  | 0, _, _, _, _, _, _, _, _, _ => none
  | k + 1, x21, x172000, x172001, x172002, x172003, x173000, x173001, x173002, x173003 => if x21 = true then (some 0) else (frac_Cmp.l0 k x172000 x172001 x173000 x173001 x172002 x172003 x173002 x173003)
def frac_Cmp.l0 : Nat → Int → Int → Int → Int → Int → Int → Int → Int → Option (Int)
  | 0, _, _, _, _, _, _, _, _ => none
  | k + 1, x176000, x176001, x176002, x176003, x177000, x177001, x177002, x177003 => (wide_Div.f k x176000 x176001 x177000 x177001).bind fun bt177 => ((wide_Div.f k x176002 x176003 x177002 x177003).bind fun bt184 => ((wide_Cmp.f k bt177.1 bt177.2.1 bt184.1 bt184.2.1).bind fun t191 => (if t191 = 0 then ((wide_Sign.f bt177.2.2.1 bt177.2.2.2.1).bind fun t192 => (if t192 = 0 then (frac_Cmp.j2 k true x177000 x177001 x177002 x177003 bt177.2.2.1 bt177.2.2.2.1 bt184.2.2.1 bt184.2.2.2.1) else ((wide_Sign.f bt184.2.2.1 bt184.2.2.2.1).bind fun t193 => (frac_Cmp.j2 k (t193 == 0) x177000 x177001 x177002 x177003 bt177.2.2.1 bt177.2.2.2.1 bt184.2.2.1 bt184.2.2.2.1)))) else (some t191))))
def frac_Cmp.j2 : Nat → Bool → Int → Int → Int → Int → Int → Int → Int → Int → Option (Int)
  | 0, _, _, _, _, _, _, _, _, _ => none
  | k + 1, x63, x177000, x177001, x177002, x177003, x184000, x184001, x191000, x191001 => if x63 = true then ((wide_Sign.f x184000 x184001).bind fun t194 => ((wide_Sign.f x191000 x191001).bind fun t195 => (some (wrap64 (t194 - t195))))) else (frac_Cmp.l0 k x177002 x177003 x177000 x177001 x191000 x191001 x184000 x184001)
end
def frac_Cmp.f (k : Nat) (a0_0 : Int) (a0_1 : Int) (a0_2 : Int) (a0_3 : Int) (a1_0 : Int) (a1_1 : Int) (a1_2 : Int) (a1_3 : Int) : Option (Int) := (frac_Right.f a0_0 a0_1 a0_2 a0_3).bind fun t173 => (if t173 = true then ((frac_Right.f a1_0 a1_1 a1_2 a1_3).bind fun t174 => (frac_Cmp.j0 k (!t174) a0_0 a0_1 a0_2 a0_3 a1_0 a1_1 a1_2 a1_3)) else (frac_Cmp.j0 k true a0_0 a0_1 a0_2 a0_3 a1_0 a1_1 a1_2 a1_3))
theorem frac_Cmp.mono_l : ∀ k, (∀ y0 y1 y2 y3 y4 y5 y6 y7 y8, LeO (frac_Cmp.j0 k y0 y1 y2 y3 y4 y5 y6 y7 y8) (frac_Cmp.j0 (k + 1) y0 y1 y2 y3 y4 y5 y6 y7 y8)) ∧ (∀ y0 y1 y2 y3 y4 y5 y6 y7, LeO (frac_Cmp.l0 k y0 y1 y2 y3 y4 y5 y6 y7) (frac_Cmp.l0 (k + 1) y0 y1 y2 y3 y4 y5 y6 y7)) ∧ (∀ y0 y1 y2 y3 y4 y5 y6 y7 y8, LeO (frac_Cmp.j2 k y0 y1 y2 y3 y4 y5 y6 y7 y8) (frac_Cmp.j2 (k + 1) y0 y1 y2 y3 y4 y5 y6 y7 y8))
  | 0 => ⟨fun _ _ _ _ _ _ _ _ _ r h => by simp [frac_Cmp.j0] at h, fun _ _ _ _ _ _ _ _ r h => by simp [frac_Cmp.l0] at h, fun _ _ _ _ _ _ _ _ _ r h => by simp [frac_Cmp.j2] at h⟩
  | k + 1 => by
    obtain ⟨ih0, ih1, ih2⟩ := frac_Cmp.mono_l k
    refine ⟨?_, ?_, ?_⟩
    · intro y0 y1 y2 y3 y4 y5 y6 y7 y8
      unfold frac_Cmp.j0
      repeat' first
      | (with_reducible exact ih0 _ _ _ _ _ _ _ _ _)
      | (with_reducible exact ih1 _ _ _ _ _ _ _ _)
      | (with_reducible exact ih2 _ _ _ _ _ _ _ _ _)
      | (with_reducible exact wide_Cmp.mono _ _ _ _ _)
      | (with_reducible exact wide_Div.mono _ _ _ _ _)
      | (with_reducible exact LeO.refl _)
      | (with_reducible exact LeO.none _)
      | (with_reducible refine LeO.ite ?_ ?_)
      | (with_reducible refine LeO.bind ?_ (fun _ => ?_))
      | exact ih0 _ _ _ _ _ _ _ _ _
      | exact ih1 _ _ _ _ _ _ _ _
      | exact ih2 _ _ _ _ _ _ _ _ _
      | exact wide_Cmp.mono _ _ _ _ _
      | exact wide_Div.mono _ _ _ _ _
      | exact LeO.none _
      | refine LeO.ite ?_ ?_
      | refine LeO.bind ?_ (fun _ => ?_)
    · intro y0 y1 y2 y3 y4 y5 y6 y7
      unfold frac_Cmp.l0
      repeat' first
      | (with_reducible exact ih0 _ _ _ _ _ _ _ _ _)
      | (with_reducible exact ih1 _ _ _ _ _ _ _ _)
      | (with_reducible exact ih2 _ _ _ _ _ _ _ _ _)
      | (with_reducible exact wide_Cmp.mono _ _ _ _ _)
      | (with_reducible exact wide_Div.mono _ _ _ _ _)
      | (with_reducible exact LeO.refl _)
      | (with_reducible exact LeO.none _)
      | (with_reducible refine LeO.ite ?_ ?_)
      | (with_reducible refine LeO.bind ?_ (fun _ => ?_))
      | exact ih0 _ _ _ _ _ _ _ _ _
      | exact ih1 _ _ _ _ _ _ _ _
      | exact ih2 _ _ _ _ _ _ _ _ _
      | exact wide_Cmp.mono _ _ _ _ _
      | exact wide_Div.mono _ _ _ _ _
      | exact LeO.none _
      | refine LeO.ite ?_ ?_
      | refine LeO.bind ?_ (fun _ => ?_)
    · intro y0 y1 y2 y3 y4 y5 y6 y7 y8
      unfold frac_Cmp.j2
      repeat' first
      | (with_reducible exact ih0 _ _ _ _ _ _ _ _ _)
      | (with_reducible exact ih1 _ _ _ _ _ _ _ _)
      | (with_reducible exact ih2 _ _ _ _ _ _ _ _ _)
      | (with_reducible exact wide_Cmp.mono _ _ _ _ _)
      | (with_reducible exact wide_Div.mono _ _ _ _ _)
      | (with_reducible exact LeO.refl _)
      | (with_reducible exact LeO.none _)
      | (with_reducible refine LeO.ite ?_ ?_)
      | (with_reducible refine LeO.bind ?_ (fun _ => ?_))
      | exact ih0 _ _ _ _ _ _ _ _ _
      | exact ih1 _ _ _ _ _ _ _ _
      | exact ih2 _ _ _ _ _ _ _ _ _
      | exact wide_Cmp.mono _ _ _ _ _
      | exact wide_Div.mono _ _ _ _ _
      | exact LeO.none _
      | refine LeO.ite ?_ ?_
      | refine LeO.bind ?_ (fun _ => ?_)
theorem frac_Cmp.mono : ∀ a0 a1 a2 a3 a4 a5 a6 a7 k, LeO (frac_Cmp.f k a0 a1 a2 a3 a4 a5 a6 a7) (frac_Cmp.f (k + 1) a0 a1 a2 a3 a4 a5 a6 a7) := by
  intro a0 a1 a2 a3 a4 a5 a6 a7 k
  obtain ⟨ih0, ih1, ih2⟩ := frac_Cmp.mono_l k
  unfold frac_Cmp.f
  repeat' first
      | (with_reducible exact ih0 _ _ _ _ _ _ _ _ _)
      | (with_reducible exact ih1 _ _ _ _ _ _ _ _)
      | (with_reducible exact ih2 _ _ _ _ _ _ _ _ _)
      | (with_reducible exact wide_Cmp.mono _ _ _ _ _)
      | (with_reducible exact wide_Div.mono _ _ _ _ _)
      | (with_reducible exact LeO.refl _)
      | (with_reducible exact LeO.none _)
      | (with_reducible refine LeO.ite ?_ ?_)
      | (with_reducible refine LeO.bind ?_ (fun _ => ?_))
      | exact ih0 _ _ _ _ _ _ _ _ _
      | exact ih1 _ _ _ _ _ _ _ _
      | exact ih2 _ _ _ _ _ _ _ _ _
      | exact wide_Cmp.mono _ _ _ _ _
      | exact wide_Div.mono _ _ _ _ _
      | exact LeO.none _
      | refine LeO.ite ?_ ?_
      | refine LeO.bind ?_ (fun _ => ?_)
def frac_Cmp.T3 : Bool × List (List Nat × List Nat) := (true, [([], []), ([0], [0]), ([], []), ([2], [2]), ([1, 3], [1, 3]), ([], []), ([5], [5]), ([], []), ([7], [7]), ([6, 8], [6, 8]), ([], []), ([], []), ([10, 4, 0, 1, 2, 3, 4, 10, 11], [4, 10]), ([11, 9, 12, 0, 1, 2, 3, 4, 5, 6, 7, 8, 9, 10, 11, 12], [9, 11])])
def frac_Cmp.B3 : List Nat := [0, 1, 0, 4, 15, 0, 32, 0, 128, 480, 0, 0, 3103, 8191]
theorem frac_Cmp.tab3 : rtab .any (opsOf Try.f14 3) = frac_Cmp.T3 := by kernel_rfl
theorem frac_Cmp.bits3 : waitsOk frac_Cmp.T3.2 frac_Cmp.B3 = true := by kernel_rfl
def frac_Cmp.T11 : Bool × List (List Nat × List Nat) := (true, [([], []), ([0], [0]), ([], []), ([2], [2]), ([1, 3], [1, 3]), ([], []), ([], []), ([5, 6], [5, 6]), ([4, 0, 1, 2, 3, 4], [4]), ([7, 8, 0, 1, 2, 3, 4, 5, 6, 7, 8], [7])])
def frac_Cmp.B11 : List Nat := [0, 1, 0, 4, 15, 0, 0, 96, 31, 511]
theorem frac_Cmp.tab11 : rtab .any (opsOf Try.f14 11) = frac_Cmp.T11 := by kernel_rfl
theorem frac_Cmp.bits11 : waitsOk frac_Cmp.T11.2 frac_Cmp.B11 = true := by kernel_rfl
set_option maxHeartbeats 8000000 in
set_option maxRecDepth 100000 in
theorem frac_Cmp.calls (k : Nat) (a0_0 : Int) (a0_1 : Int) (a0_2 : Int) (a0_3 : Int) (a1_0 : Int) (a1_1 : Int) (a1_2 : Int) (a1_3 : Int) (r : Int) (w : World) (h : frac_Cmp.f k a0_0 a0_1 a0_2 a0_3 a1_0 a1_1 a1_2 a1_3 = some r) :
    Calls Try.prog 14 #[.agg #[.int .i64 a0_0, .int .u64 a0_1, .int .i64 a0_2, .int .u64 a0_3], .agg #[.int .i64 a1_0, .int .u64 a1_1, .int .i64 a1_2, .int .u64 a1_3]] w fun e w' => e = .returned (.int .i64 r) ∧ Below w.heap.size w w' := by
  have hu26 := Try.underlying26
  have hu24 := Try.underlying24
  have hu81 := Try.underlying81
  have HB := Aside0.mk (Below.refl w.heap.size w)
  have H : ((frac_Right.f a0_0 a0_1 a0_2 a0_3).bind fun t173 => (if t173 = true then ((frac_Right.f a1_0 a1_1 a1_2 a1_3).bind fun t174 => (frac_Cmp.j0 k (!t174) a0_0 a0_1 a0_2 a0_3 a1_0 a1_1 a1_2 a1_3)) else (frac_Cmp.j0 k true a0_0 a0_1 a0_2 a0_3 a1_0 a1_1 a1_2 a1_3))) = some r := h
  clear h
  have HC3 := Aside0.mk H
  clear H
  go_enter Try.func14, Try.ntmps14
  go_upto_region 1 with (first | ((with_reducible refine gate_dst (N := 2) rfl ?_); refine box_event ?hg (N := 2) ?hd (cs := #[.int .i64 a0_0, .int .u64 a0_1, .int .i64 a0_2, .int .u64 a0_3]) (t := 26) ?hr ?_; (case hd => rfl); (case hg => rfl); (case hr => first | (go_simp; done) | (go_simp; rfl)); intro gb171 hg w4 hbox hb; have BK171 := Aside0.mk (hbox); have GW171 := kS HB hg; have GE171 := kS HB hg; replace HB := kB HB hb; clear hb hbox hg) | ((with_reducible refine gate_dst (N := 3) rfl ?_); refine box_event ?hg (N := 3) ?hd (cs := #[.int .i64 a1_0, .int .u64 a1_1, .int .i64 a1_2, .int .u64 a1_3]) (t := 26) ?hr ?_; (case hd => rfl); (case hg => rfl); (case hr => first | (go_simp; done) | (go_simp; rfl)); intro gb172 hg w5 hbox hb; have BK172 := Aside0.mk (hbox); have GW172 := kS HB hg; have GE172 := kS HB hg; have NB171_172 := kN BK171 hg; have NB172_171 := kM BK171 hg; replace BK171 := kb BK171 hb; replace HB := kB HB hb; clear hb hbox hg))
  (try simp only [Act.put, s1, s2, s3])
  go_cut [21] (fun v21 wc => ∃ (kq : Nat) (x21_2 : Bool), v21 = .bool x21_2 ∧ Aside0 (frac_Cmp.j0 kq x21_2 a0_0 a0_1 a0_2 a0_3 a1_0 a1_1 a1_2 a1_3 = some r) ∧ Aside0 (kq ≤ k) ∧ Aside0 (wc.heap[gb171]? = some (.cells #[.int .i64 a0_0, .int .u64 a0_1, .int .i64 a0_2, .int .u64 a0_3] 26 (0, 0))) ∧ Aside0 (wc.heap[gb172]? = some (.cells #[.int .i64 a1_0, .int .u64 a1_1, .int .i64 a1_2, .int .u64 a1_3] 26 (0, 0))) ∧ Aside0 (Below w.heap.size w wc))
  case first =>
    have H := HC3.out; clear HC3
    replace H := Option.bind_eq_some_iff.mp H
    obtain ⟨t173, A60, H⟩ := H
    replace H : (if t173 = true then ((frac_Right.f a1_0 a1_1 a1_2 a1_3).bind fun t174 => (frac_Cmp.j0 k (!t174) a0_0 a0_1 a0_2 a0_3 a1_0 a1_1 a1_2 a1_3)) else (frac_Cmp.j0 k true a0_0 a0_1 a0_2 a0_3 a1_0 a1_1 a1_2 a1_3)) = some r := H
    have A6 := Aside0.mk A60
    clear A60
    by_cases c7 : t173 = true
    rotate_left
    · replace c7 := Bool.eq_false_iff.mpr c7
      subst c7
      have H1 : (frac_Cmp.j0 k true a0_0 a0_1 a0_2 a0_3 a1_0 a1_1 a1_2 a1_3) = some r := by rw [if_neg (show ¬ (false = true) by decide)] at H; exact H
      clear H; have H := H1; clear H1
      have H' := Aside0.mk H
      clear H; have hnb14 := NB171_172.out; have hnc14 := NB172_171.out
      have hcz15_0 : w5.cell? ⟨gb171, 0, none⟩ = some (.int .i64 a0_0) := kc BK171 0
      have hcz15_1 : w5.cell? ⟨gb171, 1, none⟩ = some (.int .u64 a0_1) := kc BK171 1
      have hcz15_2 : w5.cell? ⟨gb171, 2, none⟩ = some (.int .i64 a0_2) := kc BK171 2
      have hcz15_3 : w5.cell? ⟨gb171, 3, none⟩ = some (.int .u64 a0_3) := kc BK171 3
      have hfz15_0 := blk_frozen BK171.out 0
      have hfz15_1 := blk_frozen BK171.out 1
      have hfz15_2 := blk_frozen BK171.out 2
      have hfz15_3 := blk_frozen BK171.out 3
      go_wp2_with (first | ((with_reducible refine gate_callee (f := 20) rfl ?_); refine goesL_ (some 15) rfl rfl Try.func20 (by kernel_rfl) rfl #[.agg #[.int .i64 a0_0, .int .u64 a0_1, .int .i64 a0_2, .int .u64 a0_3]] rfl (by (try simp only [List.map_toArray, List.map_cons, List.map_nil]); first | done | rfl | (simp only [List.length_drop, List.length_take]; rfl)) ?_; (with_reducible refine (frac_Right.calls a0_0 a0_1 a0_2 a0_3 false _ A6.out).mono ?_); rintro e w16 ⟨rfl, hb⟩; refine ⟨_, rfl, ?_⟩; replace BK171 := kb BK171 hb; replace BK172 := kb BK172 hb; replace HB := kB HB hb; (try clear hb); (try clear hb2); (try clear hk); (try clear hi)))
      go_meet
      case rel => exact ⟨_, (true), (by first | rfl | (simp; done) | (simp [*]; done)), H', ⟨by first | omega | exact Nat.le_refl _⟩, ⟨kx BK171⟩, ⟨kx BK172⟩, ⟨ky HB⟩⟩
    subst c7
    have H1 : ((frac_Right.f a1_0 a1_1 a1_2 a1_3).bind fun t174 => (frac_Cmp.j0 k (!t174) a0_0 a0_1 a0_2 a0_3 a1_0 a1_1 a1_2 a1_3)) = some r := by rw [if_pos rfl] at H; exact H
    clear H; have H := H1; clear H1
    replace H := Option.bind_eq_some_iff.mp H
    obtain ⟨t174, A80, H⟩ := H
    replace H : (frac_Cmp.j0 k (!t174) a0_0 a0_1 a0_2 a0_3 a1_0 a1_1 a1_2 a1_3) = some r := H
    have A8 := Aside0.mk A80
    clear A80
    have H' := Aside0.mk H
    clear H; have hnb9 := NB171_172.out; have hnc9 := NB172_171.out
    have hcz10_0 : w5.cell? ⟨gb171, 0, none⟩ = some (.int .i64 a0_0) := kc BK171 0
    have hcz10_1 : w5.cell? ⟨gb171, 1, none⟩ = some (.int .u64 a0_1) := kc BK171 1
    have hcz10_2 : w5.cell? ⟨gb171, 2, none⟩ = some (.int .i64 a0_2) := kc BK171 2
    have hcz10_3 : w5.cell? ⟨gb171, 3, none⟩ = some (.int .u64 a0_3) := kc BK171 3
    have hfz10_0 := blk_frozen BK171.out 0
    have hfz10_1 := blk_frozen BK171.out 1
    have hfz10_2 := blk_frozen BK171.out 2
    have hfz10_3 := blk_frozen BK171.out 3
    go_wp2_with (first | ((with_reducible refine gate_callee (f := 20) rfl ?_); refine goesL_ (some 15) rfl rfl Try.func20 (by kernel_rfl) rfl #[.agg #[.int .i64 a0_0, .int .u64 a0_1, .int .i64 a0_2, .int .u64 a0_3]] rfl (by (try simp only [List.map_toArray, List.map_cons, List.map_nil]); first | done | rfl | (simp only [List.length_drop, List.length_take]; rfl)) ?_; (with_reducible refine (frac_Right.calls a0_0 a0_1 a0_2 a0_3 true _ A6.out).mono ?_); rintro e w11 ⟨rfl, hb⟩; refine ⟨_, rfl, ?_⟩; replace BK171 := kb BK171 hb; replace BK172 := kb BK172 hb; replace HB := kB HB hb; (try clear hb); (try clear hb2); (try clear hk); (try clear hi); have hcz12_0 : w11.cell? ⟨gb172, 0, none⟩ = some (.int .i64 a1_0) := kc BK172 0; have hcz12_1 : w11.cell? ⟨gb172, 1, none⟩ = some (.int .u64 a1_1) := kc BK172 1; have hcz12_2 : w11.cell? ⟨gb172, 2, none⟩ = some (.int .i64 a1_2) := kc BK172 2; have hcz12_3 : w11.cell? ⟨gb172, 3, none⟩ = some (.int .u64 a1_3) := kc BK172 3; have hfz12_0 := blk_frozen BK172.out 0; have hfz12_1 := blk_frozen BK172.out 1; have hfz12_2 := blk_frozen BK172.out 2; have hfz12_3 := blk_frozen BK172.out 3) | (go_at_call 20; (with_reducible refine (frac_Right.calls a1_0 a1_1 a1_2 a1_3 t174 _ A8.out).mono ?_); rintro e w13 ⟨rfl, hb⟩; replace BK171 := kb BK171 hb; replace BK172 := kb BK172 hb; replace HB := kB HB hb; (try clear hb); (try clear hb2); (try clear hk); (try clear hi)))
    go_meet
    case rel => exact ⟨_, (!t174), (by first | rfl | (simp; done) | (simp [*]; done)), H', ⟨by first | omega | exact Nat.le_refl _⟩, ⟨kx BK171⟩, ⟨kx BK172⟩, ⟨ky HB⟩⟩
  case rest =>
    clear HC3; try clear c1; try clear c2; try clear p2; try clear c7; try clear c9; try clear c14; try clear hcz10_0; try clear hcz10_1; try clear hcz10_2; try clear hcz10_3; try clear hcz12_0; try clear hcz12_1; try clear hcz12_2; try clear hcz12_3; try clear hcz15_0; try clear hcz15_1; try clear hcz15_2; try clear hcz15_3; try clear hfz10_0; try clear hfz10_1; try clear hfz10_2; try clear hfz10_3; try clear hfz12_0; try clear hfz12_1; try clear hfz12_2; try clear hfz12_3; try clear hfz15_0; try clear hfz15_1; try clear hfz15_2; try clear hfz15_3
    obtain ⟨kq, x21_2, rfl, HA, HJ2, BK171, BK172, HB⟩ := hcut
    cases kq with
    | zero => exact absurd HA.out (by simp [frac_Cmp.j0])
    | succ kj2 =>
      have H := HA.out; clear HA
      simp only [frac_Cmp.j0] at H
      by_cases c17 : x21_2 = true
      · subst c17
        have H1 : (some 0) = some r := by rw [if_pos rfl] at H; exact H
        clear H; have H := H1; clear H1
        obtain rfl := Option.some.inj H
        go_wp2
        go_ret
        exact ⟨by first | rfl | (simp [errW_none, errW_some] <;> rfl) | (simp [*, errW_none, errW_some] <;> rfl), ky HB⟩
      replace c17 := Bool.eq_false_iff.mpr c17
      subst c17
      have H1 : (frac_Cmp.l0 kj2 a0_0 a0_1 a1_0 a1_1 a0_2 a0_3 a1_2 a1_3) = some r := by rw [if_neg (show ¬ (false = true) by decide)] at H; exact H
      clear H; have H := H1; clear H1
      have H' := Aside0.mk H
      clear H
      try go_wp2
      replace BK171 := Aside0.mk (blk_drew BK171.out)
      replace BK172 := Aside0.mk (blk_drew BK172.out)
      replace HB := Aside0.mk (below_drew1 HB.out)
      refine start_ (n := 14) (S := fun w' => w'.cell? ⟨gb171, 0, none⟩ = some (.int .i64 a0_0) ∧ w'.cell? ⟨gb171, 1, none⟩ = some (.int .u64 a0_1) ∧ w'.cell? ⟨gb171, 2, none⟩ = some (.int .i64 a0_2) ∧ w'.cell? ⟨gb171, 3, none⟩ = some (.int .u64 a0_3) ∧ w'.cell? ⟨gb172, 0, none⟩ = some (.int .i64 a1_0) ∧ w'.cell? ⟨gb172, 1, none⟩ = some (.int .u64 a1_1) ∧ w'.cell? ⟨gb172, 2, none⟩ = some (.int .i64 a1_2) ∧ w'.cell? ⟨gb172, 3, none⟩ = some (.int .u64 a1_3)) (ds := []) #[O, O, O, O, O, O, O, O, O, O, O, O, O, O] (by kernel_rfl) rfl rfl ⟨kc BK171 0, kc BK171 1, kc BK171 2, kc BK171 3, kc BK172 0, kc BK172 1, kc BK172 2, kc BK172 3⟩ (fun hHeld => ?_); refine with_tabW frac_Cmp.tab3 frac_Cmp.bits3 (fun HT_ HW_ => ?_)
      generalize wc.drew = w18 at BK171 BK172 HB hHeld ⊢
      refine pure_ (i := 0) (N := some 22) (v := ?_) (a' := ?_) #[T, O, O, O, O, O, O, O, O, O, O, O, O, O] rfl rfl (any_of HT_.out (by kernel_rfl)) (fun _ _ _ h => h) (Or.inl ⟨by rfl, ?_⟩) ?_ ?_; rotate_left; focus (intro w'; go_simp; with_reducible rfl)
      rotate_left; focus (simp only [Act.put, s1, s2, s3, i64_w, i32_w]; rfl)
      refine pure_ (i := 2) (N := some 24) (v := ?_) (a' := ?_) #[T, O, T, O, O, O, O, O, O, O, O, O, O, O] rfl rfl (any_of HT_.out (by kernel_rfl)) (fun _ _ _ h => h) (Or.inl ⟨by rfl, ?_⟩) ?_ ?_; rotate_left; focus (intro w'; go_simp; with_reducible rfl)
      rotate_left; focus (simp only [Act.put, s1, s2, s3, i64_w, i32_w]; rfl)
      refine pure_ (i := 5) (N := some 27) (v := ?_) (a' := ?_) #[T, O, T, O, O, T, O, O, O, O, O, O, O, O] rfl rfl (any_of HT_.out (by kernel_rfl)) (fun _ _ _ h => h) (Or.inl ⟨by rfl, ?_⟩) ?_ ?_; rotate_left; focus (intro w'; go_simp; with_reducible rfl)
      rotate_left; focus (simp only [Act.put, s1, s2, s3, i64_w, i32_w]; rfl)
      refine pure_ (i := 7) (N := some 29) (v := ?_) (a' := ?_) #[T, O, T, O, O, T, O, T, O, O, O, O, O, O] rfl rfl (any_of HT_.out (by kernel_rfl)) (fun _ _ _ h => h) (Or.inl ⟨by rfl, ?_⟩) ?_ ?_; rotate_left; focus (intro w'; go_simp; with_reducible rfl)
      rotate_left; focus (simp only [Act.put, s1, s2, s3, i64_w, i32_w]; rfl)
      refine take_ (i := 1) (N := some 23) (v := ?_) (a' := ?_) #[T, T, T, O, O, T, O, T, O, O, O, O, O, O] rfl rfl (take_ofW HT_.out HW_.out (by kernel_rfl)) (fun _ _ _ h => h) (Or.inl ⟨by rfl, ?_⟩) hHeld ?_ ?_; rotate_left; focus (rintro w' ⟨s0, s1, s2, s3, s4, s5, s6, s7⟩; go_simp; with_reducible rfl)
      rotate_left; focus (simp only [Act.put, s1, s2, s3, i64_w, i32_w]; rfl)
      refine take_ (i := 3) (N := some 25) (v := ?_) (a' := ?_) #[T, T, T, T, O, T, O, T, O, O, O, O, O, O] rfl rfl (take_ofW HT_.out HW_.out (by kernel_rfl)) (fun _ _ _ h => h) (Or.inl ⟨by rfl, ?_⟩) hHeld ?_ ?_; rotate_left; focus (rintro w' ⟨s0, s1, s2, s3, s4, s5, s6, s7⟩; go_simp; with_reducible rfl)
      rotate_left; focus (simp only [Act.put, s1, s2, s3, i64_w, i32_w]; rfl)
      refine pure_ (i := 4) (N := some 26) (v := ?_) (a' := ?_) #[T, T, T, T, T, T, O, T, O, O, O, O, O, O] rfl rfl (any_of HT_.out (by kernel_rfl)) (fun _ _ _ h => h) (Or.inl ⟨by rfl, ?_⟩) ?_ ?_; rotate_left; focus (intro w'; go_simp; with_reducible rfl)
      rotate_left; focus (simp only [Act.put, s1, s2, s3, i64_w, i32_w]; rfl)
      refine take_ (i := 6) (N := some 28) (v := ?_) (a' := ?_) #[T, T, T, T, T, T, T, T, O, O, O, O, O, O] rfl rfl (take_ofW HT_.out HW_.out (by kernel_rfl)) (fun _ _ _ h => h) (Or.inl ⟨by rfl, ?_⟩) hHeld ?_ ?_; rotate_left; focus (rintro w' ⟨s0, s1, s2, s3, s4, s5, s6, s7⟩; go_simp; with_reducible rfl)
      rotate_left; focus (simp only [Act.put, s1, s2, s3, i64_w, i32_w]; rfl)
      refine take_ (i := 8) (N := some 30) (v := ?_) (a' := ?_) #[T, T, T, T, T, T, T, T, T, O, O, O, O, O] rfl rfl (take_ofW HT_.out HW_.out (by kernel_rfl)) (fun _ _ _ h => h) (Or.inl ⟨by rfl, ?_⟩) hHeld ?_ ?_; rotate_left; focus (rintro w' ⟨s0, s1, s2, s3, s4, s5, s6, s7⟩; go_simp; with_reducible rfl)
      rotate_left; focus (simp only [Act.put, s1, s2, s3, i64_w, i32_w]; rfl)
      refine pure_ (i := 9) (N := some 31) (v := ?_) (a' := ?_) #[T, T, T, T, T, T, T, T, T, T, O, O, O, O] rfl rfl (any_of HT_.out (by kernel_rfl)) (fun _ _ _ h => h) (Or.inl ⟨by rfl, ?_⟩) ?_ ?_; rotate_left; focus (intro w'; go_simp; with_reducible rfl)
      rotate_left; focus (simp only [Act.put, s1, s2, s3, i64_w, i32_w]; rfl)
      refine join_ (σ := Nat × Nat) 2 #[T, T, T, T, T, T, T, T, T, T, T, T, O, O] (fun s_ => [(5, .pointer (some ⟨s_.1, 0, none⟩)), (6, .pointer (some ⟨s_.2, 0, none⟩))]) (fun s_ w' => (w'.cell? ⟨gb171, 0, none⟩ = some (.int .i64 a0_0) ∧ w'.cell? ⟨gb171, 1, none⟩ = some (.int .u64 a0_1) ∧ w'.cell? ⟨gb171, 2, none⟩ = some (.int .i64 a0_2) ∧ w'.cell? ⟨gb171, 3, none⟩ = some (.int .u64 a0_3) ∧ w'.cell? ⟨gb172, 0, none⟩ = some (.int .i64 a1_0) ∧ w'.cell? ⟨gb172, 1, none⟩ = some (.int .u64 a1_1) ∧ w'.cell? ⟨gb172, 2, none⟩ = some (.int .i64 a1_2) ∧ w'.cell? ⟨gb172, 3, none⟩ = some (.int .u64 a1_3)) ∧ (w'.heap[gb171]? = some (.cells #[.int .i64 a0_0, .int .u64 a0_1, .int .i64 a0_2, .int .u64 a0_3] 26 (0, 0))) ∧ (w'.heap[gb172]? = some (.cells #[.int .i64 a1_0, .int .u64 a1_1, .int .i64 a1_2, .int .u64 a1_3] 26 (0, 0))) ∧ (w'.heap[s_.1]? = some (.cells #[.int .i64 0, .int .u64 0, .int .i64 0, .int .u64 0] 81 (0, 0))) ∧ (w'.heap[s_.2]? = some (.cells #[.int .i64 0, .int .u64 0, .int .i64 0, .int .u64 0] 81 (0, 0))) ∧ (w.heap.size ≤ s_.1) ∧ (w.heap.size ≤ s_.1) ∧ (gb171 ≠ s_.1) ∧ (s_.1 ≠ gb171) ∧ (gb172 ≠ s_.1) ∧ (s_.1 ≠ gb172) ∧ (s_.2 ≠ s_.1) ∧ (s_.1 ≠ s_.2) ∧ (w.heap.size ≤ s_.2) ∧ (w.heap.size ≤ s_.2) ∧ (gb171 ≠ s_.2) ∧ (s_.2 ≠ gb171) ∧ (gb172 ≠ s_.2) ∧ (s_.2 ≠ gb172) ∧ (Below w.heap.size w w')) ?_ ?_
      rotate_left
      · intro hCont
        refine two_ (i := 10) (j := 11) (Ni := some 5) (Nj := some 6) #[T, T, T, T, T, T, T, T, T, T, T, O, O, O] #[T, T, T, T, T, T, T, T, T, T, O, T, O, O] rfl rfl rfl rfl (two_of HT_.out (by kernel_rfl)) (by decide) (by decide) (fun K hK => ?_) (fun K hK => ?_)
        · skip
          refine box_step ?hg (N := 5) ?hd (cs := #[.int .i64 0, .int .u64 0, .int .i64 0, .int .u64 0]) (t := 81) ?hr ?_; (case hd => rfl); (case hg => rfl); (case hr => first | (go_simp; done) | (go_simp; rfl))
          intro gb175 hg w19 hbox hb
          have BK175 := Aside0.mk (hbox)
          have GW175 := kS HB hg
          have GE175 := kS HB hg
          have NB171_175 := kN BK171 hg
          have NB175_171 := kM BK171 hg
          have NB172_175 := kN BK172 hg
          have NB175_172 := kM BK172 hg
          replace BK171 := kb BK171 hb
          replace BK172 := kb BK172 hb
          replace HB := kB HB hb
          clear hb hbox hg
          refine hK.out _ _ ⟨kc BK171 0, kc BK171 1, kc BK171 2, kc BK171 3, kc BK172 0, kc BK172 1, kc BK172 2, kc BK172 3⟩ (fun hHeld => ?_)
          clear hK K
          refine norm_ (a' := ?_) ?_ ?_; rotate_left; focus (show Act.put _ (some 5) _ = _; simp only [Act.put, s1, s2, s3, i64_w, i32_w]; rfl)
          refine one_ (i := 11) (N := some 6) #[T, T, T, T, T, T, T, T, T, T, T, T, O, O] rfl rfl (one_of HT_.out (by kernel_rfl)) (by decide) (fun K hK => ?_)
          refine box_step ?hg (N := 6) ?hd (cs := #[.int .i64 0, .int .u64 0, .int .i64 0, .int .u64 0]) (t := 81) ?hr ?_; (case hd => rfl); (case hg => rfl); (case hr => first | (go_simp; done) | (go_simp; rfl))
          intro gb176 hg w20 hbox hb
          have BK176 := Aside0.mk (hbox)
          have GW176 := kS HB hg
          have GE176 := kS HB hg
          have NB171_176 := kN BK171 hg
          have NB176_171 := kM BK171 hg
          have NB172_176 := kN BK172 hg
          have NB176_172 := kM BK172 hg
          have NB175_176 := kN BK175 hg
          have NB176_175 := kM BK175 hg
          replace BK171 := kb BK171 hb
          replace BK172 := kb BK172 hb
          replace BK175 := kb BK175 hb
          replace HB := kB HB hb
          clear hb hbox hg
          refine hK.out _ _ ⟨kc BK171 0, kc BK171 1, kc BK171 2, kc BK171 3, kc BK172 0, kc BK172 1, kc BK172 2, kc BK172 3⟩ (fun hHeld => ?_)
          clear hK K
          refine norm_ (a' := ?_) ?_ ?_; rotate_left; focus (show Act.put _ (some 6) _ = _; simp only [Act.put, s1, s2, s3, i64_w, i32_w]; rfl)
          exact norm_ (by simp only [putAll, Act.put, s1, s2, s3]) (hCont (gb175, gb176) _ ⟨hHeld, (kx BK171), (kx BK172), (kx BK175), (kx BK176), GW175.out, GE175.out, NB171_175.out, NB175_171.out, NB172_175.out, NB175_172.out, NB176_175.out, NB175_176.out, GW176.out, GE176.out, NB171_176.out, NB176_171.out, NB172_176.out, NB176_172.out, (ky HB)⟩)
        · skip
          refine box_step ?hg (N := 6) ?hd (cs := #[.int .i64 0, .int .u64 0, .int .i64 0, .int .u64 0]) (t := 81) ?hr ?_; (case hd => rfl); (case hg => rfl); (case hr => first | (go_simp; done) | (go_simp; rfl))
          intro gb176 hg w19 hbox hb
          have BK176 := Aside0.mk (hbox)
          have GW176 := kS HB hg
          have GE176 := kS HB hg
          have NB171_176 := kN BK171 hg
          have NB176_171 := kM BK171 hg
          have NB172_176 := kN BK172 hg
          have NB176_172 := kM BK172 hg
          replace BK171 := kb BK171 hb
          replace BK172 := kb BK172 hb
          replace HB := kB HB hb
          clear hb hbox hg
          refine hK.out _ _ ⟨kc BK171 0, kc BK171 1, kc BK171 2, kc BK171 3, kc BK172 0, kc BK172 1, kc BK172 2, kc BK172 3⟩ (fun hHeld => ?_)
          clear hK K
          refine norm_ (a' := ?_) ?_ ?_; rotate_left; focus (show Act.put _ (some 6) _ = _; simp only [Act.put, s1, s2, s3, i64_w, i32_w]; rfl)
          refine one_ (i := 10) (N := some 5) #[T, T, T, T, T, T, T, T, T, T, T, T, O, O] rfl rfl (one_of HT_.out (by kernel_rfl)) (by decide) (fun K hK => ?_)
          refine box_step ?hg (N := 5) ?hd (cs := #[.int .i64 0, .int .u64 0, .int .i64 0, .int .u64 0]) (t := 81) ?hr ?_; (case hd => rfl); (case hg => rfl); (case hr => first | (go_simp; done) | (go_simp; rfl))
          intro gb175 hg w20 hbox hb
          have BK175 := Aside0.mk (hbox)
          have GW175 := kS HB hg
          have GE175 := kS HB hg
          have NB171_175 := kN BK171 hg
          have NB175_171 := kM BK171 hg
          have NB172_175 := kN BK172 hg
          have NB175_172 := kM BK172 hg
          have NB176_175 := kN BK176 hg
          have NB175_176 := kM BK176 hg
          replace BK171 := kb BK171 hb
          replace BK172 := kb BK172 hb
          replace BK176 := kb BK176 hb
          replace HB := kB HB hb
          clear hb hbox hg
          refine hK.out _ _ ⟨kc BK171 0, kc BK171 1, kc BK171 2, kc BK171 3, kc BK172 0, kc BK172 1, kc BK172 2, kc BK172 3⟩ (fun hHeld => ?_)
          clear hK K
          refine norm_ (a' := ?_) ?_ ?_; rotate_left; focus (show Act.put _ (some 5) _ = _; simp only [Act.put, s1, s2, s3, i64_w, i32_w]; rfl)
          exact norm_ (by simp only [putAll, Act.put, s1, s2, s3]) (hCont (gb175, gb176) _ ⟨hHeld, (kx BK171), (kx BK172), (kx BK175), (kx BK176), GW175.out, GE175.out, NB171_175.out, NB175_171.out, NB172_175.out, NB175_172.out, NB176_175.out, NB175_176.out, GW176.out, GE176.out, NB171_176.out, NB176_171.out, NB172_176.out, NB176_172.out, (ky HB)⟩)
      rintro ⟨gb175, gb176⟩ w21 ⟨hS_, h0_, h1_, h2_, h3_, h4_, h5_, h6_, h7_, h8_, h9_, h10_, h11_, h12_, h13_, h14_, h15_, h16_, h17_, h18_⟩
      clear BK171 BK172 HB
      have BK171 := A0 h0_; have BK172 := A0 h1_; have BK175 := A0 h2_; have BK176 := A0 h3_; have GW175 := A0 h4_; have GE175 := A0 h5_; have NB171_175 := A0 h6_; have NB175_171 := A0 h7_; have NB172_175 := A0 h8_; have NB175_172 := A0 h9_; have NB176_175 := A0 h10_; have NB175_176 := A0 h11_; have GW176 := A0 h12_; have GE176 := A0 h13_; have NB171_176 := A0 h14_; have NB176_171 := A0 h15_; have NB172_176 := A0 h16_; have NB176_172 := A0 h17_; have HB := A0 h18_
      clear h0_ h1_ h2_ h3_ h4_ h5_ h6_ h7_ h8_ h9_ h10_ h11_ h12_ h13_ h14_ h15_ h16_ h17_ h18_
      have hHeld := hS_
      refine norm_ (a' := ?_) ?_ ?_; rotate_left; focus (simp only [putAll, Act.put, s1, s2, s3]; rfl)
      refine one_ (i := 12) (N := none) #[T, T, T, T, T, T, T, T, T, T, T, T, T, O] rfl rfl (one_of HT_.out (by kernel_rfl)) (by decide) (fun K hK => ?_)
      have hs22 : w21.cell? ⟨gb175, 0, none⟩ = some (.int .i64 0) := kc BK175 0
      have hfs22 := blk_frozen BK175.out 0
      have hns22_0 := NB171_175.out; have hns22_1 := NB172_175.out; have hns22_3 := NB176_175.out; have hms22_0 := NB175_171.out; have hms22_1 := NB175_172.out; have hms22_3 := NB175_176.out
      have hs23 : w21.cell? ⟨gb175, 1, none⟩ = some (.int .u64 0) := kc BK175 1
      have hfs23 := blk_frozen BK175.out 1
      have hns23_0 := NB171_175.out; have hns23_1 := NB172_175.out; have hns23_3 := NB176_175.out; have hms23_0 := NB175_171.out; have hms23_1 := NB175_172.out; have hms23_3 := NB175_176.out
      have hs24 : w21.cell? ⟨gb175, 2, none⟩ = some (.int .i64 0) := kc BK175 2
      have hfs24 := blk_frozen BK175.out 2
      have hns24_0 := NB171_175.out; have hns24_1 := NB172_175.out; have hns24_3 := NB176_175.out; have hms24_0 := NB175_171.out; have hms24_1 := NB175_172.out; have hms24_3 := NB175_176.out
      have hs25 : w21.cell? ⟨gb175, 3, none⟩ = some (.int .u64 0) := kc BK175 3
      have hfs25 := blk_frozen BK175.out 3
      have hns25_0 := NB171_175.out; have hns25_1 := NB172_175.out; have hns25_3 := NB176_175.out; have hms25_0 := NB175_171.out; have hms25_1 := NB175_172.out; have hms25_3 := NB175_176.out
      refine skip_ (w1 := ?_) (by rfl) rfl ?_ ?_
      rotate_left
      · go_simp
        rfl
      refine hK.out _ _ ⟨((cell_far (p := ⟨gb175, _, none⟩) NB171_175.out _).trans (((cell_far (p := ⟨gb175, _, none⟩) NB171_175.out _).trans (((cell_far (p := ⟨gb175, _, none⟩) NB171_175.out _).trans (((cell_far (p := ⟨gb175, _, none⟩) NB171_175.out _).trans (hHeld.1)))))))), ((cell_far (p := ⟨gb175, _, none⟩) NB171_175.out _).trans (((cell_far (p := ⟨gb175, _, none⟩) NB171_175.out _).trans (((cell_far (p := ⟨gb175, _, none⟩) NB171_175.out _).trans (((cell_far (p := ⟨gb175, _, none⟩) NB171_175.out _).trans (hHeld.2.1)))))))), ((cell_far (p := ⟨gb175, _, none⟩) NB171_175.out _).trans (((cell_far (p := ⟨gb175, _, none⟩) NB171_175.out _).trans (((cell_far (p := ⟨gb175, _, none⟩) NB171_175.out _).trans (((cell_far (p := ⟨gb175, _, none⟩) NB171_175.out _).trans (hHeld.2.2.1)))))))), ((cell_far (p := ⟨gb175, _, none⟩) NB171_175.out _).trans (((cell_far (p := ⟨gb175, _, none⟩) NB171_175.out _).trans (((cell_far (p := ⟨gb175, _, none⟩) NB171_175.out _).trans (((cell_far (p := ⟨gb175, _, none⟩) NB171_175.out _).trans (hHeld.2.2.2.1)))))))), ((cell_far (p := ⟨gb175, _, none⟩) NB172_175.out _).trans (((cell_far (p := ⟨gb175, _, none⟩) NB172_175.out _).trans (((cell_far (p := ⟨gb175, _, none⟩) NB172_175.out _).trans (((cell_far (p := ⟨gb175, _, none⟩) NB172_175.out _).trans (hHeld.2.2.2.2.1)))))))), ((cell_far (p := ⟨gb175, _, none⟩) NB172_175.out _).trans (((cell_far (p := ⟨gb175, _, none⟩) NB172_175.out _).trans (((cell_far (p := ⟨gb175, _, none⟩) NB172_175.out _).trans (((cell_far (p := ⟨gb175, _, none⟩) NB172_175.out _).trans (hHeld.2.2.2.2.2.1)))))))), ((cell_far (p := ⟨gb175, _, none⟩) NB172_175.out _).trans (((cell_far (p := ⟨gb175, _, none⟩) NB172_175.out _).trans (((cell_far (p := ⟨gb175, _, none⟩) NB172_175.out _).trans (((cell_far (p := ⟨gb175, _, none⟩) NB172_175.out _).trans (hHeld.2.2.2.2.2.2.1)))))))), ((cell_far (p := ⟨gb175, _, none⟩) NB172_175.out _).trans (((cell_far (p := ⟨gb175, _, none⟩) NB172_175.out _).trans (((cell_far (p := ⟨gb175, _, none⟩) NB172_175.out _).trans (((cell_far (p := ⟨gb175, _, none⟩) NB172_175.out _).trans (hHeld.2.2.2.2.2.2.2))))))))⟩ (fun hHeld => ?_)
      clear hK K
      refine one_ (i := 13) (N := none) #[T, T, T, T, T, T, T, T, T, T, T, T, T, T] rfl rfl (one_of HT_.out (by kernel_rfl)) (by decide) (fun K hK => ?_)
      have hs26 : w21.cell? ⟨gb176, 0, none⟩ = some (.int .i64 0) := kc BK176 0
      have hfs26 := blk_frozen BK176.out 0
      have hns26_0 := NB171_176.out; have hns26_1 := NB172_176.out; have hns26_2 := NB175_176.out; have hms26_0 := NB176_171.out; have hms26_1 := NB176_172.out; have hms26_2 := NB176_175.out
      have hs27 : w21.cell? ⟨gb176, 1, none⟩ = some (.int .u64 0) := kc BK176 1
      have hfs27 := blk_frozen BK176.out 1
      have hns27_0 := NB171_176.out; have hns27_1 := NB172_176.out; have hns27_2 := NB175_176.out; have hms27_0 := NB176_171.out; have hms27_1 := NB176_172.out; have hms27_2 := NB176_175.out
      have hs28 : w21.cell? ⟨gb176, 2, none⟩ = some (.int .i64 0) := kc BK176 2
      have hfs28 := blk_frozen BK176.out 2
      have hns28_0 := NB171_176.out; have hns28_1 := NB172_176.out; have hns28_2 := NB175_176.out; have hms28_0 := NB176_171.out; have hms28_1 := NB176_172.out; have hms28_2 := NB176_175.out
      have hs29 : w21.cell? ⟨gb176, 3, none⟩ = some (.int .u64 0) := kc BK176 3
      have hfs29 := blk_frozen BK176.out 3
      have hns29_0 := NB171_176.out; have hns29_1 := NB172_176.out; have hns29_2 := NB175_176.out; have hms29_0 := NB176_171.out; have hms29_1 := NB176_172.out; have hms29_2 := NB176_175.out
      refine skip_ (w1 := ?_) (by rfl) rfl ?_ ?_
      rotate_left
      · go_simp
        rfl
      refine hK.out _ _ ⟨((cell_far (p := ⟨gb176, _, none⟩) NB171_176.out _).trans (((cell_far (p := ⟨gb176, _, none⟩) NB171_176.out _).trans (((cell_far (p := ⟨gb176, _, none⟩) NB171_176.out _).trans (((cell_far (p := ⟨gb176, _, none⟩) NB171_176.out _).trans (hHeld.1)))))))), ((cell_far (p := ⟨gb176, _, none⟩) NB171_176.out _).trans (((cell_far (p := ⟨gb176, _, none⟩) NB171_176.out _).trans (((cell_far (p := ⟨gb176, _, none⟩) NB171_176.out _).trans (((cell_far (p := ⟨gb176, _, none⟩) NB171_176.out _).trans (hHeld.2.1)))))))), ((cell_far (p := ⟨gb176, _, none⟩) NB171_176.out _).trans (((cell_far (p := ⟨gb176, _, none⟩) NB171_176.out _).trans (((cell_far (p := ⟨gb176, _, none⟩) NB171_176.out _).trans (((cell_far (p := ⟨gb176, _, none⟩) NB171_176.out _).trans (hHeld.2.2.1)))))))), ((cell_far (p := ⟨gb176, _, none⟩) NB171_176.out _).trans (((cell_far (p := ⟨gb176, _, none⟩) NB171_176.out _).trans (((cell_far (p := ⟨gb176, _, none⟩) NB171_176.out _).trans (((cell_far (p := ⟨gb176, _, none⟩) NB171_176.out _).trans (hHeld.2.2.2.1)))))))), ((cell_far (p := ⟨gb176, _, none⟩) NB172_176.out _).trans (((cell_far (p := ⟨gb176, _, none⟩) NB172_176.out _).trans (((cell_far (p := ⟨gb176, _, none⟩) NB172_176.out _).trans (((cell_far (p := ⟨gb176, _, none⟩) NB172_176.out _).trans (hHeld.2.2.2.2.1)))))))), ((cell_far (p := ⟨gb176, _, none⟩) NB172_176.out _).trans (((cell_far (p := ⟨gb176, _, none⟩) NB172_176.out _).trans (((cell_far (p := ⟨gb176, _, none⟩) NB172_176.out _).trans (((cell_far (p := ⟨gb176, _, none⟩) NB172_176.out _).trans (hHeld.2.2.2.2.2.1)))))))), ((cell_far (p := ⟨gb176, _, none⟩) NB172_176.out _).trans (((cell_far (p := ⟨gb176, _, none⟩) NB172_176.out _).trans (((cell_far (p := ⟨gb176, _, none⟩) NB172_176.out _).trans (((cell_far (p := ⟨gb176, _, none⟩) NB172_176.out _).trans (hHeld.2.2.2.2.2.2.1)))))))), ((cell_far (p := ⟨gb176, _, none⟩) NB172_176.out _).trans (((cell_far (p := ⟨gb176, _, none⟩) NB172_176.out _).trans (((cell_far (p := ⟨gb176, _, none⟩) NB172_176.out _).trans (((cell_far (p := ⟨gb176, _, none⟩) NB172_176.out _).trans (hHeld.2.2.2.2.2.2.2))))))))⟩ (fun hHeld => ?_)
      clear hK K
      refine done_ (done_of HT_.out (by kernel_rfl)) ?_
      try go_wp2
      go_loopg [] kj2 (fun kq w' => ∃ (x176000_2 : Int) (x176001_2 : Int) (x176002_2 : Int) (x176003_2 : Int) (x177000_2 : Int) (x177001_2 : Int) (x177002_2 : Int) (x177003_2 : Int), Aside0 (frac_Cmp.l0 kq x176000_2 x176001_2 x176002_2 x176003_2 x177000_2 x177001_2 x177002_2 x177003_2 = some r) ∧ Aside0 (kq ≤ kj2) ∧ Aside0 (w'.heap[gb171]? = some (.cells #[.int .i64 a0_0, .int .u64 a0_1, .int .i64 a0_2, .int .u64 a0_3] 26 (0, 0))) ∧ Aside0 (w'.heap[gb172]? = some (.cells #[.int .i64 a1_0, .int .u64 a1_1, .int .i64 a1_2, .int .u64 a1_3] 26 (0, 0))) ∧ Aside0 (w'.heap[gb175]? = some (.cells #[.int .i64 x176000_2, .int .u64 x176001_2, .int .i64 x176002_2, .int .u64 x176003_2] 81 (0, 0))) ∧ Aside0 (w'.heap[gb176]? = some (.cells #[.int .i64 x177000_2, .int .u64 x177001_2, .int .i64 x177002_2, .int .u64 x177003_2] 81 (0, 0))) ∧ Aside0 (Below w.heap.size w w'))
      case atStart => exact ⟨(a0_0), (a0_1), (a1_0), (a1_1), (a0_2), (a0_3), (a1_2), (a1_3), H', ⟨Nat.le_refl _⟩, ⟨kx BK171⟩, ⟨kx BK172⟩, ⟨by (with_reducible repeat (first | refine blk_drewN ?_ _ | refine blk_drew ?_ | refine blk_alloc ?_ _)); refine blk_far ?_ NB175_176.out _; (with_reducible repeat (first | refine blk_drewN ?_ _ | refine blk_drew ?_ | refine blk_alloc ?_ _)); refine blk_far ?_ NB175_176.out _; (with_reducible repeat (first | refine blk_drewN ?_ _ | refine blk_drew ?_ | refine blk_alloc ?_ _)); refine blk_far ?_ NB175_176.out _; (with_reducible repeat (first | refine blk_drewN ?_ _ | refine blk_drew ?_ | refine blk_alloc ?_ _)); refine blk_far ?_ NB175_176.out _; (with_reducible repeat (first | refine blk_drewN ?_ _ | refine blk_drew ?_ | refine blk_alloc ?_ _)); refine blk_put (cs := #[.int .i64 a0_0, .int .u64 a0_1, .int .i64 a1_0, .int .u64 0]) ?_ 3 _ rfl; (with_reducible repeat (first | refine blk_drewN ?_ _ | refine blk_drew ?_ | refine blk_alloc ?_ _)); refine blk_put (cs := #[.int .i64 a0_0, .int .u64 a0_1, .int .i64 0, .int .u64 0]) ?_ 2 _ rfl; (with_reducible repeat (first | refine blk_drewN ?_ _ | refine blk_drew ?_ | refine blk_alloc ?_ _)); refine blk_put (cs := #[.int .i64 a0_0, .int .u64 0, .int .i64 0, .int .u64 0]) ?_ 1 _ rfl; (with_reducible repeat (first | refine blk_drewN ?_ _ | refine blk_drew ?_ | refine blk_alloc ?_ _)); refine blk_put (cs := #[.int .i64 0, .int .u64 0, .int .i64 0, .int .u64 0]) ?_ 0 _ rfl; (with_reducible repeat (first | refine blk_drewN ?_ _ | refine blk_drew ?_ | refine blk_alloc ?_ _)); exact BK175.out⟩, ⟨by (with_reducible repeat (first | refine blk_drewN ?_ _ | refine blk_drew ?_ | refine blk_alloc ?_ _)); refine blk_put (cs := #[.int .i64 a0_2, .int .u64 a0_3, .int .i64 a1_2, .int .u64 0]) ?_ 3 _ rfl; (with_reducible repeat (first | refine blk_drewN ?_ _ | refine blk_drew ?_ | refine blk_alloc ?_ _)); refine blk_put (cs := #[.int .i64 a0_2, .int .u64 a0_3, .int .i64 0, .int .u64 0]) ?_ 2 _ rfl; (with_reducible repeat (first | refine blk_drewN ?_ _ | refine blk_drew ?_ | refine blk_alloc ?_ _)); refine blk_put (cs := #[.int .i64 a0_2, .int .u64 0, .int .i64 0, .int .u64 0]) ?_ 1 _ rfl; (with_reducible repeat (first | refine blk_drewN ?_ _ | refine blk_drew ?_ | refine blk_alloc ?_ _)); refine blk_put (cs := #[.int .i64 0, .int .u64 0, .int .i64 0, .int .u64 0]) ?_ 0 _ rfl; (with_reducible repeat (first | refine blk_drewN ?_ _ | refine blk_drew ?_ | refine blk_alloc ?_ _)); refine blk_far ?_ NB176_175.out _; (with_reducible repeat (first | refine blk_drewN ?_ _ | refine blk_drew ?_ | refine blk_alloc ?_ _)); refine blk_far ?_ NB176_175.out _; (with_reducible repeat (first | refine blk_drewN ?_ _ | refine blk_drew ?_ | refine blk_alloc ?_ _)); refine blk_far ?_ NB176_175.out _; (with_reducible repeat (first | refine blk_drewN ?_ _ | refine blk_drew ?_ | refine blk_alloc ?_ _)); refine blk_far ?_ NB176_175.out _; (with_reducible repeat (first | refine blk_drewN ?_ _ | refine blk_drew ?_ | refine blk_alloc ?_ _)); exact BK176.out⟩, ⟨ky HB⟩⟩
      case round =>
        clear H'
        try clear c1; try clear c2; try clear p2; try clear c7; try clear c9; try clear c14; try clear c17; try clear c20; try clear hcz10_0; try clear hcz10_1; try clear hcz10_2; try clear hcz10_3; try clear hcz12_0; try clear hcz12_1; try clear hcz12_2; try clear hcz12_3; try clear hcz15_0; try clear hcz15_1; try clear hcz15_2; try clear hcz15_3; try clear hfz10_0; try clear hfz10_1; try clear hfz10_2; try clear hfz10_3; try clear hfz12_0; try clear hfz12_1; try clear hfz12_2; try clear hfz12_3; try clear hfz15_0; try clear hfz15_1; try clear hfz15_2; try clear hfz15_3; try clear p2
        obtain ⟨x176000_2, x176001_2, x176002_2, x176003_2, x177000_2, x177001_2, x177002_2, x177003_2, HA, HK2, BK171, BK172, BK175, BK176, HB⟩ := hrel
        cases gk with
        | zero => exact absurd HA.out (by simp [frac_Cmp.l0])
        | succ k2 =>
          have H := HA.out; clear HA
          simp only [frac_Cmp.l0] at H
          replace H := Option.bind_eq_some_iff.mp H
          obtain ⟨⟨t177, t178, t179, t180, t181⟩, A300, H⟩ := H
          replace H : ((wide_Div.f k2 x176002_2 x176003_2 x177002_2 x177003_2).bind fun bt184 => ((wide_Cmp.f k2 t177 t178 bt184.1 bt184.2.1).bind fun t191 => (if t191 = 0 then ((wide_Sign.f t179 t180).bind fun t192 => (if t192 = 0 then (frac_Cmp.j2 k2 true x177000_2 x177001_2 x177002_2 x177003_2 t179 t180 bt184.2.2.1 bt184.2.2.2.1) else ((wide_Sign.f bt184.2.2.1 bt184.2.2.2.1).bind fun t193 => (frac_Cmp.j2 k2 (t193 == 0) x177000_2 x177001_2 x177002_2 x177003_2 t179 t180 bt184.2.2.1 bt184.2.2.2.1)))) else (some t191)))) = some r := H
          have A30 := Aside0.mk A300
          clear A300
          replace H := Option.bind_eq_some_iff.mp H
          obtain ⟨⟨t184, t185, t186, t187, t188⟩, A310, H⟩ := H
          replace H : ((wide_Cmp.f k2 t177 t178 t184 t185).bind fun t191 => (if t191 = 0 then ((wide_Sign.f t179 t180).bind fun t192 => (if t192 = 0 then (frac_Cmp.j2 k2 true x177000_2 x177001_2 x177002_2 x177003_2 t179 t180 t186 t187) else ((wide_Sign.f t186 t187).bind fun t193 => (frac_Cmp.j2 k2 (t193 == 0) x177000_2 x177001_2 x177002_2 x177003_2 t179 t180 t186 t187)))) else (some t191))) = some r := H
          have A31 := Aside0.mk A310
          clear A310
          replace H := Option.bind_eq_some_iff.mp H
          obtain ⟨t191, A320, H⟩ := H
          replace H : (if t191 = 0 then ((wide_Sign.f t179 t180).bind fun t192 => (if t192 = 0 then (frac_Cmp.j2 k2 true x177000_2 x177001_2 x177002_2 x177003_2 t179 t180 t186 t187) else ((wide_Sign.f t186 t187).bind fun t193 => (frac_Cmp.j2 k2 (t193 == 0) x177000_2 x177001_2 x177002_2 x177003_2 t179 t180 t186 t187)))) else (some t191)) = some r := H
          have A32 := Aside0.mk A320
          clear A320
          by_cases c33 : t191 = 0
          rotate_left
          · rw [if_neg c33] at H
            have c33b0 : (t191 == 0) = false := beq_eq_false_iff_ne.mpr c33
            have c33b1 : (t191 != 0) = true := bne_iff_ne.mpr c33
            obtain rfl := Option.some.inj H
            have hnb122 := NB175_171.out; have hnc122 := NB171_175.out; have hnb123 := NB175_172.out; have hnc123 := NB172_175.out; have hnb124 := NB175_176.out; have hnc124 := NB176_175.out
            have hcz125_0 : wr.cell? ⟨gb175, 0, none⟩ = some (.int .i64 x176000_2) := kc BK175 0
            have hcz125_1 : wr.cell? ⟨gb175, 1, none⟩ = some (.int .u64 x176001_2) := kc BK175 1
            have hcz125_2 : wr.cell? ⟨gb175, 2, none⟩ = some (.int .i64 x176002_2) := kc BK175 2
            have hcz125_3 : wr.cell? ⟨gb175, 3, none⟩ = some (.int .u64 x176003_2) := kc BK175 3
            have hfz125_0 := blk_frozen BK175.out 0
            have hfz125_1 := blk_frozen BK175.out 1
            have hfz125_2 := blk_frozen BK175.out 2
            have hfz125_3 := blk_frozen BK175.out 3
            have hnb126 := NB176_171.out; have hnc126 := NB171_176.out; have hnb127 := NB176_172.out; have hnc127 := NB172_176.out
            have hcz128_0 : wr.cell? ⟨gb176, 0, none⟩ = some (.int .i64 x177000_2) := kc BK176 0
            have hcz128_1 : wr.cell? ⟨gb176, 1, none⟩ = some (.int .u64 x177001_2) := kc BK176 1
            have hcz128_2 : wr.cell? ⟨gb176, 2, none⟩ = some (.int .i64 x177002_2) := kc BK176 2
            have hcz128_3 : wr.cell? ⟨gb176, 3, none⟩ = some (.int .u64 x177003_2) := kc BK176 3
            have hfz128_0 := blk_frozen BK176.out 0
            have hfz128_1 := blk_frozen BK176.out 1
            have hfz128_2 := blk_frozen BK176.out 2
            have hfz128_3 := blk_frozen BK176.out 3
            go_wp2_with (first | ((with_reducible refine gate_callee (f := 49) rfl ?_); refine goesL_ (some 37) rfl rfl Try.func49 (by kernel_rfl) rfl #[.agg #[.int .i64 x176000_2, .int .u64 x176001_2], .agg #[.int .i64 x177000_2, .int .u64 x177001_2]] rfl (by (try simp only [List.map_toArray, List.map_cons, List.map_nil]); first | done | rfl | (simp only [List.length_drop, List.length_take]; rfl)) ?_; (with_reducible refine (wide_Div.calls k2 x176000_2 x176001_2 x177000_2 x177001_2 t177 t178 t179 t180 t181 _ A30.out).mono ?_); rintro e w129 ⟨rfl, hb⟩; refine ⟨_, rfl, ?_⟩; replace BK171 := kb BK171 hb; replace BK172 := kb BK172 hb; replace BK175 := kb BK175 hb; replace BK176 := kb BK176 hb; replace HB := kB HB hb; (try clear hb); (try clear hb2); (try clear hk); (try clear hi)) | ((with_reducible refine gate_dst (N := 7) rfl ?_); refine box_event ?hg (N := 7) ?hd (cs := #[.int .i64 0, .int .u64 0]) (t := 24) ?hr ?_; (case hd => rfl); (case hg => rfl); (case hr => first | (go_simp; done) | (go_simp; rfl)); intro gb182 hg w130 hbox hb; have BK182 := Aside0.mk (hbox); have GW182 := kS HB hg; have GE182 := kS HB hg; have NB171_182 := kN BK171 hg; have NB182_171 := kM BK171 hg; have NB172_182 := kN BK172 hg; have NB182_172 := kM BK172 hg; have NB175_182 := kN BK175 hg; have NB182_175 := kM BK175 hg; have NB176_182 := kN BK176 hg; have NB182_176 := kM BK176 hg; replace BK171 := kb BK171 hb; replace BK172 := kb BK172 hb; replace BK175 := kb BK175 hb; replace BK176 := kb BK176 hb; replace HB := kB HB hb; clear hb hbox hg) | ((with_reducible refine gate_dst (N := 8) rfl ?_); refine box_event ?hg (N := 8) ?hd (cs := #[.int .i64 0, .int .u64 0]) (t := 24) ?hr ?_; (case hd => rfl); (case hg => rfl); (case hr => first | (go_simp; done) | (go_simp; rfl)); intro gb183 hg w131 hbox hb; have BK183 := Aside0.mk (hbox); have GW183 := kS HB hg; have GE183 := kS HB hg; have NB171_183 := kN BK171 hg; have NB183_171 := kM BK171 hg; have NB172_183 := kN BK172 hg; have NB183_172 := kM BK172 hg; have NB175_183 := kN BK175 hg; have NB183_175 := kM BK175 hg; have NB176_183 := kN BK176 hg; have NB183_176 := kM BK176 hg; have NB182_183 := kN BK182 hg; have NB183_182 := kM BK182 hg; replace BK171 := kb BK171 hb; replace BK172 := kb BK172 hb; replace BK175 := kb BK175 hb; replace BK176 := kb BK176 hb; replace BK182 := kb BK182 hb; replace HB := kB HB hb; clear hb hbox hg; have hnb132 := NB182_171.out; have hnc132 := NB171_182.out; have hnb133 := NB182_172.out; have hnc133 := NB172_182.out; have hnb134 := NB182_175.out; have hnc134 := NB175_182.out; have hnb135 := NB182_176.out; have hnc135 := NB176_182.out; have hnb136 := NB182_183.out; have hnc136 := NB183_182.out; have hcz137_0 : w131.cell? ⟨gb182, 0, none⟩ = some (.int .i64 0) := kc BK182 0; have hcz137_1 : w131.cell? ⟨gb182, 1, none⟩ = some (.int .u64 0) := kc BK182 1; have hfz137_0 := blk_frozen BK182.out 0; have hfz137_1 := blk_frozen BK182.out 1; have hnb138 := NB183_171.out; have hnc138 := NB171_183.out; have hnb139 := NB183_172.out; have hnc139 := NB172_183.out; have hnb140 := NB183_175.out; have hnc140 := NB175_183.out; have hnb141 := NB183_176.out; have hnc141 := NB176_183.out; have hcz142_0 : w131.cell? ⟨gb183, 0, none⟩ = some (.int .i64 0) := kc BK183 0; have hcz142_1 : w131.cell? ⟨gb183, 1, none⟩ = some (.int .u64 0) := kc BK183 1; have hfz142_0 := blk_frozen BK183.out 0; have hfz142_1 := blk_frozen BK183.out 1; have hcz143_0 : w131.cell? ⟨gb175, 0, none⟩ = some (.int .i64 x176000_2) := kc BK175 0; have hcz143_1 : w131.cell? ⟨gb175, 1, none⟩ = some (.int .u64 x176001_2) := kc BK175 1; have hcz143_2 : w131.cell? ⟨gb175, 2, none⟩ = some (.int .i64 x176002_2) := kc BK175 2; have hcz143_3 : w131.cell? ⟨gb175, 3, none⟩ = some (.int .u64 x176003_2) := kc BK175 3; have hfz143_0 := blk_frozen BK175.out 0; have hfz143_1 := blk_frozen BK175.out 1; have hfz143_2 := blk_frozen BK175.out 2; have hfz143_3 := blk_frozen BK175.out 3; have hcz144_0 : w131.cell? ⟨gb176, 0, none⟩ = some (.int .i64 x177000_2) := kc BK176 0; have hcz144_1 : w131.cell? ⟨gb176, 1, none⟩ = some (.int .u64 x177001_2) := kc BK176 1; have hcz144_2 : w131.cell? ⟨gb176, 2, none⟩ = some (.int .i64 x177002_2) := kc BK176 2; have hcz144_3 : w131.cell? ⟨gb176, 3, none⟩ = some (.int .u64 x177003_2) := kc BK176 3; have hfz144_0 := blk_frozen BK176.out 0; have hfz144_1 := blk_frozen BK176.out 1; have hfz144_2 := blk_frozen BK176.out 2; have hfz144_3 := blk_frozen BK176.out 3) | ((with_reducible refine gate_callee (f := 49) rfl ?_); refine goesL_ (some 46) rfl rfl Try.func49 (by kernel_rfl) rfl #[.agg #[.int .i64 x176002_2, .int .u64 x176003_2], .agg #[.int .i64 x177002_2, .int .u64 x177003_2]] rfl (by (try simp only [List.map_toArray, List.map_cons, List.map_nil]); first | done | rfl | (simp only [List.length_drop, List.length_take]; rfl)) ?_; (with_reducible refine (wide_Div.calls k2 x176002_2 x176003_2 x177002_2 x177003_2 t184 t185 t186 t187 t188 _ A31.out).mono ?_); rintro e w145 ⟨rfl, hb⟩; refine ⟨_, rfl, ?_⟩; have n0_ := kb BK171 hb; have n1_ := kb BK172 hb; have n2_ := kb BK175 hb; have n3_ := kb BK176 hb; have n4_ := Aside0.mk (blk_below (g := gb182) (o := .cells #[.int .i64 t177, .int .u64 t178] 24 (0, 0)) (by (with_reducible repeat (first | refine blk_drewN ?_ _ | refine blk_drew ?_ | refine blk_alloc ?_ _)); refine blk_far ?_ NB182_183.out _; (with_reducible repeat (first | refine blk_drewN ?_ _ | refine blk_drew ?_ | refine blk_alloc ?_ _)); refine blk_far ?_ NB182_183.out _; (with_reducible repeat (first | refine blk_drewN ?_ _ | refine blk_drew ?_ | refine blk_alloc ?_ _)); refine blk_put (cs := #[.int .i64 t177, .int .u64 0]) ?_ 1 _ rfl; (with_reducible repeat (first | refine blk_drewN ?_ _ | refine blk_drew ?_ | refine blk_alloc ?_ _)); refine blk_put (cs := #[.int .i64 0, .int .u64 0]) ?_ 0 _ rfl; (with_reducible repeat (first | refine blk_drewN ?_ _ | refine blk_drew ?_ | refine blk_alloc ?_ _)); exact BK182.out) hb); have n5_ := Aside0.mk (blk_below (g := gb183) (o := .cells #[.int .i64 t179, .int .u64 t180] 24 (0, 0)) (by (with_reducible repeat (first | refine blk_drewN ?_ _ | refine blk_drew ?_ | refine blk_alloc ?_ _)); refine blk_put (cs := #[.int .i64 t179, .int .u64 0]) ?_ 1 _ rfl; (with_reducible repeat (first | refine blk_drewN ?_ _ | refine blk_drew ?_ | refine blk_alloc ?_ _)); refine blk_put (cs := #[.int .i64 0, .int .u64 0]) ?_ 0 _ rfl; (with_reducible repeat (first | refine blk_drewN ?_ _ | refine blk_drew ?_ | refine blk_alloc ?_ _)); refine blk_far ?_ NB183_182.out _; (with_reducible repeat (first | refine blk_drewN ?_ _ | refine blk_drew ?_ | refine blk_alloc ?_ _)); refine blk_far ?_ NB183_182.out _; (with_reducible repeat (first | refine blk_drewN ?_ _ | refine blk_drew ?_ | refine blk_alloc ?_ _)); exact BK183.out) hb); have n6_ := kB HB hb; clear BK171; clear BK172; clear BK175; clear BK176; clear BK182; clear BK183; clear HB; have BK171 := n0_; have BK172 := n1_; have BK175 := n2_; have BK176 := n3_; have BK182 := n4_; have BK183 := n5_; have HB := n6_; clear n0_ n1_ n2_ n3_ n4_ n5_ n6_; (try clear hb); (try clear hb2); (try clear hk); (try clear hi)) | ((with_reducible refine gate_dst (N := 10) rfl ?_); refine box_event ?hg (N := 10) ?hd (cs := #[.int .i64 0, .int .u64 0]) (t := 24) ?hr ?_; (case hd => rfl); (case hg => rfl); (case hr => first | (go_simp; done) | (go_simp; rfl)); intro gb189 hg w146 hbox hb; have BK189 := Aside0.mk (hbox); have GW189 := kS HB hg; have GE189 := kS HB hg; have NB171_189 := kN BK171 hg; have NB189_171 := kM BK171 hg; have NB172_189 := kN BK172 hg; have NB189_172 := kM BK172 hg; have NB175_189 := kN BK175 hg; have NB189_175 := kM BK175 hg; have NB176_189 := kN BK176 hg; have NB189_176 := kM BK176 hg; have NB182_189 := kN BK182 hg; have NB189_182 := kM BK182 hg; have NB183_189 := kN BK183 hg; have NB189_183 := kM BK183 hg; replace BK171 := kb BK171 hb; replace BK172 := kb BK172 hb; replace BK175 := kb BK175 hb; replace BK176 := kb BK176 hb; replace BK182 := kb BK182 hb; replace BK183 := kb BK183 hb; replace HB := kB HB hb; clear hb hbox hg) | ((with_reducible refine gate_dst (N := 11) rfl ?_); refine box_event ?hg (N := 11) ?hd (cs := #[.int .i64 0, .int .u64 0]) (t := 24) ?hr ?_; (case hd => rfl); (case hg => rfl); (case hr => first | (go_simp; done) | (go_simp; rfl)); intro gb190 hg w147 hbox hb; have BK190 := Aside0.mk (hbox); have GW190 := kS HB hg; have GE190 := kS HB hg; have NB171_190 := kN BK171 hg; have NB190_171 := kM BK171 hg; have NB172_190 := kN BK172 hg; have NB190_172 := kM BK172 hg; have NB175_190 := kN BK175 hg; have NB190_175 := kM BK175 hg; have NB176_190 := kN BK176 hg; have NB190_176 := kM BK176 hg; have NB182_190 := kN BK182 hg; have NB190_182 := kM BK182 hg; have NB183_190 := kN BK183 hg; have NB190_183 := kM BK183 hg; have NB189_190 := kN BK189 hg; have NB190_189 := kM BK189 hg; replace BK171 := kb BK171 hb; replace BK172 := kb BK172 hb; replace BK175 := kb BK175 hb; replace BK176 := kb BK176 hb; replace BK182 := kb BK182 hb; replace BK183 := kb BK183 hb; replace BK189 := kb BK189 hb; replace HB := kB HB hb; clear hb hbox hg; have hnb148 := NB189_171.out; have hnc148 := NB171_189.out; have hnb149 := NB189_172.out; have hnc149 := NB172_189.out; have hnb150 := NB189_175.out; have hnc150 := NB175_189.out; have hnb151 := NB189_176.out; have hnc151 := NB176_189.out; have hnb152 := NB189_182.out; have hnc152 := NB182_189.out; have hnb153 := NB189_183.out; have hnc153 := NB183_189.out; have hnb154 := NB189_190.out; have hnc154 := NB190_189.out; have hcz155_0 : w147.cell? ⟨gb189, 0, none⟩ = some (.int .i64 0) := kc BK189 0; have hcz155_1 : w147.cell? ⟨gb189, 1, none⟩ = some (.int .u64 0) := kc BK189 1; have hfz155_0 := blk_frozen BK189.out 0; have hfz155_1 := blk_frozen BK189.out 1; have hnb156 := NB190_171.out; have hnc156 := NB171_190.out; have hnb157 := NB190_172.out; have hnc157 := NB172_190.out; have hnb158 := NB190_175.out; have hnc158 := NB175_190.out; have hnb159 := NB190_176.out; have hnc159 := NB176_190.out; have hnb160 := NB190_182.out; have hnc160 := NB182_190.out; have hnb161 := NB190_183.out; have hnc161 := NB183_190.out; have hcz162_0 : w147.cell? ⟨gb190, 0, none⟩ = some (.int .i64 0) := kc BK190 0; have hcz162_1 : w147.cell? ⟨gb190, 1, none⟩ = some (.int .u64 0) := kc BK190 1; have hfz162_0 := blk_frozen BK190.out 0; have hfz162_1 := blk_frozen BK190.out 1; have hcz163_0 : w147.cell? ⟨gb182, 0, none⟩ = some (.int .i64 t177) := kc BK182 0; have hcz163_1 : w147.cell? ⟨gb182, 1, none⟩ = some (.int .u64 t178) := kc BK182 1; have hfz163_0 := blk_frozen BK182.out 0; have hfz163_1 := blk_frozen BK182.out 1) | ((with_reducible refine gate_callee (f := 29) rfl ?_); refine goesL_ (some 52) rfl rfl Try.func29 (by kernel_rfl) rfl #[.agg #[.int .i64 t177, .int .u64 t178], .agg #[.int .i64 t184, .int .u64 t185]] rfl (by (try simp only [List.map_toArray, List.map_cons, List.map_nil]); first | done | rfl | (simp only [List.length_drop, List.length_take]; rfl)) ?_; (with_reducible refine (wide_Cmp.calls k2 t177 t178 t184 t185 t191 _ A32.out).mono ?_); rintro e w164 ⟨rfl, hb⟩; refine ⟨_, rfl, ?_⟩; have n0_ := kb BK171 hb; have n1_ := kb BK172 hb; have n2_ := kb BK175 hb; have n3_ := kb BK176 hb; have n4_ := kb BK182 hb; have n5_ := kb BK183 hb; have n6_ := Aside0.mk (blk_below (g := gb189) (o := .cells #[.int .i64 t184, .int .u64 t185] 24 (0, 0)) (by (with_reducible repeat (first | refine blk_drewN ?_ _ | refine blk_drew ?_ | refine blk_alloc ?_ _)); refine blk_far ?_ NB189_190.out _; (with_reducible repeat (first | refine blk_drewN ?_ _ | refine blk_drew ?_ | refine blk_alloc ?_ _)); refine blk_far ?_ NB189_190.out _; (with_reducible repeat (first | refine blk_drewN ?_ _ | refine blk_drew ?_ | refine blk_alloc ?_ _)); refine blk_put (cs := #[.int .i64 t184, .int .u64 0]) ?_ 1 _ rfl; (with_reducible repeat (first | refine blk_drewN ?_ _ | refine blk_drew ?_ | refine blk_alloc ?_ _)); refine blk_put (cs := #[.int .i64 0, .int .u64 0]) ?_ 0 _ rfl; (with_reducible repeat (first | refine blk_drewN ?_ _ | refine blk_drew ?_ | refine blk_alloc ?_ _)); exact BK189.out) hb); have n7_ := Aside0.mk (blk_below (g := gb190) (o := .cells #[.int .i64 t186, .int .u64 t187] 24 (0, 0)) (by (with_reducible repeat (first | refine blk_drewN ?_ _ | refine blk_drew ?_ | refine blk_alloc ?_ _)); refine blk_put (cs := #[.int .i64 t186, .int .u64 0]) ?_ 1 _ rfl; (with_reducible repeat (first | refine blk_drewN ?_ _ | refine blk_drew ?_ | refine blk_alloc ?_ _)); refine blk_put (cs := #[.int .i64 0, .int .u64 0]) ?_ 0 _ rfl; (with_reducible repeat (first | refine blk_drewN ?_ _ | refine blk_drew ?_ | refine blk_alloc ?_ _)); refine blk_far ?_ NB190_189.out _; (with_reducible repeat (first | refine blk_drewN ?_ _ | refine blk_drew ?_ | refine blk_alloc ?_ _)); refine blk_far ?_ NB190_189.out _; (with_reducible repeat (first | refine blk_drewN ?_ _ | refine blk_drew ?_ | refine blk_alloc ?_ _)); exact BK190.out) hb); have n8_ := kB HB hb; clear BK171; clear BK172; clear BK175; clear BK176; clear BK182; clear BK183; clear BK189; clear BK190; clear HB; have BK171 := n0_; have BK172 := n1_; have BK175 := n2_; have BK176 := n3_; have BK182 := n4_; have BK183 := n5_; have BK189 := n6_; have BK190 := n7_; have HB := n8_; clear n0_ n1_ n2_ n3_ n4_ n5_ n6_ n7_ n8_; (try clear hb); (try clear hb2); (try clear hk); (try clear hi)))
            go_ret
            exact ⟨by first | rfl | (simp [errW_none, errW_some] <;> rfl) | (simp [*, errW_none, errW_some] <;> rfl), ky HB⟩

          rw [if_pos c33] at H
          have c33b0 : (t191 == 0) = true := beq_iff_eq.mpr c33
          have c33b1 : (t191 != 0) = false := bne_eq_false_iff_eq.mpr c33
          clear c33
          have HC34 := Aside0.mk H
          clear H; have hnb35 := NB175_171.out; have hnc35 := NB171_175.out; have hnb36 := NB175_172.out; have hnc36 := NB172_175.out; have hnb37 := NB175_176.out; have hnc37 := NB176_175.out
          have hcz38_0 : wr.cell? ⟨gb175, 0, none⟩ = some (.int .i64 x176000_2) := kc BK175 0
          have hcz38_1 : wr.cell? ⟨gb175, 1, none⟩ = some (.int .u64 x176001_2) := kc BK175 1
          have hcz38_2 : wr.cell? ⟨gb175, 2, none⟩ = some (.int .i64 x176002_2) := kc BK175 2
          have hcz38_3 : wr.cell? ⟨gb175, 3, none⟩ = some (.int .u64 x176003_2) := kc BK175 3
          have hfz38_0 := blk_frozen BK175.out 0
          have hfz38_1 := blk_frozen BK175.out 1
          have hfz38_2 := blk_frozen BK175.out 2
          have hfz38_3 := blk_frozen BK175.out 3
          have hnb39 := NB176_171.out; have hnc39 := NB171_176.out; have hnb40 := NB176_172.out; have hnc40 := NB172_176.out
          have hcz41_0 : wr.cell? ⟨gb176, 0, none⟩ = some (.int .i64 x177000_2) := kc BK176 0
          have hcz41_1 : wr.cell? ⟨gb176, 1, none⟩ = some (.int .u64 x177001_2) := kc BK176 1
          have hcz41_2 : wr.cell? ⟨gb176, 2, none⟩ = some (.int .i64 x177002_2) := kc BK176 2
          have hcz41_3 : wr.cell? ⟨gb176, 3, none⟩ = some (.int .u64 x177003_2) := kc BK176 3
          have hfz41_0 := blk_frozen BK176.out 0
          have hfz41_1 := blk_frozen BK176.out 1
          have hfz41_2 := blk_frozen BK176.out 2
          have hfz41_3 := blk_frozen BK176.out 3
          go_upto_region 9 with (first | ((with_reducible refine gate_callee (f := 49) rfl ?_); refine goesL_ (some 37) rfl rfl Try.func49 (by kernel_rfl) rfl #[.agg #[.int .i64 x176000_2, .int .u64 x176001_2], .agg #[.int .i64 x177000_2, .int .u64 x177001_2]] rfl (by (try simp only [List.map_toArray, List.map_cons, List.map_nil]); first | done | rfl | (simp only [List.length_drop, List.length_take]; rfl)) ?_; (with_reducible refine (wide_Div.calls k2 x176000_2 x176001_2 x177000_2 x177001_2 t177 t178 t179 t180 t181 _ A30.out).mono ?_); rintro e w42 ⟨rfl, hb⟩; refine ⟨_, rfl, ?_⟩; replace BK171 := kb BK171 hb; replace BK172 := kb BK172 hb; replace BK175 := kb BK175 hb; replace BK176 := kb BK176 hb; replace HB := kB HB hb; (try clear hb); (try clear hb2); (try clear hk); (try clear hi)) | ((with_reducible refine gate_dst (N := 7) rfl ?_); refine box_event ?hg (N := 7) ?hd (cs := #[.int .i64 0, .int .u64 0]) (t := 24) ?hr ?_; (case hd => rfl); (case hg => rfl); (case hr => first | (go_simp; done) | (go_simp; rfl)); intro gb182 hg w43 hbox hb; have BK182 := Aside0.mk (hbox); have GW182 := kS HB hg; have GE182 := kS HB hg; have NB171_182 := kN BK171 hg; have NB182_171 := kM BK171 hg; have NB172_182 := kN BK172 hg; have NB182_172 := kM BK172 hg; have NB175_182 := kN BK175 hg; have NB182_175 := kM BK175 hg; have NB176_182 := kN BK176 hg; have NB182_176 := kM BK176 hg; replace BK171 := kb BK171 hb; replace BK172 := kb BK172 hb; replace BK175 := kb BK175 hb; replace BK176 := kb BK176 hb; replace HB := kB HB hb; clear hb hbox hg) | ((with_reducible refine gate_dst (N := 8) rfl ?_); refine box_event ?hg (N := 8) ?hd (cs := #[.int .i64 0, .int .u64 0]) (t := 24) ?hr ?_; (case hd => rfl); (case hg => rfl); (case hr => first | (go_simp; done) | (go_simp; rfl)); intro gb183 hg w44 hbox hb; have BK183 := Aside0.mk (hbox); have GW183 := kS HB hg; have GE183 := kS HB hg; have NB171_183 := kN BK171 hg; have NB183_171 := kM BK171 hg; have NB172_183 := kN BK172 hg; have NB183_172 := kM BK172 hg; have NB175_183 := kN BK175 hg; have NB183_175 := kM BK175 hg; have NB176_183 := kN BK176 hg; have NB183_176 := kM BK176 hg; have NB182_183 := kN BK182 hg; have NB183_182 := kM BK182 hg; replace BK171 := kb BK171 hb; replace BK172 := kb BK172 hb; replace BK175 := kb BK175 hb; replace BK176 := kb BK176 hb; replace BK182 := kb BK182 hb; replace HB := kB HB hb; clear hb hbox hg; have hnb45 := NB182_171.out; have hnc45 := NB171_182.out; have hnb46 := NB182_172.out; have hnc46 := NB172_182.out; have hnb47 := NB182_175.out; have hnc47 := NB175_182.out; have hnb48 := NB182_176.out; have hnc48 := NB176_182.out; have hnb49 := NB182_183.out; have hnc49 := NB183_182.out; have hcz50_0 : w44.cell? ⟨gb182, 0, none⟩ = some (.int .i64 0) := kc BK182 0; have hcz50_1 : w44.cell? ⟨gb182, 1, none⟩ = some (.int .u64 0) := kc BK182 1; have hfz50_0 := blk_frozen BK182.out 0; have hfz50_1 := blk_frozen BK182.out 1; have hnb51 := NB183_171.out; have hnc51 := NB171_183.out; have hnb52 := NB183_172.out; have hnc52 := NB172_183.out; have hnb53 := NB183_175.out; have hnc53 := NB175_183.out; have hnb54 := NB183_176.out; have hnc54 := NB176_183.out; have hcz55_0 : w44.cell? ⟨gb183, 0, none⟩ = some (.int .i64 0) := kc BK183 0; have hcz55_1 : w44.cell? ⟨gb183, 1, none⟩ = some (.int .u64 0) := kc BK183 1; have hfz55_0 := blk_frozen BK183.out 0; have hfz55_1 := blk_frozen BK183.out 1; have hcz56_0 : w44.cell? ⟨gb175, 0, none⟩ = some (.int .i64 x176000_2) := kc BK175 0; have hcz56_1 : w44.cell? ⟨gb175, 1, none⟩ = some (.int .u64 x176001_2) := kc BK175 1; have hcz56_2 : w44.cell? ⟨gb175, 2, none⟩ = some (.int .i64 x176002_2) := kc BK175 2; have hcz56_3 : w44.cell? ⟨gb175, 3, none⟩ = some (.int .u64 x176003_2) := kc BK175 3; have hfz56_0 := blk_frozen BK175.out 0; have hfz56_1 := blk_frozen BK175.out 1; have hfz56_2 := blk_frozen BK175.out 2; have hfz56_3 := blk_frozen BK175.out 3; have hcz57_0 : w44.cell? ⟨gb176, 0, none⟩ = some (.int .i64 x177000_2) := kc BK176 0; have hcz57_1 : w44.cell? ⟨gb176, 1, none⟩ = some (.int .u64 x177001_2) := kc BK176 1; have hcz57_2 : w44.cell? ⟨gb176, 2, none⟩ = some (.int .i64 x177002_2) := kc BK176 2; have hcz57_3 : w44.cell? ⟨gb176, 3, none⟩ = some (.int .u64 x177003_2) := kc BK176 3; have hfz57_0 := blk_frozen BK176.out 0; have hfz57_1 := blk_frozen BK176.out 1; have hfz57_2 := blk_frozen BK176.out 2; have hfz57_3 := blk_frozen BK176.out 3) | ((with_reducible refine gate_callee (f := 49) rfl ?_); refine goesL_ (some 46) rfl rfl Try.func49 (by kernel_rfl) rfl #[.agg #[.int .i64 x176002_2, .int .u64 x176003_2], .agg #[.int .i64 x177002_2, .int .u64 x177003_2]] rfl (by (try simp only [List.map_toArray, List.map_cons, List.map_nil]); first | done | rfl | (simp only [List.length_drop, List.length_take]; rfl)) ?_; (with_reducible refine (wide_Div.calls k2 x176002_2 x176003_2 x177002_2 x177003_2 t184 t185 t186 t187 t188 _ A31.out).mono ?_); rintro e w58 ⟨rfl, hb⟩; refine ⟨_, rfl, ?_⟩; have n0_ := kb BK171 hb; have n1_ := kb BK172 hb; have n2_ := kb BK175 hb; have n3_ := kb BK176 hb; have n4_ := Aside0.mk (blk_below (g := gb182) (o := .cells #[.int .i64 t177, .int .u64 t178] 24 (0, 0)) (by (with_reducible repeat (first | refine blk_drewN ?_ _ | refine blk_drew ?_ | refine blk_alloc ?_ _)); refine blk_far ?_ NB182_183.out _; (with_reducible repeat (first | refine blk_drewN ?_ _ | refine blk_drew ?_ | refine blk_alloc ?_ _)); refine blk_far ?_ NB182_183.out _; (with_reducible repeat (first | refine blk_drewN ?_ _ | refine blk_drew ?_ | refine blk_alloc ?_ _)); refine blk_put (cs := #[.int .i64 t177, .int .u64 0]) ?_ 1 _ rfl; (with_reducible repeat (first | refine blk_drewN ?_ _ | refine blk_drew ?_ | refine blk_alloc ?_ _)); refine blk_put (cs := #[.int .i64 0, .int .u64 0]) ?_ 0 _ rfl; (with_reducible repeat (first | refine blk_drewN ?_ _ | refine blk_drew ?_ | refine blk_alloc ?_ _)); exact BK182.out) hb); have n5_ := Aside0.mk (blk_below (g := gb183) (o := .cells #[.int .i64 t179, .int .u64 t180] 24 (0, 0)) (by (with_reducible repeat (first | refine blk_drewN ?_ _ | refine blk_drew ?_ | refine blk_alloc ?_ _)); refine blk_put (cs := #[.int .i64 t179, .int .u64 0]) ?_ 1 _ rfl; (with_reducible repeat (first | refine blk_drewN ?_ _ | refine blk_drew ?_ | refine blk_alloc ?_ _)); refine blk_put (cs := #[.int .i64 0, .int .u64 0]) ?_ 0 _ rfl; (with_reducible repeat (first | refine blk_drewN ?_ _ | refine blk_drew ?_ | refine blk_alloc ?_ _)); refine blk_far ?_ NB183_182.out _; (with_reducible repeat (first | refine blk_drewN ?_ _ | refine blk_drew ?_ | refine blk_alloc ?_ _)); refine blk_far ?_ NB183_182.out _; (with_reducible repeat (first | refine blk_drewN ?_ _ | refine blk_drew ?_ | refine blk_alloc ?_ _)); exact BK183.out) hb); have n6_ := kB HB hb; clear BK171; clear BK172; clear BK175; clear BK176; clear BK182; clear BK183; clear HB; have BK171 := n0_; have BK172 := n1_; have BK175 := n2_; have BK176 := n3_; have BK182 := n4_; have BK183 := n5_; have HB := n6_; clear n0_ n1_ n2_ n3_ n4_ n5_ n6_; (try clear hb); (try clear hb2); (try clear hk); (try clear hi)) | ((with_reducible refine gate_dst (N := 10) rfl ?_); refine box_event ?hg (N := 10) ?hd (cs := #[.int .i64 0, .int .u64 0]) (t := 24) ?hr ?_; (case hd => rfl); (case hg => rfl); (case hr => first | (go_simp; done) | (go_simp; rfl)); intro gb189 hg w59 hbox hb; have BK189 := Aside0.mk (hbox); have GW189 := kS HB hg; have GE189 := kS HB hg; have NB171_189 := kN BK171 hg; have NB189_171 := kM BK171 hg; have NB172_189 := kN BK172 hg; have NB189_172 := kM BK172 hg; have NB175_189 := kN BK175 hg; have NB189_175 := kM BK175 hg; have NB176_189 := kN BK176 hg; have NB189_176 := kM BK176 hg; have NB182_189 := kN BK182 hg; have NB189_182 := kM BK182 hg; have NB183_189 := kN BK183 hg; have NB189_183 := kM BK183 hg; replace BK171 := kb BK171 hb; replace BK172 := kb BK172 hb; replace BK175 := kb BK175 hb; replace BK176 := kb BK176 hb; replace BK182 := kb BK182 hb; replace BK183 := kb BK183 hb; replace HB := kB HB hb; clear hb hbox hg) | ((with_reducible refine gate_dst (N := 11) rfl ?_); refine box_event ?hg (N := 11) ?hd (cs := #[.int .i64 0, .int .u64 0]) (t := 24) ?hr ?_; (case hd => rfl); (case hg => rfl); (case hr => first | (go_simp; done) | (go_simp; rfl)); intro gb190 hg w60 hbox hb; have BK190 := Aside0.mk (hbox); have GW190 := kS HB hg; have GE190 := kS HB hg; have NB171_190 := kN BK171 hg; have NB190_171 := kM BK171 hg; have NB172_190 := kN BK172 hg; have NB190_172 := kM BK172 hg; have NB175_190 := kN BK175 hg; have NB190_175 := kM BK175 hg; have NB176_190 := kN BK176 hg; have NB190_176 := kM BK176 hg; have NB182_190 := kN BK182 hg; have NB190_182 := kM BK182 hg; have NB183_190 := kN BK183 hg; have NB190_183 := kM BK183 hg; have NB189_190 := kN BK189 hg; have NB190_189 := kM BK189 hg; replace BK171 := kb BK171 hb; replace BK172 := kb BK172 hb; replace BK175 := kb BK175 hb; replace BK176 := kb BK176 hb; replace BK182 := kb BK182 hb; replace BK183 := kb BK183 hb; replace BK189 := kb BK189 hb; replace HB := kB HB hb; clear hb hbox hg; have hnb61 := NB189_171.out; have hnc61 := NB171_189.out; have hnb62 := NB189_172.out; have hnc62 := NB172_189.out; have hnb63 := NB189_175.out; have hnc63 := NB175_189.out; have hnb64 := NB189_176.out; have hnc64 := NB176_189.out; have hnb65 := NB189_182.out; have hnc65 := NB182_189.out; have hnb66 := NB189_183.out; have hnc66 := NB183_189.out; have hnb67 := NB189_190.out; have hnc67 := NB190_189.out; have hcz68_0 : w60.cell? ⟨gb189, 0, none⟩ = some (.int .i64 0) := kc BK189 0; have hcz68_1 : w60.cell? ⟨gb189, 1, none⟩ = some (.int .u64 0) := kc BK189 1; have hfz68_0 := blk_frozen BK189.out 0; have hfz68_1 := blk_frozen BK189.out 1; have hnb69 := NB190_171.out; have hnc69 := NB171_190.out; have hnb70 := NB190_172.out; have hnc70 := NB172_190.out; have hnb71 := NB190_175.out; have hnc71 := NB175_190.out; have hnb72 := NB190_176.out; have hnc72 := NB176_190.out; have hnb73 := NB190_182.out; have hnc73 := NB182_190.out; have hnb74 := NB190_183.out; have hnc74 := NB183_190.out; have hcz75_0 : w60.cell? ⟨gb190, 0, none⟩ = some (.int .i64 0) := kc BK190 0; have hcz75_1 : w60.cell? ⟨gb190, 1, none⟩ = some (.int .u64 0) := kc BK190 1; have hfz75_0 := blk_frozen BK190.out 0; have hfz75_1 := blk_frozen BK190.out 1; have hcz76_0 : w60.cell? ⟨gb182, 0, none⟩ = some (.int .i64 t177) := kc BK182 0; have hcz76_1 : w60.cell? ⟨gb182, 1, none⟩ = some (.int .u64 t178) := kc BK182 1; have hfz76_0 := blk_frozen BK182.out 0; have hfz76_1 := blk_frozen BK182.out 1) | ((with_reducible refine gate_callee (f := 29) rfl ?_); refine goesL_ (some 52) rfl rfl Try.func29 (by kernel_rfl) rfl #[.agg #[.int .i64 t177, .int .u64 t178], .agg #[.int .i64 t184, .int .u64 t185]] rfl (by (try simp only [List.map_toArray, List.map_cons, List.map_nil]); first | done | rfl | (simp only [List.length_drop, List.length_take]; rfl)) ?_; (with_reducible refine (wide_Cmp.calls k2 t177 t178 t184 t185 t191 _ A32.out).mono ?_); rintro e w77 ⟨rfl, hb⟩; refine ⟨_, rfl, ?_⟩; have n0_ := kb BK171 hb; have n1_ := kb BK172 hb; have n2_ := kb BK175 hb; have n3_ := kb BK176 hb; have n4_ := kb BK182 hb; have n5_ := kb BK183 hb; have n6_ := Aside0.mk (blk_below (g := gb189) (o := .cells #[.int .i64 t184, .int .u64 t185] 24 (0, 0)) (by (with_reducible repeat (first | refine blk_drewN ?_ _ | refine blk_drew ?_ | refine blk_alloc ?_ _)); refine blk_far ?_ NB189_190.out _; (with_reducible repeat (first | refine blk_drewN ?_ _ | refine blk_drew ?_ | refine blk_alloc ?_ _)); refine blk_far ?_ NB189_190.out _; (with_reducible repeat (first | refine blk_drewN ?_ _ | refine blk_drew ?_ | refine blk_alloc ?_ _)); refine blk_put (cs := #[.int .i64 t184, .int .u64 0]) ?_ 1 _ rfl; (with_reducible repeat (first | refine blk_drewN ?_ _ | refine blk_drew ?_ | refine blk_alloc ?_ _)); refine blk_put (cs := #[.int .i64 0, .int .u64 0]) ?_ 0 _ rfl; (with_reducible repeat (first | refine blk_drewN ?_ _ | refine blk_drew ?_ | refine blk_alloc ?_ _)); exact BK189.out) hb); have n7_ := Aside0.mk (blk_below (g := gb190) (o := .cells #[.int .i64 t186, .int .u64 t187] 24 (0, 0)) (by (with_reducible repeat (first | refine blk_drewN ?_ _ | refine blk_drew ?_ | refine blk_alloc ?_ _)); refine blk_put (cs := #[.int .i64 t186, .int .u64 0]) ?_ 1 _ rfl; (with_reducible repeat (first | refine blk_drewN ?_ _ | refine blk_drew ?_ | refine blk_alloc ?_ _)); refine blk_put (cs := #[.int .i64 0, .int .u64 0]) ?_ 0 _ rfl; (with_reducible repeat (first | refine blk_drewN ?_ _ | refine blk_drew ?_ | refine blk_alloc ?_ _)); refine blk_far ?_ NB190_189.out _; (with_reducible repeat (first | refine blk_drewN ?_ _ | refine blk_drew ?_ | refine blk_alloc ?_ _)); refine blk_far ?_ NB190_189.out _; (with_reducible repeat (first | refine blk_drewN ?_ _ | refine blk_drew ?_ | refine blk_alloc ?_ _)); exact BK190.out) hb); have n8_ := kB HB hb; clear BK171; clear BK172; clear BK175; clear BK176; clear BK182; clear BK183; clear BK189; clear BK190; clear HB; have BK171 := n0_; have BK172 := n1_; have BK175 := n2_; have BK176 := n3_; have BK182 := n4_; have BK183 := n5_; have BK189 := n6_; have BK190 := n7_; have HB := n8_; clear n0_ n1_ n2_ n3_ n4_ n5_ n6_ n7_ n8_; (try clear hb); (try clear hb2); (try clear hk); (try clear hi)))
          (try simp only [Act.put, s1, s2, s3])
          go_cut [63] (fun v63 wc => ∃ (kq : Nat) (x63_33 : Bool), v63 = .bool x63_33 ∧ Aside0 (frac_Cmp.j2 kq x63_33 x177000_2 x177001_2 x177002_2 x177003_2 t179 t180 t186 t187 = some r) ∧ Aside0 (kq ≤ k2) ∧ Aside0 (wc.heap[gb171]? = some (.cells #[.int .i64 a0_0, .int .u64 a0_1, .int .i64 a0_2, .int .u64 a0_3] 26 (0, 0))) ∧ Aside0 (wc.heap[gb172]? = some (.cells #[.int .i64 a1_0, .int .u64 a1_1, .int .i64 a1_2, .int .u64 a1_3] 26 (0, 0))) ∧ Aside0 (wc.heap[gb175]? = some (.cells #[.int .i64 x176000_2, .int .u64 x176001_2, .int .i64 x176002_2, .int .u64 x176003_2] 81 (0, 0))) ∧ Aside0 (wc.heap[gb176]? = some (.cells #[.int .i64 x177000_2, .int .u64 x177001_2, .int .i64 x177002_2, .int .u64 x177003_2] 81 (0, 0))) ∧ Aside0 (wc.heap[gb182]? = some (.cells #[.int .i64 t177, .int .u64 t178] 24 (0, 0))) ∧ Aside0 (wc.heap[gb183]? = some (.cells #[.int .i64 t179, .int .u64 t180] 24 (0, 0))) ∧ Aside0 (wc.heap[gb189]? = some (.cells #[.int .i64 t184, .int .u64 t185] 24 (0, 0))) ∧ Aside0 (wc.heap[gb190]? = some (.cells #[.int .i64 t186, .int .u64 t187] 24 (0, 0))) ∧ Aside0 (Below w.heap.size w wc))
          case first =>
            have H := HC34.out; clear HC34
            replace H := Option.bind_eq_some_iff.mp H
            obtain ⟨t192, A780, H⟩ := H
            replace H : (if t192 = 0 then (frac_Cmp.j2 k2 true x177000_2 x177001_2 x177002_2 x177003_2 t179 t180 t186 t187) else ((wide_Sign.f t186 t187).bind fun t193 => (frac_Cmp.j2 k2 (t193 == 0) x177000_2 x177001_2 x177002_2 x177003_2 t179 t180 t186 t187))) = some r := H
            have A78 := Aside0.mk A780
            clear A780
            by_cases c79 : t192 = 0
            · rw [if_pos c79] at H
              have c79b0 : (t192 == 0) = true := beq_iff_eq.mpr c79
              have c79b1 : (t192 != 0) = false := bne_eq_false_iff_eq.mpr c79
              clear c79
              (first | rw [c79b0] | (simp only [i64_w, i32_w]; rw [c79b0]) | skip)
              have H' := Aside0.mk H
              clear H; have hnb80 := NB183_171.out; have hnc80 := NB171_183.out; have hnb81 := NB183_172.out; have hnc81 := NB172_183.out; have hnb82 := NB183_175.out; have hnc82 := NB175_183.out; have hnb83 := NB183_176.out; have hnc83 := NB176_183.out; have hnb84 := NB183_182.out; have hnc84 := NB182_183.out; have hnb85 := NB183_189.out; have hnc85 := NB189_183.out; have hnb86 := NB183_190.out; have hnc86 := NB190_183.out
              have hcz87_0 : w77.cell? ⟨gb183, 0, none⟩ = some (.int .i64 t179) := kc BK183 0
              have hcz87_1 : w77.cell? ⟨gb183, 1, none⟩ = some (.int .u64 t180) := kc BK183 1
              have hfz87_0 := blk_frozen BK183.out 0
              have hfz87_1 := blk_frozen BK183.out 1
              go_wp2_with (first | ((with_reducible refine gate_callee (f := 15) rfl ?_); refine goesL_ (some 57) rfl rfl Try.func15 (by kernel_rfl) rfl #[.agg #[.int .i64 t179, .int .u64 t180]] rfl (by (try simp only [List.map_toArray, List.map_cons, List.map_nil]); first | done | rfl | (simp only [List.length_drop, List.length_take]; rfl)) ?_; (with_reducible refine (wide_Sign.calls t179 t180 t192 _ A78.out).mono ?_); rintro e w88 ⟨rfl, hb⟩; refine ⟨_, rfl, ?_⟩; replace BK171 := kb BK171 hb; replace BK172 := kb BK172 hb; replace BK175 := kb BK175 hb; replace BK176 := kb BK176 hb; replace BK182 := kb BK182 hb; replace BK183 := kb BK183 hb; replace BK189 := kb BK189 hb; replace BK190 := kb BK190 hb; replace HB := kB HB hb; (try clear hb); (try clear hb2); (try clear hk); (try clear hi)))
              go_meet
              case rel => exact ⟨_, (true), (by first | rfl | (simp; done) | (simp [*]; done)), H', ⟨by have := HJ2.out; have := HK2.out; first | omega | exact Nat.le_refl _⟩, ⟨kx BK171⟩, ⟨kx BK172⟩, ⟨kx BK175⟩, ⟨kx BK176⟩, ⟨kx BK182⟩, ⟨kx BK183⟩, ⟨kx BK189⟩, ⟨kx BK190⟩, ⟨ky HB⟩⟩
            rw [if_neg c79] at H
            have c79b0 : (t192 == 0) = false := beq_eq_false_iff_ne.mpr c79
            have c79b1 : (t192 != 0) = true := bne_iff_ne.mpr c79
            (first | rw [c79b0] | (simp only [i64_w, i32_w]; rw [c79b0]) | skip)
            replace H := Option.bind_eq_some_iff.mp H
            obtain ⟨t193, A890, H⟩ := H
            replace H : (frac_Cmp.j2 k2 (t193 == 0) x177000_2 x177001_2 x177002_2 x177003_2 t179 t180 t186 t187) = some r := H
            have A89 := Aside0.mk A890
            clear A890
            have H' := Aside0.mk H
            clear H; have hnb90 := NB183_171.out; have hnc90 := NB171_183.out; have hnb91 := NB183_172.out; have hnc91 := NB172_183.out; have hnb92 := NB183_175.out; have hnc92 := NB175_183.out; have hnb93 := NB183_176.out; have hnc93 := NB176_183.out; have hnb94 := NB183_182.out; have hnc94 := NB182_183.out; have hnb95 := NB183_189.out; have hnc95 := NB189_183.out; have hnb96 := NB183_190.out; have hnc96 := NB190_183.out
            have hcz97_0 : w77.cell? ⟨gb183, 0, none⟩ = some (.int .i64 t179) := kc BK183 0
            have hcz97_1 : w77.cell? ⟨gb183, 1, none⟩ = some (.int .u64 t180) := kc BK183 1
            have hfz97_0 := blk_frozen BK183.out 0
            have hfz97_1 := blk_frozen BK183.out 1
            go_wp2_with (first | ((with_reducible refine gate_callee (f := 15) rfl ?_); refine goesL_ (some 57) rfl rfl Try.func15 (by kernel_rfl) rfl #[.agg #[.int .i64 t179, .int .u64 t180]] rfl (by (try simp only [List.map_toArray, List.map_cons, List.map_nil]); first | done | rfl | (simp only [List.length_drop, List.length_take]; rfl)) ?_; (with_reducible refine (wide_Sign.calls t179 t180 t192 _ A78.out).mono ?_); rintro e w98 ⟨rfl, hb⟩; refine ⟨_, rfl, ?_⟩; replace BK171 := kb BK171 hb; replace BK172 := kb BK172 hb; replace BK175 := kb BK175 hb; replace BK176 := kb BK176 hb; replace BK182 := kb BK182 hb; replace BK183 := kb BK183 hb; replace BK189 := kb BK189 hb; replace BK190 := kb BK190 hb; replace HB := kB HB hb; (try clear hb); (try clear hb2); (try clear hk); (try clear hi); have hnb99 := NB190_171.out; have hnc99 := NB171_190.out; have hnb100 := NB190_172.out; have hnc100 := NB172_190.out; have hnb101 := NB190_175.out; have hnc101 := NB175_190.out; have hnb102 := NB190_176.out; have hnc102 := NB176_190.out; have hnb103 := NB190_182.out; have hnc103 := NB182_190.out; have hnb104 := NB190_189.out; have hnc104 := NB189_190.out; have hcz105_0 : w98.cell? ⟨gb190, 0, none⟩ = some (.int .i64 t186) := kc BK190 0; have hcz105_1 : w98.cell? ⟨gb190, 1, none⟩ = some (.int .u64 t187) := kc BK190 1; have hfz105_0 := blk_frozen BK190.out 0; have hfz105_1 := blk_frozen BK190.out 1) | (go_at_call 15; (with_reducible refine (wide_Sign.calls t186 t187 t193 _ A89.out).mono ?_); rintro e w106 ⟨rfl, hb⟩; replace BK171 := kb BK171 hb; replace BK172 := kb BK172 hb; replace BK175 := kb BK175 hb; replace BK176 := kb BK176 hb; replace BK182 := kb BK182 hb; replace BK183 := kb BK183 hb; replace BK189 := kb BK189 hb; replace BK190 := kb BK190 hb; replace HB := kB HB hb; (try clear hb); (try clear hb2); (try clear hk); (try clear hi)))
            go_meet
            case rel => exact ⟨_, ((t193 == 0)), (by first | rfl | (simp; done) | (simp [*]; done)), H', ⟨by have := HJ2.out; have := HK2.out; first | omega | exact Nat.le_refl _⟩, ⟨kx BK171⟩, ⟨kx BK172⟩, ⟨kx BK175⟩, ⟨kx BK176⟩, ⟨kx BK182⟩, ⟨kx BK183⟩, ⟨kx BK189⟩, ⟨kx BK190⟩, ⟨ky HB⟩⟩
          case rest =>
            clear HC34; try clear c1; try clear c2; try clear p2; try clear c3; try clear c4; try clear c5; try clear c6; try clear c7; try clear c8; try clear c9; try clear c10; try clear c14; try clear c15; try clear c17; try clear c20; try clear c29; try clear c33; try clear c33b0; try clear c33b1; try clear c35; try clear c36; try clear c37; try clear c39; try clear c40; try clear c45; try clear c46; try clear c47; try clear c48; try clear c49; try clear c51; try clear c52; try clear c53; try clear c54; try clear c61; try clear c62; try clear c63; try clear c64; try clear c65; try clear c66; try clear c67; try clear c69; try clear c70; try clear c71; try clear c72; try clear c73; try clear c74; try clear c79; try clear c79b0; try clear c79b1; try clear c80; try clear c81; try clear c82; try clear c83; try clear c84; try clear c85; try clear c86; try clear c90; try clear c91; try clear c92; try clear c93; try clear c94; try clear c95; try clear c96; try clear c99; try clear c100; try clear c101; try clear c102; try clear c103; try clear c104; try clear hcz105_0; try clear hcz105_1; try clear hcz10_0; try clear hcz10_1; try clear hcz10_2; try clear hcz10_3; try clear hcz12_0; try clear hcz12_1; try clear hcz12_2; try clear hcz12_3; try clear hcz15_0; try clear hcz15_1; try clear hcz15_2; try clear hcz15_3; try clear hcz38_0; try clear hcz38_1; try clear hcz38_2; try clear hcz38_3; try clear hcz41_0; try clear hcz41_1; try clear hcz41_2; try clear hcz41_3; try clear hcz50_0; try clear hcz50_1; try clear hcz55_0; try clear hcz55_1; try clear hcz56_0; try clear hcz56_1; try clear hcz56_2; try clear hcz56_3; try clear hcz57_0; try clear hcz57_1; try clear hcz57_2; try clear hcz57_3; try clear hcz68_0; try clear hcz68_1; try clear hcz75_0; try clear hcz75_1; try clear hcz76_0; try clear hcz76_1; try clear hcz87_0; try clear hcz87_1; try clear hcz97_0; try clear hcz97_1; try clear hfz105_0; try clear hfz105_1; try clear hfz10_0; try clear hfz10_1; try clear hfz10_2; try clear hfz10_3; try clear hfz12_0; try clear hfz12_1; try clear hfz12_2; try clear hfz12_3; try clear hfz15_0; try clear hfz15_1; try clear hfz15_2; try clear hfz15_3; try clear hfz38_0; try clear hfz38_1; try clear hfz38_2; try clear hfz38_3; try clear hfz41_0; try clear hfz41_1; try clear hfz41_2; try clear hfz41_3; try clear hfz50_0; try clear hfz50_1; try clear hfz55_0; try clear hfz55_1; try clear hfz56_0; try clear hfz56_1; try clear hfz56_2; try clear hfz56_3; try clear hfz57_0; try clear hfz57_1; try clear hfz57_2; try clear hfz57_3; try clear hfz68_0; try clear hfz68_1; try clear hfz75_0; try clear hfz75_1; try clear hfz76_0; try clear hfz76_1; try clear hfz87_0; try clear hfz87_1; try clear hfz97_0; try clear hfz97_1; try clear p2
            obtain ⟨kq, x63_33, rfl, HA, HJ33, BK171, BK172, BK175, BK176, BK182, BK183, BK189, BK190, HB⟩ := hcut
            cases kq with
            | zero => exact absurd HA.out (by simp [frac_Cmp.j2])
            | succ kj33 =>
              have H := HA.out; clear HA
              simp only [frac_Cmp.j2] at H
              by_cases c107 : x63_33 = true
              · subst c107
                have H1 : ((wide_Sign.f t179 t180).bind fun t194 => ((wide_Sign.f t186 t187).bind fun t195 => (some (wrap64 (t194 - t195))))) = some r := by rw [if_pos rfl] at H; exact H
                clear H; have H := H1; clear H1
                replace H := Option.bind_eq_some_iff.mp H
                obtain ⟨t194, A1080, H⟩ := H
                replace H : ((wide_Sign.f t186 t187).bind fun t195 => (some (wrap64 (t194 - t195)))) = some r := H
                have A108 := Aside0.mk A1080
                clear A1080
                replace H := Option.bind_eq_some_iff.mp H
                obtain ⟨t195, A1090, H⟩ := H
                replace H : (some (wrap64 (t194 - t195))) = some r := H
                have A109 := Aside0.mk A1090
                clear A1090
                obtain rfl := Option.some.inj H
                try go_wp2
                replace BK171 := Aside0.mk (blk_drew BK171.out)
                replace BK172 := Aside0.mk (blk_drew BK172.out)
                replace BK175 := Aside0.mk (blk_drew BK175.out)
                replace BK176 := Aside0.mk (blk_drew BK176.out)
                replace BK182 := Aside0.mk (blk_drew BK182.out)
                replace BK183 := Aside0.mk (blk_drew BK183.out)
                replace BK189 := Aside0.mk (blk_drew BK189.out)
                replace BK190 := Aside0.mk (blk_drew BK190.out)
                replace HB := Aside0.mk (below_drew1 HB.out)
                refine start_ (n := 6) (S := fun w' => w'.cell? ⟨gb183, 0, none⟩ = some (.int .i64 t179) ∧ w'.cell? ⟨gb183, 1, none⟩ = some (.int .u64 t180) ∧ w'.cell? ⟨gb190, 0, none⟩ = some (.int .i64 t186) ∧ w'.cell? ⟨gb190, 1, none⟩ = some (.int .u64 t187)) (ds := []) #[O, O, O, O, O, O] (by kernel_rfl) rfl rfl ⟨kc BK183 0, kc BK183 1, kc BK190 0, kc BK190 1⟩ (fun hHeld => ?_)
                generalize wc.drew = w110 at BK171 BK172 BK175 BK176 BK182 BK183 BK189 BK190 HB hHeld ⊢
                refine take_ (i := 0) (N := some 64) (v := ?_) (a' := ?_) #[T, O, O, O, O, O] rfl rfl (by kernel_rfl) (fun _ _ _ h => h) (Or.inl ⟨by rfl, ?_⟩) hHeld ?_ ?_; rotate_left; focus (rintro w' ⟨s0, s1, s2, s3⟩; go_simp; with_reducible rfl)
                rotate_left; focus (simp only [Act.put, s1, s2, s3, i64_w, i32_w]; rfl)
                refine take_ (i := 2) (N := some 66) (v := ?_) (a' := ?_) #[T, O, T, O, O, O] rfl rfl (by kernel_rfl) (fun _ _ _ h => h) (Or.inl ⟨by rfl, ?_⟩) hHeld ?_ ?_; rotate_left; focus (rintro w' ⟨s0, s1, s2, s3⟩; go_simp; with_reducible rfl)
                rotate_left; focus (simp only [Act.put, s1, s2, s3, i64_w, i32_w]; rfl)
                refine one_ (i := 1) (N := some 65) #[T, T, T, O, O, O] rfl rfl (by kernel_rfl) (by decide) (fun K hK => ?_)
                refine goes_ Try.func15 (by kernel_rfl) rfl #[.agg #[.int .i64 t179, .int .u64 t180]] (by rfl) rfl rfl (by (try simp only [List.map_toArray, List.map_cons, List.map_nil]); first | done | rfl | (simp only [List.length_drop, List.length_take]; rfl)) ?_
                with_reducible refine (wide_Sign.calls t179 t180 t194 _ A108.out).mono ?_
                rintro e w111 ⟨rfl, hb⟩
                refine ⟨_, rfl, ?_⟩
                replace BK171 := kb BK171 hb
                replace BK172 := kb BK172 hb
                replace BK175 := kb BK175 hb
                replace BK176 := kb BK176 hb
                replace BK182 := kb BK182 hb
                replace BK183 := kb BK183 hb
                replace BK189 := kb BK189 hb
                replace BK190 := kb BK190 hb
                replace HB := kB HB hb
                (try clear hb); (try clear hb2); (try clear hk); (try clear hi)
                refine hK.out _ _ ⟨kc BK183 0, kc BK183 1, kc BK190 0, kc BK190 1⟩ (fun hHeld => ?_)
                clear hK K
                refine norm_ (a' := ?_) ?_ ?_; rotate_left; focus (show Act.put _ (some 65) _ = _; simp only [Act.put, s1, s2, s3, i64_w, i32_w]; rfl)
                refine one_ (i := 3) (N := some 67) #[T, T, T, T, O, O] rfl rfl (by kernel_rfl) (by decide) (fun K hK => ?_)
                refine goes_ Try.func15 (by kernel_rfl) rfl #[.agg #[.int .i64 t186, .int .u64 t187]] (by rfl) rfl rfl (by (try simp only [List.map_toArray, List.map_cons, List.map_nil]); first | done | rfl | (simp only [List.length_drop, List.length_take]; rfl)) ?_
                with_reducible refine (wide_Sign.calls t186 t187 t195 _ A109.out).mono ?_
                rintro e w112 ⟨rfl, hb⟩
                refine ⟨_, rfl, ?_⟩
                replace BK171 := kb BK171 hb
                replace BK172 := kb BK172 hb
                replace BK175 := kb BK175 hb
                replace BK176 := kb BK176 hb
                replace BK182 := kb BK182 hb
                replace BK183 := kb BK183 hb
                replace BK189 := kb BK189 hb
                replace BK190 := kb BK190 hb
                replace HB := kB HB hb
                (try clear hb); (try clear hb2); (try clear hk); (try clear hi)
                refine hK.out _ _ ⟨kc BK183 0, kc BK183 1, kc BK190 0, kc BK190 1⟩ (fun hHeld => ?_)
                clear hK K
                refine norm_ (a' := ?_) ?_ ?_; rotate_left; focus (show Act.put _ (some 67) _ = _; simp only [Act.put, s1, s2, s3, i64_w, i32_w]; rfl)
                refine pure_ (i := 4) (N := some 68) (v := ?_) (a' := ?_) #[T, T, T, T, T, O] rfl rfl (by kernel_rfl) (fun _ _ _ h => h) (Or.inl ⟨by rfl, ?_⟩) ?_ ?_; rotate_left; focus (intro w'; go_simp; with_reducible rfl)
                rotate_left; focus (simp only [Act.put, s1, s2, s3, i64_w, i32_w]; rfl)
                refine pure_ (i := 5) (N := some 4) (v := ?_) (a' := ?_) #[T, T, T, T, T, T] rfl rfl (by kernel_rfl) (fun _ _ _ h => h) (Or.inl ⟨by rfl, ?_⟩) ?_ ?_; rotate_left; focus (intro w'; go_simp; with_reducible rfl)
                rotate_left; focus (simp only [Act.put, s1, s2, s3, i64_w, i32_w]; rfl)
                refine done_ (by kernel_rfl) ?_
                try go_wp2
                go_ret
                exact ⟨by first | rfl | (simp [errW_none, errW_some] <;> rfl) | (simp [*, errW_none, errW_some] <;> rfl), ky HB⟩
              replace c107 := Bool.eq_false_iff.mpr c107
              subst c107
              have H1 : (frac_Cmp.l0 kj33 x177002_2 x177003_2 x177000_2 x177001_2 t186 t187 t179 t180) = some r := by rw [if_neg (show ¬ (false = true) by decide)] at H; exact H
              clear H; have H := H1; clear H1
              have H' := Aside0.mk H
              clear H
              try go_wp2
              replace BK171 := Aside0.mk (blk_drew BK171.out)
              replace BK172 := Aside0.mk (blk_drew BK172.out)
              replace BK175 := Aside0.mk (blk_drew BK175.out)
              replace BK176 := Aside0.mk (blk_drew BK176.out)
              replace BK182 := Aside0.mk (blk_drew BK182.out)
              replace BK183 := Aside0.mk (blk_drew BK183.out)
              replace BK189 := Aside0.mk (blk_drew BK189.out)
              replace BK190 := Aside0.mk (blk_drew BK190.out)
              replace HB := Aside0.mk (below_drew1 HB.out)
              refine start_ (n := 10) (S := fun w' => w'.cell? ⟨gb176, 0, none⟩ = some (.int .i64 x177000_2) ∧ w'.cell? ⟨gb176, 1, none⟩ = some (.int .u64 x177001_2) ∧ w'.cell? ⟨gb176, 2, none⟩ = some (.int .i64 x177002_2) ∧ w'.cell? ⟨gb176, 3, none⟩ = some (.int .u64 x177003_2) ∧ w'.cell? ⟨gb190, 0, none⟩ = some (.int .i64 t186) ∧ w'.cell? ⟨gb190, 1, none⟩ = some (.int .u64 t187) ∧ w'.cell? ⟨gb183, 0, none⟩ = some (.int .i64 t179) ∧ w'.cell? ⟨gb183, 1, none⟩ = some (.int .u64 t180)) (ds := [9]) #[O, O, O, O, O, O, O, O, O, O] (by kernel_rfl) rfl rfl ⟨kc BK176 0, kc BK176 1, kc BK176 2, kc BK176 3, kc BK190 0, kc BK190 1, kc BK183 0, kc BK183 1⟩ (fun hHeld => ?_); refine with_tabW frac_Cmp.tab11 frac_Cmp.bits11 (fun HT_ HW_ => ?_)
              generalize wc.drew = w113 at BK171 BK172 BK175 BK176 BK182 BK183 BK189 BK190 HB hHeld ⊢
              refine pure_ (i := 0) (N := some 69) (v := ?_) (a' := ?_) #[T, O, O, O, O, O, O, O, O, O] rfl rfl (any_of HT_.out (by kernel_rfl)) (fun _ _ _ h => h) (Or.inl ⟨by rfl, ?_⟩) ?_ ?_; rotate_left; focus (intro w'; go_simp; with_reducible rfl)
              rotate_left; focus (simp only [Act.put, s1, s2, s3, i64_w, i32_w]; rfl)
              refine pure_ (i := 2) (N := some 71) (v := ?_) (a' := ?_) #[T, O, T, O, O, O, O, O, O, O] rfl rfl (any_of HT_.out (by kernel_rfl)) (fun _ _ _ h => h) (Or.inl ⟨by rfl, ?_⟩) ?_ ?_; rotate_left; focus (intro w'; go_simp; with_reducible rfl)
              rotate_left; focus (simp only [Act.put, s1, s2, s3, i64_w, i32_w]; rfl)
              refine take_ (i := 1) (N := some 70) (v := ?_) (a' := ?_) #[T, T, T, O, O, O, O, O, O, O] rfl rfl (take_ofW HT_.out HW_.out (by kernel_rfl)) (fun _ _ _ h => h) (Or.inl ⟨by rfl, ?_⟩) hHeld ?_ ?_; rotate_left; focus (rintro w' ⟨s0, s1, s2, s3, s4, s5, s6, s7⟩; go_simp; with_reducible rfl)
              rotate_left; focus (simp only [Act.put, s1, s2, s3, i64_w, i32_w]; rfl)
              refine take_ (i := 3) (N := some 72) (v := ?_) (a' := ?_) #[T, T, T, T, O, O, O, O, O, O] rfl rfl (take_ofW HT_.out HW_.out (by kernel_rfl)) (fun _ _ _ h => h) (Or.inl ⟨by rfl, ?_⟩) hHeld ?_ ?_; rotate_left; focus (rintro w' ⟨s0, s1, s2, s3, s4, s5, s6, s7⟩; go_simp; with_reducible rfl)
              rotate_left; focus (simp only [Act.put, s1, s2, s3, i64_w, i32_w]; rfl)
              refine pure_ (i := 4) (N := some 73) (v := ?_) (a' := ?_) #[T, T, T, T, T, O, O, O, O, O] rfl rfl (any_of HT_.out (by kernel_rfl)) (fun _ _ _ h => h) (Or.inl ⟨by rfl, ?_⟩) ?_ ?_; rotate_left; focus (intro w'; go_simp; with_reducible rfl)
              rotate_left; focus (simp only [Act.put, s1, s2, s3, i64_w, i32_w]; rfl)
              refine take_ (i := 5) (N := some 74) (v := ?_) (a' := ?_) #[T, T, T, T, T, T, O, O, O, O] rfl rfl (take_ofW HT_.out HW_.out (by kernel_rfl)) (fun _ _ _ h => h) (Or.inl ⟨by rfl, ?_⟩) hHeld ?_ ?_; rotate_left; focus (rintro w' ⟨s0, s1, s2, s3, s4, s5, s6, s7⟩; go_simp; with_reducible rfl)
              rotate_left; focus (simp only [Act.put, s1, s2, s3, i64_w, i32_w]; rfl)
              refine take_ (i := 6) (N := some 75) (v := ?_) (a' := ?_) #[T, T, T, T, T, T, T, O, O, O] rfl rfl (take_ofW HT_.out HW_.out (by kernel_rfl)) (fun _ _ _ h => h) (Or.inl ⟨by rfl, ?_⟩) hHeld ?_ ?_; rotate_left; focus (rintro w' ⟨s0, s1, s2, s3, s4, s5, s6, s7⟩; go_simp; with_reducible rfl)
              rotate_left; focus (simp only [Act.put, s1, s2, s3, i64_w, i32_w]; rfl)
              refine pure_ (i := 7) (N := some 76) (v := ?_) (a' := ?_) #[T, T, T, T, T, T, T, T, O, O] rfl rfl (any_of HT_.out (by kernel_rfl)) (fun _ _ _ h => h) (Or.inl ⟨by rfl, ?_⟩) ?_ ?_; rotate_left; focus (intro w'; go_simp; with_reducible rfl)
              rotate_left; focus (simp only [Act.put, s1, s2, s3, i64_w, i32_w]; rfl)
              refine one_ (i := 8) (N := none) #[T, T, T, T, T, T, T, T, T, O] rfl rfl (one_of HT_.out (by kernel_rfl)) (by decide) (fun K hK => ?_)
              have hs114 : w113.cell? ⟨gb175, 0, none⟩ = some (.int .i64 x176000_2) := kc BK175 0
              have hfs114 := blk_frozen BK175.out 0
              have hns114_0 := NB171_175.out; have hns114_1 := NB172_175.out; have hns114_3 := NB176_175.out; have hns114_4 := NB182_175.out; have hns114_5 := NB183_175.out; have hns114_6 := NB189_175.out; have hns114_7 := NB190_175.out; have hms114_0 := NB175_171.out; have hms114_1 := NB175_172.out; have hms114_3 := NB175_176.out; have hms114_4 := NB175_182.out; have hms114_5 := NB175_183.out; have hms114_6 := NB175_189.out; have hms114_7 := NB175_190.out
              have hs115 : w113.cell? ⟨gb175, 1, none⟩ = some (.int .u64 x176001_2) := kc BK175 1
              have hfs115 := blk_frozen BK175.out 1
              have hns115_0 := NB171_175.out; have hns115_1 := NB172_175.out; have hns115_3 := NB176_175.out; have hns115_4 := NB182_175.out; have hns115_5 := NB183_175.out; have hns115_6 := NB189_175.out; have hns115_7 := NB190_175.out; have hms115_0 := NB175_171.out; have hms115_1 := NB175_172.out; have hms115_3 := NB175_176.out; have hms115_4 := NB175_182.out; have hms115_5 := NB175_183.out; have hms115_6 := NB175_189.out; have hms115_7 := NB175_190.out
              have hs116 : w113.cell? ⟨gb175, 2, none⟩ = some (.int .i64 x176002_2) := kc BK175 2
              have hfs116 := blk_frozen BK175.out 2
              have hns116_0 := NB171_175.out; have hns116_1 := NB172_175.out; have hns116_3 := NB176_175.out; have hns116_4 := NB182_175.out; have hns116_5 := NB183_175.out; have hns116_6 := NB189_175.out; have hns116_7 := NB190_175.out; have hms116_0 := NB175_171.out; have hms116_1 := NB175_172.out; have hms116_3 := NB175_176.out; have hms116_4 := NB175_182.out; have hms116_5 := NB175_183.out; have hms116_6 := NB175_189.out; have hms116_7 := NB175_190.out
              have hs117 : w113.cell? ⟨gb175, 3, none⟩ = some (.int .u64 x176003_2) := kc BK175 3
              have hfs117 := blk_frozen BK175.out 3
              have hns117_0 := NB171_175.out; have hns117_1 := NB172_175.out; have hns117_3 := NB176_175.out; have hns117_4 := NB182_175.out; have hns117_5 := NB183_175.out; have hns117_6 := NB189_175.out; have hns117_7 := NB190_175.out; have hms117_0 := NB175_171.out; have hms117_1 := NB175_172.out; have hms117_3 := NB175_176.out; have hms117_4 := NB175_182.out; have hms117_5 := NB175_183.out; have hms117_6 := NB175_189.out; have hms117_7 := NB175_190.out
              refine skip_ (w1 := ?_) (by rfl) rfl ?_ ?_
              rotate_left
              · go_simp
                rfl
              refine hK.out _ _ ⟨((cell_far (p := ⟨gb175, _, none⟩) NB176_175.out _).trans (((cell_far (p := ⟨gb175, _, none⟩) NB176_175.out _).trans (((cell_far (p := ⟨gb175, _, none⟩) NB176_175.out _).trans (((cell_far (p := ⟨gb175, _, none⟩) NB176_175.out _).trans (hHeld.1)))))))), ((cell_far (p := ⟨gb175, _, none⟩) NB176_175.out _).trans (((cell_far (p := ⟨gb175, _, none⟩) NB176_175.out _).trans (((cell_far (p := ⟨gb175, _, none⟩) NB176_175.out _).trans (((cell_far (p := ⟨gb175, _, none⟩) NB176_175.out _).trans (hHeld.2.1)))))))), ((cell_far (p := ⟨gb175, _, none⟩) NB176_175.out _).trans (((cell_far (p := ⟨gb175, _, none⟩) NB176_175.out _).trans (((cell_far (p := ⟨gb175, _, none⟩) NB176_175.out _).trans (((cell_far (p := ⟨gb175, _, none⟩) NB176_175.out _).trans (hHeld.2.2.1)))))))), ((cell_far (p := ⟨gb175, _, none⟩) NB176_175.out _).trans (((cell_far (p := ⟨gb175, _, none⟩) NB176_175.out _).trans (((cell_far (p := ⟨gb175, _, none⟩) NB176_175.out _).trans (((cell_far (p := ⟨gb175, _, none⟩) NB176_175.out _).trans (hHeld.2.2.2.1)))))))), ((cell_far (p := ⟨gb175, _, none⟩) NB190_175.out _).trans (((cell_far (p := ⟨gb175, _, none⟩) NB190_175.out _).trans (((cell_far (p := ⟨gb175, _, none⟩) NB190_175.out _).trans (((cell_far (p := ⟨gb175, _, none⟩) NB190_175.out _).trans (hHeld.2.2.2.2.1)))))))), ((cell_far (p := ⟨gb175, _, none⟩) NB190_175.out _).trans (((cell_far (p := ⟨gb175, _, none⟩) NB190_175.out _).trans (((cell_far (p := ⟨gb175, _, none⟩) NB190_175.out _).trans (((cell_far (p := ⟨gb175, _, none⟩) NB190_175.out _).trans (hHeld.2.2.2.2.2.1)))))))), ((cell_far (p := ⟨gb175, _, none⟩) NB183_175.out _).trans (((cell_far (p := ⟨gb175, _, none⟩) NB183_175.out _).trans (((cell_far (p := ⟨gb175, _, none⟩) NB183_175.out _).trans (((cell_far (p := ⟨gb175, _, none⟩) NB183_175.out _).trans (hHeld.2.2.2.2.2.2.1)))))))), ((cell_far (p := ⟨gb175, _, none⟩) NB183_175.out _).trans (((cell_far (p := ⟨gb175, _, none⟩) NB183_175.out _).trans (((cell_far (p := ⟨gb175, _, none⟩) NB183_175.out _).trans (((cell_far (p := ⟨gb175, _, none⟩) NB183_175.out _).trans (hHeld.2.2.2.2.2.2.2))))))))⟩ (fun hHeld => ?_)
              clear hK K
              refine last_ (i := 9) (N := none) #[T, T, T, T, T, T, T, T, T, T] rfl rfl (one_of HT_.out (by kernel_rfl)) (by decide) (fun K hK => ?_)
              have hs118 : w113.cell? ⟨gb176, 0, none⟩ = some (.int .i64 x177000_2) := kc BK176 0
              have hfs118 := blk_frozen BK176.out 0
              have hns118_0 := NB171_176.out; have hns118_1 := NB172_176.out; have hns118_2 := NB175_176.out; have hns118_4 := NB182_176.out; have hns118_5 := NB183_176.out; have hns118_6 := NB189_176.out; have hns118_7 := NB190_176.out; have hms118_0 := NB176_171.out; have hms118_1 := NB176_172.out; have hms118_2 := NB176_175.out; have hms118_4 := NB176_182.out; have hms118_5 := NB176_183.out; have hms118_6 := NB176_189.out; have hms118_7 := NB176_190.out
              have hs119 : w113.cell? ⟨gb176, 1, none⟩ = some (.int .u64 x177001_2) := kc BK176 1
              have hfs119 := blk_frozen BK176.out 1
              have hns119_0 := NB171_176.out; have hns119_1 := NB172_176.out; have hns119_2 := NB175_176.out; have hns119_4 := NB182_176.out; have hns119_5 := NB183_176.out; have hns119_6 := NB189_176.out; have hns119_7 := NB190_176.out; have hms119_0 := NB176_171.out; have hms119_1 := NB176_172.out; have hms119_2 := NB176_175.out; have hms119_4 := NB176_182.out; have hms119_5 := NB176_183.out; have hms119_6 := NB176_189.out; have hms119_7 := NB176_190.out
              have hs120 : w113.cell? ⟨gb176, 2, none⟩ = some (.int .i64 x177002_2) := kc BK176 2
              have hfs120 := blk_frozen BK176.out 2
              have hns120_0 := NB171_176.out; have hns120_1 := NB172_176.out; have hns120_2 := NB175_176.out; have hns120_4 := NB182_176.out; have hns120_5 := NB183_176.out; have hns120_6 := NB189_176.out; have hns120_7 := NB190_176.out; have hms120_0 := NB176_171.out; have hms120_1 := NB176_172.out; have hms120_2 := NB176_175.out; have hms120_4 := NB176_182.out; have hms120_5 := NB176_183.out; have hms120_6 := NB176_189.out; have hms120_7 := NB176_190.out
              have hs121 : w113.cell? ⟨gb176, 3, none⟩ = some (.int .u64 x177003_2) := kc BK176 3
              have hfs121 := blk_frozen BK176.out 3
              have hns121_0 := NB171_176.out; have hns121_1 := NB172_176.out; have hns121_2 := NB175_176.out; have hns121_4 := NB182_176.out; have hns121_5 := NB183_176.out; have hns121_6 := NB189_176.out; have hns121_7 := NB190_176.out; have hms121_0 := NB176_171.out; have hms121_1 := NB176_172.out; have hms121_2 := NB176_175.out; have hms121_4 := NB176_182.out; have hms121_5 := NB176_183.out; have hms121_6 := NB176_189.out; have hms121_7 := NB176_190.out
              refine skip_ (w1 := ?_) (by rfl) rfl ?_ ?_
              rotate_left
              · go_simp
                rfl
              refine hK.out _ _ ?_
              clear hK K
              refine done_ (done_of HT_.out (by kernel_rfl)) ?_
              try go_wp2
              go_roundg kj33
              case measure => have := HJ2.out; have := HK2.out; have := HJ33.out; omega
              case rel => exact ⟨(x177002_2), (x177003_2), (x177000_2), (x177001_2), (t186), (t187), (t179), (t180), H', ⟨by have := HJ2.out; have := HK2.out; have := HJ33.out; omega⟩, ⟨kx BK171⟩, ⟨kx BK172⟩, ⟨by (with_reducible repeat (first | refine blk_drewN ?_ _ | refine blk_drew ?_ | refine blk_alloc ?_ _)); refine blk_far ?_ NB175_176.out _; (with_reducible repeat (first | refine blk_drewN ?_ _ | refine blk_drew ?_ | refine blk_alloc ?_ _)); refine blk_far ?_ NB175_176.out _; (with_reducible repeat (first | refine blk_drewN ?_ _ | refine blk_drew ?_ | refine blk_alloc ?_ _)); refine blk_far ?_ NB175_176.out _; (with_reducible repeat (first | refine blk_drewN ?_ _ | refine blk_drew ?_ | refine blk_alloc ?_ _)); refine blk_far ?_ NB175_176.out _; (with_reducible repeat (first | refine blk_drewN ?_ _ | refine blk_drew ?_ | refine blk_alloc ?_ _)); refine blk_put (cs := #[.int .i64 x177002_2, .int .u64 x177003_2, .int .i64 x177000_2, .int .u64 x176003_2]) ?_ 3 _ rfl; (with_reducible repeat (first | refine blk_drewN ?_ _ | refine blk_drew ?_ | refine blk_alloc ?_ _)); refine blk_put (cs := #[.int .i64 x177002_2, .int .u64 x177003_2, .int .i64 x176002_2, .int .u64 x176003_2]) ?_ 2 _ rfl; (with_reducible repeat (first | refine blk_drewN ?_ _ | refine blk_drew ?_ | refine blk_alloc ?_ _)); refine blk_put (cs := #[.int .i64 x177002_2, .int .u64 x176001_2, .int .i64 x176002_2, .int .u64 x176003_2]) ?_ 1 _ rfl; (with_reducible repeat (first | refine blk_drewN ?_ _ | refine blk_drew ?_ | refine blk_alloc ?_ _)); refine blk_put (cs := #[.int .i64 x176000_2, .int .u64 x176001_2, .int .i64 x176002_2, .int .u64 x176003_2]) ?_ 0 _ rfl; (with_reducible repeat (first | refine blk_drewN ?_ _ | refine blk_drew ?_ | refine blk_alloc ?_ _)); exact BK175.out⟩, ⟨by (with_reducible repeat (first | refine blk_drewN ?_ _ | refine blk_drew ?_ | refine blk_alloc ?_ _)); refine blk_put (cs := #[.int .i64 t186, .int .u64 t187, .int .i64 t179, .int .u64 x177003_2]) ?_ 3 _ rfl; (with_reducible repeat (first | refine blk_drewN ?_ _ | refine blk_drew ?_ | refine blk_alloc ?_ _)); refine blk_put (cs := #[.int .i64 t186, .int .u64 t187, .int .i64 x177002_2, .int .u64 x177003_2]) ?_ 2 _ rfl; (with_reducible repeat (first | refine blk_drewN ?_ _ | refine blk_drew ?_ | refine blk_alloc ?_ _)); refine blk_put (cs := #[.int .i64 t186, .int .u64 x177001_2, .int .i64 x177002_2, .int .u64 x177003_2]) ?_ 1 _ rfl; (with_reducible repeat (first | refine blk_drewN ?_ _ | refine blk_drew ?_ | refine blk_alloc ?_ _)); refine blk_put (cs := #[.int .i64 x177000_2, .int .u64 x177001_2, .int .i64 x177002_2, .int .u64 x177003_2]) ?_ 0 _ rfl; (with_reducible repeat (first | refine blk_drewN ?_ _ | refine blk_drew ?_ | refine blk_alloc ?_ _)); refine blk_far ?_ NB176_175.out _; (with_reducible repeat (first | refine blk_drewN ?_ _ | refine blk_drew ?_ | refine blk_alloc ?_ _)); refine blk_far ?_ NB176_175.out _; (with_reducible repeat (first | refine blk_drewN ?_ _ | refine blk_drew ?_ | refine blk_alloc ?_ _)); refine blk_far ?_ NB176_175.out _; (with_reducible repeat (first | refine blk_drewN ?_ _ | refine blk_drew ?_ | refine blk_alloc ?_ _)); refine blk_far ?_ NB176_175.out _; (with_reducible repeat (first | refine blk_drewN ?_ _ | refine blk_drew ?_ | refine blk_alloc ?_ _)); exact BK176.out⟩, ⟨ky HB⟩⟩
/-! ### wide_Neg: function 30 -/
def wide_Neg.f (a0_0 : Int) (a0_1 : Int) : Option (Int × Int × Bool) := (wide_turn.f a0_0 a0_1).bind fun bt294 => ((wide_least.f).bind fun bt296 => ((wide_told.f bt294.1 bt294.2 (!(a0_0 == bt296.1) || (!(a0_1 == bt296.2)))).bind fun bt298 => (some (bt298.1, bt298.2.1, bt298.2.2))))
def wide_Neg.T1 : Bool × List (List Nat × List Nat) := (true, [([], []), ([0], [0]), ([], []), ([1], []), ([2, 3], [2, 3]), ([1, 4, 3], [1, 4]), ([5], [5]), ([5], [5]), ([6, 5, 0, 1, 2, 3, 4, 5, 6, 7], [6]), ([7, 8, 0, 1, 2, 3, 4, 5, 6, 7, 8], [7])])
def wide_Neg.B1 : List Nat := [0, 1, 0, 3, 15, 31, 63, 63, 255, 511]
theorem wide_Neg.tab1 : rtab .any (opsOf Try.f30 1) = wide_Neg.T1 := by kernel_rfl
theorem wide_Neg.bits1 : waitsOk wide_Neg.T1.2 wide_Neg.B1 = true := by kernel_rfl
set_option maxHeartbeats 8000000 in
set_option maxRecDepth 100000 in
theorem wide_Neg.calls (a0_0 : Int) (a0_1 : Int) (r1 : Int) (r2 : Int) (r3 : Bool) (w : World) (h : wide_Neg.f a0_0 a0_1 = some (r1, r2, r3)) :
    Calls Try.prog 30 #[.agg #[.int .i64 a0_0, .int .u64 a0_1]] w fun e w' => e = .returned (.tuple #[.agg #[.int .i64 r1, .int .u64 r2], .bool r3]) ∧ Below w.heap.size w w' := by
  have hu24 := Try.underlying24
  have HB := Aside0.mk (Below.refl w.heap.size w)
  have H : ((wide_turn.f a0_0 a0_1).bind fun bt294 => ((wide_least.f).bind fun bt296 => ((wide_told.f bt294.1 bt294.2 (!(a0_0 == bt296.1) || (!(a0_1 == bt296.2)))).bind fun bt298 => (some (bt298.1, bt298.2.1, bt298.2.2))))) = some (r1, r2, r3) := h
  clear h
  replace H := Option.bind_eq_some_iff.mp H
  obtain ⟨⟨t294, t295⟩, A20, H⟩ := H
  replace H : ((wide_least.f).bind fun bt296 => ((wide_told.f t294 t295 (!(a0_0 == bt296.1) || (!(a0_1 == bt296.2)))).bind fun bt298 => (some (bt298.1, bt298.2.1, bt298.2.2)))) = some (r1, r2, r3) := H
  have A2 := Aside0.mk A20
  clear A20
  replace H := Option.bind_eq_some_iff.mp H
  obtain ⟨⟨t296, t297⟩, A30, H⟩ := H
  replace H : ((wide_told.f t294 t295 (!(a0_0 == t296) || (!(a0_1 == t297)))).bind fun bt298 => (some (bt298.1, bt298.2.1, bt298.2.2))) = some (r1, r2, r3) := H
  have A3 := Aside0.mk A30
  clear A30
  replace H := Option.bind_eq_some_iff.mp H
  obtain ⟨⟨t298, t299, t300⟩, A40, H⟩ := H
  replace H : (some (t298, t299, t300)) = some (r1, r2, r3) := H
  have A4 := Aside0.mk A40
  clear A40
  simp only [Option.some.injEq, Prod.mk.injEq] at H
  obtain ⟨rfl, rfl, rfl⟩ := H
  go_enter Try.func30, Try.ntmps30
  try go_wp2_with (first | ((with_reducible refine gate_dst (N := 1) rfl ?_); refine box_event ?hg (N := 1) ?hd (cs := #[.int .i64 a0_0, .int .u64 a0_1]) (t := 24) ?hr ?_; (case hd => rfl); (case hg => rfl); (case hr => first | (go_simp; done) | (go_simp; rfl)); intro gb292 hg w5 hbox hb; have BK292 := Aside0.mk (hbox); have GW292 := kS HB hg; have GE292 := kS HB hg; replace HB := kB HB hb; clear hb hbox hg) | ((with_reducible refine gate_dst (N := 2) rfl ?_); refine box_event ?hg (N := 2) ?hd (cs := #[.int .i64 0, .int .u64 0]) (t := 24) ?hr ?_; (case hd => rfl); (case hg => rfl); (case hr => first | (go_simp; done) | (go_simp; rfl)); intro gb293 hg w6 hbox hb; have BK293 := Aside0.mk (hbox); have GW293 := kS HB hg; have GE293 := kS HB hg; have NB292_293 := kN BK292 hg; have NB293_292 := kM BK292 hg; replace BK292 := kb BK292 hb; replace HB := kB HB hb; clear hb hbox hg))
  replace BK292 := Aside0.mk (blk_drew BK292.out)
  replace BK293 := Aside0.mk (blk_drew BK293.out)
  replace HB := Aside0.mk (below_drew1 HB.out)
  refine start_ (n := 10) (S := fun w' => w'.cell? ⟨gb292, 0, none⟩ = some (.int .i64 a0_0) ∧ w'.cell? ⟨gb292, 1, none⟩ = some (.int .u64 a0_1)) (ds := []) #[O, O, O, O, O, O, O, O, O, O] (by kernel_rfl) rfl rfl ⟨kc BK292 0, kc BK292 1⟩ (fun hHeld => ?_); refine with_tabW wide_Neg.tab1 wide_Neg.bits1 (fun HT_ HW_ => ?_)
  generalize w6.drew = w7 at BK292 BK293 HB hHeld ⊢
  refine take_ (i := 0) (N := some 4) (v := ?_) (a' := ?_) #[T, O, O, O, O, O, O, O, O, O] rfl rfl (take_ofW HT_.out HW_.out (by kernel_rfl)) (fun _ _ _ h => h) (Or.inl ⟨by rfl, ?_⟩) hHeld ?_ ?_; rotate_left; focus (rintro w' ⟨s0, s1⟩; go_simp; with_reducible rfl)
  rotate_left; focus (simp only [Act.put, s1, s2, s3, i64_w, i32_w]; rfl)
  refine take_ (i := 2) (N := some 6) (v := ?_) (a' := ?_) #[T, O, T, O, O, O, O, O, O, O] rfl rfl (take_ofW HT_.out HW_.out (by kernel_rfl)) (fun _ _ _ h => h) (Or.inl ⟨by rfl, ?_⟩) hHeld ?_ ?_; rotate_left; focus (rintro w' ⟨s0, s1⟩; go_simp; with_reducible rfl)
  rotate_left; focus (simp only [Act.put, s1, s2, s3, i64_w, i32_w]; rfl)
  refine one_ (i := 1) (N := some 5) #[T, T, T, O, O, O, O, O, O, O] rfl rfl (one_of HT_.out (by kernel_rfl)) (by decide) (fun K hK => ?_)
  refine goes_ Try.func65 (by kernel_rfl) rfl #[.agg #[.int .i64 a0_0, .int .u64 a0_1]] (by rfl) rfl rfl (by (try simp only [List.map_toArray, List.map_cons, List.map_nil]); first | done | rfl | (simp only [List.length_drop, List.length_take]; rfl)) ?_
  with_reducible refine (wide_turn.calls a0_0 a0_1 t294 t295 _ A2.out).mono ?_
  rintro e w8 ⟨rfl, hb⟩
  refine ⟨_, rfl, ?_⟩
  replace BK292 := kb BK292 hb
  replace BK293 := kb BK293 hb
  replace HB := kB HB hb
  (try clear hb); (try clear hb2); (try clear hk); (try clear hi)
  refine hK.out _ _ ⟨kc BK292 0, kc BK292 1⟩ (fun hHeld => ?_)
  clear hK K
  refine norm_ (a' := ?_) ?_ ?_; rotate_left; focus (show Act.put _ (some 5) _ = _; simp only [Act.put, s1, s2, s3, i64_w, i32_w]; rfl)
  refine one_ (i := 3) (N := some 7) #[T, T, T, T, O, O, O, O, O, O] rfl rfl (one_of HT_.out (by kernel_rfl)) (by decide) (fun K hK => ?_)
  refine goes_ Try.func66 (by kernel_rfl) rfl #[] (by rfl) rfl rfl (by (try simp only [List.map_toArray, List.map_cons, List.map_nil]); first | done | rfl | (simp only [List.length_drop, List.length_take]; rfl)) ?_
  with_reducible refine (wide_least.calls  t296 t297 _ A3.out).mono ?_
  rintro e w9 ⟨rfl, hb⟩
  refine ⟨_, rfl, ?_⟩
  replace BK292 := kb BK292 hb
  replace BK293 := kb BK293 hb
  replace HB := kB HB hb
  (try clear hb); (try clear hb2); (try clear hk); (try clear hi)
  refine hK.out _ _ ⟨kc BK292 0, kc BK292 1⟩ (fun hHeld => ?_)
  clear hK K
  refine norm_ (a' := ?_) ?_ ?_; rotate_left; focus (show Act.put _ (some 7) _ = _; simp only [Act.put, s1, s2, s3, i64_w, i32_w]; rfl)
  refine pure_ (i := 4) (N := some 8) (v := ?_) (a' := ?_) #[T, T, T, T, T, O, O, O, O, O] rfl rfl (any_of HT_.out (by kernel_rfl)) (fun _ _ _ h => h) (Or.inl ⟨by rfl, ?_⟩) ?_ ?_; rotate_left; focus (intro w'; go_simp; with_reducible rfl)
  rotate_left; focus (simp only [Act.put, s1, s2, s3, i64_w, i32_w]; rfl)
  refine one_ (i := 5) (N := some 9) #[T, T, T, T, T, T, O, O, O, O] rfl rfl (one_of HT_.out (by kernel_rfl)) (by decide) (fun K hK => ?_)
  refine goes_ Try.func56 (by kernel_rfl) rfl #[.agg #[.int .i64 t294, .int .u64 t295], .bool (!(a0_0 == t296) || (!(a0_1 == t297)))] (by rfl) rfl rfl (by (try simp only [List.map_toArray, List.map_cons, List.map_nil]); first | done | rfl | (simp only [List.length_drop, List.length_take]; rfl)) ?_
  with_reducible refine (wide_told.calls t294 t295 (!(a0_0 == t296) || (!(a0_1 == t297))) t298 t299 t300 _ A4.out).mono ?_
  rintro e w10 ⟨rfl, hb⟩
  refine ⟨_, rfl, ?_⟩
  replace BK292 := kb BK292 hb
  replace BK293 := kb BK293 hb
  replace HB := kB HB hb
  (try clear hb); (try clear hb2); (try clear hk); (try clear hi)
  refine hK.out _ _ ⟨kc BK292 0, kc BK292 1⟩ (fun hHeld => ?_)
  clear hK K
  refine norm_ (a' := ?_) ?_ ?_; rotate_left; focus (show Act.put _ (some 9) _ = _; simp only [Act.put, s1, s2, s3, i64_w, i32_w]; rfl)
  refine pure_ (i := 6) (N := some 10) (v := ?_) (a' := ?_) #[T, T, T, T, T, T, T, O, O, O] rfl rfl (any_of HT_.out (by kernel_rfl)) (fun _ _ _ h => h) (Or.inl ⟨by rfl, ?_⟩) ?_ ?_; rotate_left; focus (intro w'; go_simp; with_reducible rfl)
  rotate_left; focus (simp only [Act.put, s1, s2, s3, i64_w, i32_w]; rfl)
  refine pure_ (i := 7) (N := some 11) (v := ?_) (a' := ?_) #[T, T, T, T, T, T, T, T, O, O] rfl rfl (any_of HT_.out (by kernel_rfl)) (fun _ _ _ h => h) (Or.inl ⟨by rfl, ?_⟩) ?_ ?_; rotate_left; focus (intro w'; go_simp; with_reducible rfl)
  rotate_left; focus (simp only [Act.put, s1, s2, s3, i64_w, i32_w]; rfl)
  refine one_ (i := 8) (N := none) #[T, T, T, T, T, T, T, T, T, O] rfl rfl (one_of HT_.out (by kernel_rfl)) (by decide) (fun K hK => ?_)
  have hs11 : w10.cell? ⟨gb293, 0, none⟩ = some (.int .i64 0) := kc BK293 0
  have hfs11 := blk_frozen BK293.out 0
  have hns11_0 := NB292_293.out; have hms11_0 := NB293_292.out
  have hs12 : w10.cell? ⟨gb293, 1, none⟩ = some (.int .u64 0) := kc BK293 1
  have hfs12 := blk_frozen BK293.out 1
  have hns12_0 := NB292_293.out; have hms12_0 := NB293_292.out
  refine skip_ (w1 := ?_) (by rfl) rfl ?_ ?_
  rotate_left
  · go_simp
    rfl
  refine hK.out _ _ ⟨((cell_far (p := ⟨gb293, _, none⟩) NB292_293.out _).trans (((cell_far (p := ⟨gb293, _, none⟩) NB292_293.out _).trans (hHeld.1)))), ((cell_far (p := ⟨gb293, _, none⟩) NB292_293.out _).trans (((cell_far (p := ⟨gb293, _, none⟩) NB292_293.out _).trans (hHeld.2))))⟩ (fun hHeld => ?_)
  clear hK K
  refine pure_ (i := 9) (N := some 3) (v := ?_) (a' := ?_) #[T, T, T, T, T, T, T, T, T, T] rfl rfl (any_of HT_.out (by kernel_rfl)) (fun _ _ _ h => h) (Or.inl ⟨by rfl, ?_⟩) ?_ ?_; rotate_left; focus (intro w'; go_simp; with_reducible rfl)
  rotate_left; focus (simp only [Act.put, s1, s2, s3, i64_w, i32_w]; rfl)
  refine done_ (done_of HT_.out (by kernel_rfl)) ?_
  try go_wp2
  refine bodyPost_ret (results_ct rfl _ _ gb293 24 #[.int .i64 t298, .int .u64 t299] (0, 0) _ rfl (by (with_reducible repeat (first | refine blk_drewN ?_ _ | refine blk_drew ?_ | refine blk_alloc ?_ _)); refine blk_put (cs := #[.int .i64 t298, .int .u64 0]) ?_ 1 _ rfl; (with_reducible repeat (first | refine blk_drewN ?_ _ | refine blk_drew ?_ | refine blk_alloc ?_ _)); refine blk_put (cs := #[.int .i64 0, .int .u64 0]) ?_ 0 _ rfl; (with_reducible repeat (first | refine blk_drewN ?_ _ | refine blk_drew ?_ | refine blk_alloc ?_ _)); exact BK293.out) Try.underlying24 rfl (by kernel_rfl)) rfl ?_
  exact ⟨by first | rfl | (simp [errW_none, errW_some] <;> rfl) | (simp [*, errW_none, errW_some] <;> rfl), ky HB⟩

end Go.Proofs.Ytpjbniihdndlmab.Q
