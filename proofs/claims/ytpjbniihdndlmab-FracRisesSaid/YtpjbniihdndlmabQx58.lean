-- Printed by wip/pp.sh (a session's own turning of the kit's print) for this seat.
import Derived.Test.YtpjbniihdndlmabQx0
import Derived.Test.YtpjbniihdndlmabQx1
import Derived.Test.YtpjbniihdndlmabQx12
import Derived.Test.YtpjbniihdndlmabQx13
import Derived.Test.YtpjbniihdndlmabQx24
import Derived.Test.YtpjbniihdndlmabQx26
import Derived.Test.YtpjbniihdndlmabQx30
import Derived.Test.YtpjbniihdndlmabQx34
namespace Go.Proofs.Ytpjbniihdndlmab.Q
open Go.RowKit Go.Proofs.YtpjbniihdndlmabW.PrintWords Go.Proofs.YtpjbniihdndlmabW.PrintLast Go.Proofs.YtpjbniihdndlmabW.PrintMore
open Go.Proofs.Ytpjbniihdndlmab.H
attribute [local go_sem] hq_add64 hq_sub64 hq_not64 add64c_nn sub64c_nn sub64c_le
attribute [local go_sem] max2_int min2_int max_two min_two max_three min_three max_four min_four   -- for this text's walks alone
set_option linter.unusedVariables false
set_option linter.unusedSimpArgs false

attribute [local go_sem high] eqA24
/-! ### cobweblaw02_FracRises: function 6 -/
mutual
def cobweblaw02_FracRises.j0 : Nat → Int → Int → Bool → Int → Int → Int → Int → Int → Int → Int → Int → Option (Bool)
  | 0, _, _, _, _, _, _, _, _, _, _, _ => none
  | k + 1, x1, x2, x26, x696000, x696001, x696002, x696003, x697000, x697001, x697002, x697003 => if x26 = true then ((cobweblaw02_alive.f k).bind fun t697 => (some t697)) else ((frac_Snap.f k x696000 x696001 x696002 x696003 x2).bind fun bt698 => ((frac_Snap.f k x697000 x697001 x697002 x697003 x2).bind fun bt702 => ((wide_Of.f (wrap64 (x1))).bind fun bt706 => ((wide_Shl.f k bt706.1 bt706.2 x2).bind fun bt708 => ((wide_Of.f 1).bind fun bt712 => ((frac_Snap.f k bt708.1 bt708.2.1 bt712.1 bt712.2 x2).bind fun bt714 => (if bt708.2.2 = true then (if bt714.2.2 = true then ((wide_Of.f (wrap64 (x1))).bind fun bt718 => (cobweblaw02_FracRises.j1 k bt698.2.2 bt702.2.2 (!(bt714.1 == bt718.1) || (!(bt714.2.1 == bt718.2))) x696000 x696001 x696002 x696003 x697000 x697001 x697002 x697003 bt698.1 bt698.2.1 bt702.1 bt702.2.1)) else (cobweblaw02_FracRises.j1 k bt698.2.2 bt702.2.2 true x696000 x696001 x696002 x696003 x697000 x697001 x697002 x697003 bt698.1 bt698.2.1 bt702.1 bt702.2.1)) else (cobweblaw02_FracRises.j1 k bt698.2.2 bt702.2.2 true x696000 x696001 x696002 x696003 x697000 x697001 x697002 x697003 bt698.1 bt698.2.1 bt702.1 bt702.2.1))))))))
def cobweblaw02_FracRises.j1 : Nat → Bool → Bool → Bool → Int → Int → Int → Int → Int → Int → Int → Int → Int → Int → Int → Int → Option (Bool)
  | 0, _, _, _, _, _, _, _, _, _, _, _, _, _, _, _ => none
  | k + 1, x10, x12, x68, x696000, x696001, x696002, x696003, x697000, x697001, x697002, x697003, x702000, x702001, x706000, x706001 => if x68 = true then (some false) else ((cobweblaw02_alive.f k).bind fun t720 => (if t720 = true then (if x10 = true then (if x12 = true then ((frac_Cmp.f k x696000 x696001 x696002 x696003 x697000 x697001 x697002 x697003).bind fun t721 => (if t721 > 0 then (some true) else ((wide_Cmp.f k x702000 x702001 x706000 x706001).bind fun t722 => (some (decide (t722 ≤ 0)))))) else (some true)) else (some true)) else (none)))
end
def cobweblaw02_FracRises.f (k : Nat) (a0_0 : Int) (a0_1 : Int) (a0_2 : Int) (a0_3 : Int) (a0_4 : Int) (a0_5 : Int) (a0_6 : Int) (a0_7 : Int) (a1 : Int) (a2 : Int) : Option (Bool) := if a2 < 0 then (cobweblaw02_FracRises.j0 k a1 a2 true a0_0 a0_1 a0_2 a0_3 a0_4 a0_5 a0_6 a0_7) else (cobweblaw02_FracRises.j0 k a1 a2 (decide (a2 > 90)) a0_0 a0_1 a0_2 a0_3 a0_4 a0_5 a0_6 a0_7)
theorem cobweblaw02_FracRises.mono_l : ∀ k, (∀ y0 y1 y2 y3 y4 y5 y6 y7 y8 y9 y10, LeO (cobweblaw02_FracRises.j0 k y0 y1 y2 y3 y4 y5 y6 y7 y8 y9 y10) (cobweblaw02_FracRises.j0 (k + 1) y0 y1 y2 y3 y4 y5 y6 y7 y8 y9 y10)) ∧ (∀ y0 y1 y2 y3 y4 y5 y6 y7 y8 y9 y10 y11 y12 y13 y14, LeO (cobweblaw02_FracRises.j1 k y0 y1 y2 y3 y4 y5 y6 y7 y8 y9 y10 y11 y12 y13 y14) (cobweblaw02_FracRises.j1 (k + 1) y0 y1 y2 y3 y4 y5 y6 y7 y8 y9 y10 y11 y12 y13 y14))
  | 0 => ⟨fun _ _ _ _ _ _ _ _ _ _ _ r h => by simp [cobweblaw02_FracRises.j0] at h, fun _ _ _ _ _ _ _ _ _ _ _ _ _ _ _ r h => by simp [cobweblaw02_FracRises.j1] at h⟩
  | k + 1 => by
    obtain ⟨ih0, ih1⟩ := cobweblaw02_FracRises.mono_l k
    refine ⟨?_, ?_⟩
    · intro y0 y1 y2 y3 y4 y5 y6 y7 y8 y9 y10
      unfold cobweblaw02_FracRises.j0
      repeat' first
      | (with_reducible exact ih0 _ _ _ _ _ _ _ _ _ _ _)
      | (with_reducible exact ih1 _ _ _ _ _ _ _ _ _ _ _ _ _ _ _)
      | (with_reducible exact cobweblaw02_alive.mono _)
      | (with_reducible exact frac_Cmp.mono _ _ _ _ _ _ _ _ _)
      | (with_reducible exact frac_Snap.mono _ _ _ _ _ _)
      | (with_reducible exact wide_Cmp.mono _ _ _ _ _)
      | (with_reducible exact wide_Shl.mono _ _ _ _)
      | (with_reducible exact LeO.refl _)
      | (with_reducible exact LeO.none _)
      | (with_reducible refine LeO.ite ?_ ?_)
      | (with_reducible refine LeO.bind ?_ (fun _ => ?_))
      | exact ih0 _ _ _ _ _ _ _ _ _ _ _
      | exact ih1 _ _ _ _ _ _ _ _ _ _ _ _ _ _ _
      | exact cobweblaw02_alive.mono _
      | exact frac_Cmp.mono _ _ _ _ _ _ _ _ _
      | exact frac_Snap.mono _ _ _ _ _ _
      | exact wide_Cmp.mono _ _ _ _ _
      | exact wide_Shl.mono _ _ _ _
      | exact LeO.none _
      | refine LeO.ite ?_ ?_
      | refine LeO.bind ?_ (fun _ => ?_)
    · intro y0 y1 y2 y3 y4 y5 y6 y7 y8 y9 y10 y11 y12 y13 y14
      unfold cobweblaw02_FracRises.j1
      repeat' first
      | (with_reducible exact ih0 _ _ _ _ _ _ _ _ _ _ _)
      | (with_reducible exact ih1 _ _ _ _ _ _ _ _ _ _ _ _ _ _ _)
      | (with_reducible exact cobweblaw02_alive.mono _)
      | (with_reducible exact frac_Cmp.mono _ _ _ _ _ _ _ _ _)
      | (with_reducible exact frac_Snap.mono _ _ _ _ _ _)
      | (with_reducible exact wide_Cmp.mono _ _ _ _ _)
      | (with_reducible exact wide_Shl.mono _ _ _ _)
      | (with_reducible exact LeO.refl _)
      | (with_reducible exact LeO.none _)
      | (with_reducible refine LeO.ite ?_ ?_)
      | (with_reducible refine LeO.bind ?_ (fun _ => ?_))
      | exact ih0 _ _ _ _ _ _ _ _ _ _ _
      | exact ih1 _ _ _ _ _ _ _ _ _ _ _ _ _ _ _
      | exact cobweblaw02_alive.mono _
      | exact frac_Cmp.mono _ _ _ _ _ _ _ _ _
      | exact frac_Snap.mono _ _ _ _ _ _
      | exact wide_Cmp.mono _ _ _ _ _
      | exact wide_Shl.mono _ _ _ _
      | exact LeO.none _
      | refine LeO.ite ?_ ?_
      | refine LeO.bind ?_ (fun _ => ?_)
theorem cobweblaw02_FracRises.mono : ∀ a0 a1 a2 a3 a4 a5 a6 a7 a8 a9 k, LeO (cobweblaw02_FracRises.f k a0 a1 a2 a3 a4 a5 a6 a7 a8 a9) (cobweblaw02_FracRises.f (k + 1) a0 a1 a2 a3 a4 a5 a6 a7 a8 a9) := by
  intro a0 a1 a2 a3 a4 a5 a6 a7 a8 a9 k
  obtain ⟨ih0, ih1⟩ := cobweblaw02_FracRises.mono_l k
  unfold cobweblaw02_FracRises.f
  repeat' first
      | (with_reducible exact ih0 _ _ _ _ _ _ _ _ _ _ _)
      | (with_reducible exact ih1 _ _ _ _ _ _ _ _ _ _ _ _ _ _ _)
      | (with_reducible exact cobweblaw02_alive.mono _)
      | (with_reducible exact frac_Cmp.mono _ _ _ _ _ _ _ _ _)
      | (with_reducible exact frac_Snap.mono _ _ _ _ _ _)
      | (with_reducible exact wide_Cmp.mono _ _ _ _ _)
      | (with_reducible exact wide_Shl.mono _ _ _ _)
      | (with_reducible exact LeO.refl _)
      | (with_reducible exact LeO.none _)
      | (with_reducible refine LeO.ite ?_ ?_)
      | (with_reducible refine LeO.bind ?_ (fun _ => ?_))
      | exact ih0 _ _ _ _ _ _ _ _ _ _ _
      | exact ih1 _ _ _ _ _ _ _ _ _ _ _ _ _ _ _
      | exact cobweblaw02_alive.mono _
      | exact frac_Cmp.mono _ _ _ _ _ _ _ _ _
      | exact frac_Snap.mono _ _ _ _ _ _
      | exact wide_Cmp.mono _ _ _ _ _
      | exact wide_Shl.mono _ _ _ _
      | exact LeO.none _
      | refine LeO.ite ?_ ?_
      | refine LeO.bind ?_ (fun _ => ?_)
def cobweblaw02_FracRises.T1 : Bool × List (List Nat × List Nat) := (true, [([], []), ([0], [0]), ([], []), ([2], [2]), ([], []), ([], []), ([4, 1, 0, 1, 4, 5], [1, 4]), ([5, 3, 6, 0, 1, 2, 3, 4, 5, 6], [3, 5])])
def cobweblaw02_FracRises.B1 : List Nat := [0, 1, 0, 4, 0, 0, 51, 127]
theorem cobweblaw02_FracRises.tab1 : rtab .any (opsOf Try.f6 1) = cobweblaw02_FracRises.T1 := by kernel_rfl
theorem cobweblaw02_FracRises.bits1 : waitsOk cobweblaw02_FracRises.T1.2 cobweblaw02_FracRises.B1 = true := by kernel_rfl
def cobweblaw02_FracRises.T7 : Bool × List (List Nat × List Nat) := (true, [([], []), ([], []), ([0, 1], [0, 1]), ([], []), ([2, 3, 1], [2, 3]), ([4], [4]), ([5], [5]), ([5], [5]), ([], []), ([8, 6, 4, 0, 1, 2, 3, 4, 5, 6, 8], [6, 8]), ([7, 9, 0, 1, 2, 3, 4, 5, 6, 7, 8, 9], [7])])
def cobweblaw02_FracRises.B7 : List Nat := [0, 0, 3, 0, 15, 31, 63, 63, 0, 383, 1023]
theorem cobweblaw02_FracRises.tab7 : rtab .any (opsOf Try.f6 7) = cobweblaw02_FracRises.T7 := by kernel_rfl
theorem cobweblaw02_FracRises.bits7 : waitsOk cobweblaw02_FracRises.T7.2 cobweblaw02_FracRises.B7 = true := by kernel_rfl
def cobweblaw02_FracRises.T8 : Bool × List (List Nat × List Nat) := (true, [([], []), ([0], [0]), ([1], [1]), ([2], [2]), ([3, 2], [2, 3]), ([2, 4], [2, 4]), ([5, 2], [5]), ([6], [6]), ([6], [6]), ([8, 6], [6, 8]), ([9, 6, 6], [6, 9]), ([7, 10, 6], [6, 7, 10]), ([6, 11], [6, 11])])
def cobweblaw02_FracRises.B8 : List Nat := [0, 1, 3, 7, 15, 31, 63, 127, 127, 383, 895, 2047, 4095]
theorem cobweblaw02_FracRises.tab8 : rtab .any (opsOf Try.f6 8) = cobweblaw02_FracRises.T8 := by kernel_rfl
theorem cobweblaw02_FracRises.bits8 : waitsOk cobweblaw02_FracRises.T8.2 cobweblaw02_FracRises.B8 = true := by kernel_rfl
set_option maxHeartbeats 8000000 in
set_option maxRecDepth 100000 in
theorem cobweblaw02_FracRises.calls (k : Nat) (a0_0 : Int) (a0_1 : Int) (a0_2 : Int) (a0_3 : Int) (a0_4 : Int) (a0_5 : Int) (a0_6 : Int) (a0_7 : Int) (a1 : Int) (a2 : Int) (r : Bool) (w : World) (h : cobweblaw02_FracRises.f k a0_0 a0_1 a0_2 a0_3 a0_4 a0_5 a0_6 a0_7 a1 a2 = some r) :
    Calls Try.prog 6 #[.agg #[.int .i64 a0_0, .int .u64 a0_1, .int .i64 a0_2, .int .u64 a0_3, .int .i64 a0_4, .int .u64 a0_5, .int .i64 a0_6, .int .u64 a0_7], .int .i32 a1, .int .i64 a2] w fun e w' => e = .returned (.bool r) ∧ Below w.heap.size w w' := by
  have hu49 := Try.underlying49
  have hu26 := Try.underlying26
  have hu24 := Try.underlying24
  have HB := Aside0.mk (Below.refl w.heap.size w)
  have H : (if a2 < 0 then (cobweblaw02_FracRises.j0 k a1 a2 true a0_0 a0_1 a0_2 a0_3 a0_4 a0_5 a0_6 a0_7) else (cobweblaw02_FracRises.j0 k a1 a2 (decide (a2 > 90)) a0_0 a0_1 a0_2 a0_3 a0_4 a0_5 a0_6 a0_7)) = some r := h
  clear h
  have HC4 := Aside0.mk H
  clear H
  go_enter Try.func6, Try.ntmps6
  try go_wp2_with (first | ((with_reducible refine gate_dst (N := 3) rfl ?_); refine box_event ?hg (N := 3) ?hd (cs := #[.int .i64 a0_0, .int .u64 a0_1, .int .i64 a0_2, .int .u64 a0_3, .int .i64 a0_4, .int .u64 a0_5, .int .i64 a0_6, .int .u64 a0_7]) (t := 49) ?hr ?_; (case hd => rfl); (case hg => rfl); (case hr => first | (go_simp; done) | (go_simp; rfl)); intro gb694 hg w5 hbox hb; have BK694 := Aside0.mk (hbox); have GW694 := kS HB hg; have GE694 := kS HB hg; replace HB := kB HB hb; clear hb hbox hg))
  replace BK694 := Aside0.mk (blk_drew BK694.out)
  replace HB := Aside0.mk (below_drew1 HB.out)
  refine start_ (n := 8) (S := fun w' => w'.cell? ⟨gb694, 0, none⟩ = some (.int .i64 a0_0) ∧ w'.cell? ⟨gb694, 1, none⟩ = some (.int .u64 a0_1) ∧ w'.cell? ⟨gb694, 2, none⟩ = some (.int .i64 a0_2) ∧ w'.cell? ⟨gb694, 3, none⟩ = some (.int .u64 a0_3) ∧ w'.cell? ⟨gb694, 4, none⟩ = some (.int .i64 a0_4) ∧ w'.cell? ⟨gb694, 5, none⟩ = some (.int .u64 a0_5) ∧ w'.cell? ⟨gb694, 6, none⟩ = some (.int .i64 a0_6) ∧ w'.cell? ⟨gb694, 7, none⟩ = some (.int .u64 a0_7)) (ds := []) #[O, O, O, O, O, O, O, O] (by kernel_rfl) rfl rfl ⟨kc BK694 0, kc BK694 1, kc BK694 2, kc BK694 3, kc BK694 4, kc BK694 5, kc BK694 6, kc BK694 7⟩ (fun hHeld => ?_); refine with_tabW cobweblaw02_FracRises.tab1 cobweblaw02_FracRises.bits1 (fun HT_ HW_ => ?_)
  generalize w5.drew = w6 at BK694 HB hHeld ⊢
  refine pure_ (i := 0) (N := some 17) (v := ?_) (a' := ?_) #[T, O, O, O, O, O, O, O] rfl rfl (any_of HT_.out (by kernel_rfl)) (fun _ _ _ h => h) (Or.inl ⟨by rfl, ?_⟩) ?_ ?_; rotate_left; focus (intro w'; go_simp; with_reducible rfl)
  rotate_left; focus (simp only [Act.put, s1, s2, s3, i64_w, i32_w]; rfl)
  refine pure_ (i := 2) (N := some 19) (v := ?_) (a' := ?_) #[T, O, T, O, O, O, O, O] rfl rfl (any_of HT_.out (by kernel_rfl)) (fun _ _ _ h => h) (Or.inl ⟨by rfl, ?_⟩) ?_ ?_; rotate_left; focus (intro w'; go_simp; with_reducible rfl)
  rotate_left; focus (simp only [Act.put, s1, s2, s3, i64_w, i32_w]; rfl)
  refine take_ (i := 1) (N := some 18) (v := ?_) (a' := ?_) #[T, T, T, O, O, O, O, O] rfl rfl (take_ofW HT_.out HW_.out (by kernel_rfl)) (fun _ _ _ h => h) (Or.inl ⟨by rfl, ?_⟩) hHeld ?_ ?_; rotate_left; focus (rintro w' ⟨s0, s1, s2, s3, s4, s5, s6, s7⟩; go_simp; with_reducible rfl)
  rotate_left; focus (simp only [Act.put, s1, s2, s3, i64_w, i32_w]; rfl)
  refine take_ (i := 3) (N := some 20) (v := ?_) (a' := ?_) #[T, T, T, T, O, O, O, O] rfl rfl (take_ofW HT_.out HW_.out (by kernel_rfl)) (fun _ _ _ h => h) (Or.inl ⟨by rfl, ?_⟩) hHeld ?_ ?_; rotate_left; focus (rintro w' ⟨s0, s1, s2, s3, s4, s5, s6, s7⟩; go_simp; with_reducible rfl)
  rotate_left; focus (simp only [Act.put, s1, s2, s3, i64_w, i32_w]; rfl)
  refine join_ (σ := Nat × Nat) 2 #[T, T, T, T, T, T, O, O] (fun s_ => [(7, .pointer (some ⟨s_.1, 0, none⟩)), (8, .pointer (some ⟨s_.2, 0, none⟩))]) (fun s_ w' => (w'.cell? ⟨gb694, 0, none⟩ = some (.int .i64 a0_0) ∧ w'.cell? ⟨gb694, 1, none⟩ = some (.int .u64 a0_1) ∧ w'.cell? ⟨gb694, 2, none⟩ = some (.int .i64 a0_2) ∧ w'.cell? ⟨gb694, 3, none⟩ = some (.int .u64 a0_3) ∧ w'.cell? ⟨gb694, 4, none⟩ = some (.int .i64 a0_4) ∧ w'.cell? ⟨gb694, 5, none⟩ = some (.int .u64 a0_5) ∧ w'.cell? ⟨gb694, 6, none⟩ = some (.int .i64 a0_6) ∧ w'.cell? ⟨gb694, 7, none⟩ = some (.int .u64 a0_7)) ∧ (w'.heap[gb694]? = some (.cells #[.int .i64 a0_0, .int .u64 a0_1, .int .i64 a0_2, .int .u64 a0_3, .int .i64 a0_4, .int .u64 a0_5, .int .i64 a0_6, .int .u64 a0_7] 49 (0, 0))) ∧ (w'.heap[s_.1]? = some (.cells #[.int .i64 0, .int .u64 0, .int .i64 0, .int .u64 0] 26 (0, 0))) ∧ (w'.heap[s_.2]? = some (.cells #[.int .i64 0, .int .u64 0, .int .i64 0, .int .u64 0] 26 (0, 0))) ∧ (w.heap.size ≤ s_.1) ∧ (w.heap.size ≤ s_.1) ∧ (gb694 ≠ s_.1) ∧ (s_.1 ≠ gb694) ∧ (s_.2 ≠ s_.1) ∧ (s_.1 ≠ s_.2) ∧ (w.heap.size ≤ s_.2) ∧ (w.heap.size ≤ s_.2) ∧ (gb694 ≠ s_.2) ∧ (s_.2 ≠ gb694) ∧ (Below w.heap.size w w')) ?_ ?_
  rotate_left
  · intro hCont
    refine two_ (i := 4) (j := 5) (Ni := some 7) (Nj := some 8) #[T, T, T, T, T, O, O, O] #[T, T, T, T, O, T, O, O] rfl rfl rfl rfl (two_of HT_.out (by kernel_rfl)) (by decide) (by decide) (fun K hK => ?_) (fun K hK => ?_)
    · skip
      refine box_step ?hg (N := 7) ?hd (cs := #[.int .i64 0, .int .u64 0, .int .i64 0, .int .u64 0]) (t := 26) ?hr ?_; (case hd => rfl); (case hg => rfl); (case hr => first | (go_simp; done) | (go_simp; rfl))
      intro gb695 hg w7 hbox hb
      have BK695 := Aside0.mk (hbox)
      have GW695 := kS HB hg
      have GE695 := kS HB hg
      have NB694_695 := kN BK694 hg
      have NB695_694 := kM BK694 hg
      replace BK694 := kb BK694 hb
      replace HB := kB HB hb
      clear hb hbox hg
      refine hK.out _ _ ⟨kc BK694 0, kc BK694 1, kc BK694 2, kc BK694 3, kc BK694 4, kc BK694 5, kc BK694 6, kc BK694 7⟩ (fun hHeld => ?_)
      clear hK K
      refine norm_ (a' := ?_) ?_ ?_; rotate_left; focus (show Act.put _ (some 7) _ = _; simp only [Act.put, s1, s2, s3, i64_w, i32_w]; rfl)
      refine one_ (i := 5) (N := some 8) #[T, T, T, T, T, T, O, O] rfl rfl (one_of HT_.out (by kernel_rfl)) (by decide) (fun K hK => ?_)
      refine box_step ?hg (N := 8) ?hd (cs := #[.int .i64 0, .int .u64 0, .int .i64 0, .int .u64 0]) (t := 26) ?hr ?_; (case hd => rfl); (case hg => rfl); (case hr => first | (go_simp; done) | (go_simp; rfl))
      intro gb696 hg w8 hbox hb
      have BK696 := Aside0.mk (hbox)
      have GW696 := kS HB hg
      have GE696 := kS HB hg
      have NB694_696 := kN BK694 hg
      have NB696_694 := kM BK694 hg
      have NB695_696 := kN BK695 hg
      have NB696_695 := kM BK695 hg
      replace BK694 := kb BK694 hb
      replace BK695 := kb BK695 hb
      replace HB := kB HB hb
      clear hb hbox hg
      refine hK.out _ _ ⟨kc BK694 0, kc BK694 1, kc BK694 2, kc BK694 3, kc BK694 4, kc BK694 5, kc BK694 6, kc BK694 7⟩ (fun hHeld => ?_)
      clear hK K
      refine norm_ (a' := ?_) ?_ ?_; rotate_left; focus (show Act.put _ (some 8) _ = _; simp only [Act.put, s1, s2, s3, i64_w, i32_w]; rfl)
      exact norm_ (by simp only [putAll, Act.put, s1, s2, s3]) (hCont (gb695, gb696) _ ⟨hHeld, (kx BK694), (kx BK695), (kx BK696), GW695.out, GE695.out, NB694_695.out, NB695_694.out, NB696_695.out, NB695_696.out, GW696.out, GE696.out, NB694_696.out, NB696_694.out, (ky HB)⟩)
    · skip
      refine box_step ?hg (N := 8) ?hd (cs := #[.int .i64 0, .int .u64 0, .int .i64 0, .int .u64 0]) (t := 26) ?hr ?_; (case hd => rfl); (case hg => rfl); (case hr => first | (go_simp; done) | (go_simp; rfl))
      intro gb696 hg w7 hbox hb
      have BK696 := Aside0.mk (hbox)
      have GW696 := kS HB hg
      have GE696 := kS HB hg
      have NB694_696 := kN BK694 hg
      have NB696_694 := kM BK694 hg
      replace BK694 := kb BK694 hb
      replace HB := kB HB hb
      clear hb hbox hg
      refine hK.out _ _ ⟨kc BK694 0, kc BK694 1, kc BK694 2, kc BK694 3, kc BK694 4, kc BK694 5, kc BK694 6, kc BK694 7⟩ (fun hHeld => ?_)
      clear hK K
      refine norm_ (a' := ?_) ?_ ?_; rotate_left; focus (show Act.put _ (some 8) _ = _; simp only [Act.put, s1, s2, s3, i64_w, i32_w]; rfl)
      refine one_ (i := 4) (N := some 7) #[T, T, T, T, T, T, O, O] rfl rfl (one_of HT_.out (by kernel_rfl)) (by decide) (fun K hK => ?_)
      refine box_step ?hg (N := 7) ?hd (cs := #[.int .i64 0, .int .u64 0, .int .i64 0, .int .u64 0]) (t := 26) ?hr ?_; (case hd => rfl); (case hg => rfl); (case hr => first | (go_simp; done) | (go_simp; rfl))
      intro gb695 hg w8 hbox hb
      have BK695 := Aside0.mk (hbox)
      have GW695 := kS HB hg
      have GE695 := kS HB hg
      have NB694_695 := kN BK694 hg
      have NB695_694 := kM BK694 hg
      have NB696_695 := kN BK696 hg
      have NB695_696 := kM BK696 hg
      replace BK694 := kb BK694 hb
      replace BK696 := kb BK696 hb
      replace HB := kB HB hb
      clear hb hbox hg
      refine hK.out _ _ ⟨kc BK694 0, kc BK694 1, kc BK694 2, kc BK694 3, kc BK694 4, kc BK694 5, kc BK694 6, kc BK694 7⟩ (fun hHeld => ?_)
      clear hK K
      refine norm_ (a' := ?_) ?_ ?_; rotate_left; focus (show Act.put _ (some 7) _ = _; simp only [Act.put, s1, s2, s3, i64_w, i32_w]; rfl)
      exact norm_ (by simp only [putAll, Act.put, s1, s2, s3]) (hCont (gb695, gb696) _ ⟨hHeld, (kx BK694), (kx BK695), (kx BK696), GW695.out, GE695.out, NB694_695.out, NB695_694.out, NB696_695.out, NB695_696.out, GW696.out, GE696.out, NB694_696.out, NB696_694.out, (ky HB)⟩)
  rintro ⟨gb695, gb696⟩ w9 ⟨hS_, h0_, h1_, h2_, h3_, h4_, h5_, h6_, h7_, h8_, h9_, h10_, h11_, h12_, h13_⟩
  clear BK694 HB
  have BK694 := A0 h0_; have BK695 := A0 h1_; have BK696 := A0 h2_; have GW695 := A0 h3_; have GE695 := A0 h4_; have NB694_695 := A0 h5_; have NB695_694 := A0 h6_; have NB696_695 := A0 h7_; have NB695_696 := A0 h8_; have GW696 := A0 h9_; have GE696 := A0 h10_; have NB694_696 := A0 h11_; have NB696_694 := A0 h12_; have HB := A0 h13_
  clear h0_ h1_ h2_ h3_ h4_ h5_ h6_ h7_ h8_ h9_ h10_ h11_ h12_ h13_
  have hHeld := hS_
  refine norm_ (a' := ?_) ?_ ?_; rotate_left; focus (simp only [putAll, Act.put, s1, s2, s3]; rfl)
  refine one_ (i := 6) (N := none) #[T, T, T, T, T, T, T, O] rfl rfl (one_of HT_.out (by kernel_rfl)) (by decide) (fun K hK => ?_)
  have hs10 : w9.cell? ⟨gb695, 0, none⟩ = some (.int .i64 0) := kc BK695 0
  have hfs10 := blk_frozen BK695.out 0
  have hns10_0 := NB694_695.out; have hns10_2 := NB696_695.out; have hms10_0 := NB695_694.out; have hms10_2 := NB695_696.out
  have hs11 : w9.cell? ⟨gb695, 1, none⟩ = some (.int .u64 0) := kc BK695 1
  have hfs11 := blk_frozen BK695.out 1
  have hns11_0 := NB694_695.out; have hns11_2 := NB696_695.out; have hms11_0 := NB695_694.out; have hms11_2 := NB695_696.out
  have hs12 : w9.cell? ⟨gb695, 2, none⟩ = some (.int .i64 0) := kc BK695 2
  have hfs12 := blk_frozen BK695.out 2
  have hns12_0 := NB694_695.out; have hns12_2 := NB696_695.out; have hms12_0 := NB695_694.out; have hms12_2 := NB695_696.out
  have hs13 : w9.cell? ⟨gb695, 3, none⟩ = some (.int .u64 0) := kc BK695 3
  have hfs13 := blk_frozen BK695.out 3
  have hns13_0 := NB694_695.out; have hns13_2 := NB696_695.out; have hms13_0 := NB695_694.out; have hms13_2 := NB695_696.out
  refine skip_ (w1 := ?_) (by rfl) rfl ?_ ?_
  rotate_left
  · go_simp
    rfl
  refine hK.out _ _ ⟨((cell_far (p := ⟨gb695, _, none⟩) NB694_695.out _).trans (((cell_far (p := ⟨gb695, _, none⟩) NB694_695.out _).trans (((cell_far (p := ⟨gb695, _, none⟩) NB694_695.out _).trans (((cell_far (p := ⟨gb695, _, none⟩) NB694_695.out _).trans (hHeld.1)))))))), ((cell_far (p := ⟨gb695, _, none⟩) NB694_695.out _).trans (((cell_far (p := ⟨gb695, _, none⟩) NB694_695.out _).trans (((cell_far (p := ⟨gb695, _, none⟩) NB694_695.out _).trans (((cell_far (p := ⟨gb695, _, none⟩) NB694_695.out _).trans (hHeld.2.1)))))))), ((cell_far (p := ⟨gb695, _, none⟩) NB694_695.out _).trans (((cell_far (p := ⟨gb695, _, none⟩) NB694_695.out _).trans (((cell_far (p := ⟨gb695, _, none⟩) NB694_695.out _).trans (((cell_far (p := ⟨gb695, _, none⟩) NB694_695.out _).trans (hHeld.2.2.1)))))))), ((cell_far (p := ⟨gb695, _, none⟩) NB694_695.out _).trans (((cell_far (p := ⟨gb695, _, none⟩) NB694_695.out _).trans (((cell_far (p := ⟨gb695, _, none⟩) NB694_695.out _).trans (((cell_far (p := ⟨gb695, _, none⟩) NB694_695.out _).trans (hHeld.2.2.2.1)))))))), ((cell_far (p := ⟨gb695, _, none⟩) NB694_695.out _).trans (((cell_far (p := ⟨gb695, _, none⟩) NB694_695.out _).trans (((cell_far (p := ⟨gb695, _, none⟩) NB694_695.out _).trans (((cell_far (p := ⟨gb695, _, none⟩) NB694_695.out _).trans (hHeld.2.2.2.2.1)))))))), ((cell_far (p := ⟨gb695, _, none⟩) NB694_695.out _).trans (((cell_far (p := ⟨gb695, _, none⟩) NB694_695.out _).trans (((cell_far (p := ⟨gb695, _, none⟩) NB694_695.out _).trans (((cell_far (p := ⟨gb695, _, none⟩) NB694_695.out _).trans (hHeld.2.2.2.2.2.1)))))))), ((cell_far (p := ⟨gb695, _, none⟩) NB694_695.out _).trans (((cell_far (p := ⟨gb695, _, none⟩) NB694_695.out _).trans (((cell_far (p := ⟨gb695, _, none⟩) NB694_695.out _).trans (((cell_far (p := ⟨gb695, _, none⟩) NB694_695.out _).trans (hHeld.2.2.2.2.2.2.1)))))))), ((cell_far (p := ⟨gb695, _, none⟩) NB694_695.out _).trans (((cell_far (p := ⟨gb695, _, none⟩) NB694_695.out _).trans (((cell_far (p := ⟨gb695, _, none⟩) NB694_695.out _).trans (((cell_far (p := ⟨gb695, _, none⟩) NB694_695.out _).trans (hHeld.2.2.2.2.2.2.2))))))))⟩ (fun hHeld => ?_)
  clear hK K
  refine one_ (i := 7) (N := none) #[T, T, T, T, T, T, T, T] rfl rfl (one_of HT_.out (by kernel_rfl)) (by decide) (fun K hK => ?_)
  have hs14 : w9.cell? ⟨gb696, 0, none⟩ = some (.int .i64 0) := kc BK696 0
  have hfs14 := blk_frozen BK696.out 0
  have hns14_0 := NB694_696.out; have hns14_1 := NB695_696.out; have hms14_0 := NB696_694.out; have hms14_1 := NB696_695.out
  have hs15 : w9.cell? ⟨gb696, 1, none⟩ = some (.int .u64 0) := kc BK696 1
  have hfs15 := blk_frozen BK696.out 1
  have hns15_0 := NB694_696.out; have hns15_1 := NB695_696.out; have hms15_0 := NB696_694.out; have hms15_1 := NB696_695.out
  have hs16 : w9.cell? ⟨gb696, 2, none⟩ = some (.int .i64 0) := kc BK696 2
  have hfs16 := blk_frozen BK696.out 2
  have hns16_0 := NB694_696.out; have hns16_1 := NB695_696.out; have hms16_0 := NB696_694.out; have hms16_1 := NB696_695.out
  have hs17 : w9.cell? ⟨gb696, 3, none⟩ = some (.int .u64 0) := kc BK696 3
  have hfs17 := blk_frozen BK696.out 3
  have hns17_0 := NB694_696.out; have hns17_1 := NB695_696.out; have hms17_0 := NB696_694.out; have hms17_1 := NB696_695.out
  refine skip_ (w1 := ?_) (by rfl) rfl ?_ ?_
  rotate_left
  · go_simp
    rfl
  refine hK.out _ _ ⟨((cell_far (p := ⟨gb696, _, none⟩) NB694_696.out _).trans (((cell_far (p := ⟨gb696, _, none⟩) NB694_696.out _).trans (((cell_far (p := ⟨gb696, _, none⟩) NB694_696.out _).trans (((cell_far (p := ⟨gb696, _, none⟩) NB694_696.out _).trans (hHeld.1)))))))), ((cell_far (p := ⟨gb696, _, none⟩) NB694_696.out _).trans (((cell_far (p := ⟨gb696, _, none⟩) NB694_696.out _).trans (((cell_far (p := ⟨gb696, _, none⟩) NB694_696.out _).trans (((cell_far (p := ⟨gb696, _, none⟩) NB694_696.out _).trans (hHeld.2.1)))))))), ((cell_far (p := ⟨gb696, _, none⟩) NB694_696.out _).trans (((cell_far (p := ⟨gb696, _, none⟩) NB694_696.out _).trans (((cell_far (p := ⟨gb696, _, none⟩) NB694_696.out _).trans (((cell_far (p := ⟨gb696, _, none⟩) NB694_696.out _).trans (hHeld.2.2.1)))))))), ((cell_far (p := ⟨gb696, _, none⟩) NB694_696.out _).trans (((cell_far (p := ⟨gb696, _, none⟩) NB694_696.out _).trans (((cell_far (p := ⟨gb696, _, none⟩) NB694_696.out _).trans (((cell_far (p := ⟨gb696, _, none⟩) NB694_696.out _).trans (hHeld.2.2.2.1)))))))), ((cell_far (p := ⟨gb696, _, none⟩) NB694_696.out _).trans (((cell_far (p := ⟨gb696, _, none⟩) NB694_696.out _).trans (((cell_far (p := ⟨gb696, _, none⟩) NB694_696.out _).trans (((cell_far (p := ⟨gb696, _, none⟩) NB694_696.out _).trans (hHeld.2.2.2.2.1)))))))), ((cell_far (p := ⟨gb696, _, none⟩) NB694_696.out _).trans (((cell_far (p := ⟨gb696, _, none⟩) NB694_696.out _).trans (((cell_far (p := ⟨gb696, _, none⟩) NB694_696.out _).trans (((cell_far (p := ⟨gb696, _, none⟩) NB694_696.out _).trans (hHeld.2.2.2.2.2.1)))))))), ((cell_far (p := ⟨gb696, _, none⟩) NB694_696.out _).trans (((cell_far (p := ⟨gb696, _, none⟩) NB694_696.out _).trans (((cell_far (p := ⟨gb696, _, none⟩) NB694_696.out _).trans (((cell_far (p := ⟨gb696, _, none⟩) NB694_696.out _).trans (hHeld.2.2.2.2.2.2.1)))))))), ((cell_far (p := ⟨gb696, _, none⟩) NB694_696.out _).trans (((cell_far (p := ⟨gb696, _, none⟩) NB694_696.out _).trans (((cell_far (p := ⟨gb696, _, none⟩) NB694_696.out _).trans (((cell_far (p := ⟨gb696, _, none⟩) NB694_696.out _).trans (hHeld.2.2.2.2.2.2.2))))))))⟩ (fun hHeld => ?_)
  clear hK K
  refine done_ (done_of HT_.out (by kernel_rfl)) ?_
  go_upto_region 2 with (fail)
  go_cut [26] (fun v26 wc => ∃ (kq : Nat) (x26_3 : Bool), v26 = .bool x26_3 ∧ Aside0 (cobweblaw02_FracRises.j0 kq a1 a2 x26_3 a0_0 a0_1 a0_2 a0_3 a0_4 a0_5 a0_6 a0_7 = some r) ∧ Aside0 (kq ≤ k) ∧ Aside0 (wc.heap[gb694]? = some (.cells #[.int .i64 a0_0, .int .u64 a0_1, .int .i64 a0_2, .int .u64 a0_3, .int .i64 a0_4, .int .u64 a0_5, .int .i64 a0_6, .int .u64 a0_7] 49 (0, 0))) ∧ Aside0 (wc.heap[gb695]? = some (.cells #[.int .i64 a0_0, .int .u64 a0_1, .int .i64 a0_2, .int .u64 a0_3] 26 (0, 0))) ∧ Aside0 (wc.heap[gb696]? = some (.cells #[.int .i64 a0_4, .int .u64 a0_5, .int .i64 a0_6, .int .u64 a0_7] 26 (0, 0))) ∧ Aside0 (Below w.heap.size w wc))
  case first =>
    have H := HC4.out; clear HC4
    by_cases c18 : a2 < 0
    · rw [if_pos c18] at H
      have c18b0 : decide (a2 < 0) = true := decide_eq_true c18
      clear c18
      (first | rw [c18b0] | (simp only [i64_w, i32_w]; rw [c18b0]) | skip)
      have H' := Aside0.mk H
      clear H
      go_wp2
      go_meet
      case rel => exact ⟨_, (true), (by first | rfl | (simp; done) | (simp [*]; done)), H', ⟨by first | omega | exact Nat.le_refl _⟩, ⟨kx BK694⟩, ⟨by (with_reducible repeat (first | refine blk_drewN ?_ _ | refine blk_drew ?_ | refine blk_alloc ?_ _)); refine blk_far ?_ NB695_696.out _; (with_reducible repeat (first | refine blk_drewN ?_ _ | refine blk_drew ?_ | refine blk_alloc ?_ _)); refine blk_far ?_ NB695_696.out _; (with_reducible repeat (first | refine blk_drewN ?_ _ | refine blk_drew ?_ | refine blk_alloc ?_ _)); refine blk_far ?_ NB695_696.out _; (with_reducible repeat (first | refine blk_drewN ?_ _ | refine blk_drew ?_ | refine blk_alloc ?_ _)); refine blk_far ?_ NB695_696.out _; (with_reducible repeat (first | refine blk_drewN ?_ _ | refine blk_drew ?_ | refine blk_alloc ?_ _)); refine blk_put (cs := #[.int .i64 a0_0, .int .u64 a0_1, .int .i64 a0_2, .int .u64 0]) ?_ 3 _ rfl; (with_reducible repeat (first | refine blk_drewN ?_ _ | refine blk_drew ?_ | refine blk_alloc ?_ _)); refine blk_put (cs := #[.int .i64 a0_0, .int .u64 a0_1, .int .i64 0, .int .u64 0]) ?_ 2 _ rfl; (with_reducible repeat (first | refine blk_drewN ?_ _ | refine blk_drew ?_ | refine blk_alloc ?_ _)); refine blk_put (cs := #[.int .i64 a0_0, .int .u64 0, .int .i64 0, .int .u64 0]) ?_ 1 _ rfl; (with_reducible repeat (first | refine blk_drewN ?_ _ | refine blk_drew ?_ | refine blk_alloc ?_ _)); refine blk_put (cs := #[.int .i64 0, .int .u64 0, .int .i64 0, .int .u64 0]) ?_ 0 _ rfl; (with_reducible repeat (first | refine blk_drewN ?_ _ | refine blk_drew ?_ | refine blk_alloc ?_ _)); exact BK695.out⟩, ⟨by (with_reducible repeat (first | refine blk_drewN ?_ _ | refine blk_drew ?_ | refine blk_alloc ?_ _)); refine blk_put (cs := #[.int .i64 a0_4, .int .u64 a0_5, .int .i64 a0_6, .int .u64 0]) ?_ 3 _ rfl; (with_reducible repeat (first | refine blk_drewN ?_ _ | refine blk_drew ?_ | refine blk_alloc ?_ _)); refine blk_put (cs := #[.int .i64 a0_4, .int .u64 a0_5, .int .i64 0, .int .u64 0]) ?_ 2 _ rfl; (with_reducible repeat (first | refine blk_drewN ?_ _ | refine blk_drew ?_ | refine blk_alloc ?_ _)); refine blk_put (cs := #[.int .i64 a0_4, .int .u64 0, .int .i64 0, .int .u64 0]) ?_ 1 _ rfl; (with_reducible repeat (first | refine blk_drewN ?_ _ | refine blk_drew ?_ | refine blk_alloc ?_ _)); refine blk_put (cs := #[.int .i64 0, .int .u64 0, .int .i64 0, .int .u64 0]) ?_ 0 _ rfl; (with_reducible repeat (first | refine blk_drewN ?_ _ | refine blk_drew ?_ | refine blk_alloc ?_ _)); refine blk_far ?_ NB696_695.out _; (with_reducible repeat (first | refine blk_drewN ?_ _ | refine blk_drew ?_ | refine blk_alloc ?_ _)); refine blk_far ?_ NB696_695.out _; (with_reducible repeat (first | refine blk_drewN ?_ _ | refine blk_drew ?_ | refine blk_alloc ?_ _)); refine blk_far ?_ NB696_695.out _; (with_reducible repeat (first | refine blk_drewN ?_ _ | refine blk_drew ?_ | refine blk_alloc ?_ _)); refine blk_far ?_ NB696_695.out _; (with_reducible repeat (first | refine blk_drewN ?_ _ | refine blk_drew ?_ | refine blk_alloc ?_ _)); exact BK696.out⟩, ⟨ky HB⟩⟩
    rw [if_neg c18] at H
    have c18b0 : decide (a2 < 0) = false := decide_eq_false c18
    clear c18
    (first | rw [c18b0] | (simp only [i64_w, i32_w]; rw [c18b0]) | skip)
    have H' := Aside0.mk H
    clear H
    go_wp2
    go_meet
    case rel => exact ⟨_, (decide (a2 > 90)), (by first | rfl | (simp; done) | (simp [*]; done)), H', ⟨by first | omega | exact Nat.le_refl _⟩, ⟨kx BK694⟩, ⟨by (with_reducible repeat (first | refine blk_drewN ?_ _ | refine blk_drew ?_ | refine blk_alloc ?_ _)); refine blk_far ?_ NB695_696.out _; (with_reducible repeat (first | refine blk_drewN ?_ _ | refine blk_drew ?_ | refine blk_alloc ?_ _)); refine blk_far ?_ NB695_696.out _; (with_reducible repeat (first | refine blk_drewN ?_ _ | refine blk_drew ?_ | refine blk_alloc ?_ _)); refine blk_far ?_ NB695_696.out _; (with_reducible repeat (first | refine blk_drewN ?_ _ | refine blk_drew ?_ | refine blk_alloc ?_ _)); refine blk_far ?_ NB695_696.out _; (with_reducible repeat (first | refine blk_drewN ?_ _ | refine blk_drew ?_ | refine blk_alloc ?_ _)); refine blk_put (cs := #[.int .i64 a0_0, .int .u64 a0_1, .int .i64 a0_2, .int .u64 0]) ?_ 3 _ rfl; (with_reducible repeat (first | refine blk_drewN ?_ _ | refine blk_drew ?_ | refine blk_alloc ?_ _)); refine blk_put (cs := #[.int .i64 a0_0, .int .u64 a0_1, .int .i64 0, .int .u64 0]) ?_ 2 _ rfl; (with_reducible repeat (first | refine blk_drewN ?_ _ | refine blk_drew ?_ | refine blk_alloc ?_ _)); refine blk_put (cs := #[.int .i64 a0_0, .int .u64 0, .int .i64 0, .int .u64 0]) ?_ 1 _ rfl; (with_reducible repeat (first | refine blk_drewN ?_ _ | refine blk_drew ?_ | refine blk_alloc ?_ _)); refine blk_put (cs := #[.int .i64 0, .int .u64 0, .int .i64 0, .int .u64 0]) ?_ 0 _ rfl; (with_reducible repeat (first | refine blk_drewN ?_ _ | refine blk_drew ?_ | refine blk_alloc ?_ _)); exact BK695.out⟩, ⟨by (with_reducible repeat (first | refine blk_drewN ?_ _ | refine blk_drew ?_ | refine blk_alloc ?_ _)); refine blk_put (cs := #[.int .i64 a0_4, .int .u64 a0_5, .int .i64 a0_6, .int .u64 0]) ?_ 3 _ rfl; (with_reducible repeat (first | refine blk_drewN ?_ _ | refine blk_drew ?_ | refine blk_alloc ?_ _)); refine blk_put (cs := #[.int .i64 a0_4, .int .u64 a0_5, .int .i64 0, .int .u64 0]) ?_ 2 _ rfl; (with_reducible repeat (first | refine blk_drewN ?_ _ | refine blk_drew ?_ | refine blk_alloc ?_ _)); refine blk_put (cs := #[.int .i64 a0_4, .int .u64 0, .int .i64 0, .int .u64 0]) ?_ 1 _ rfl; (with_reducible repeat (first | refine blk_drewN ?_ _ | refine blk_drew ?_ | refine blk_alloc ?_ _)); refine blk_put (cs := #[.int .i64 0, .int .u64 0, .int .i64 0, .int .u64 0]) ?_ 0 _ rfl; (with_reducible repeat (first | refine blk_drewN ?_ _ | refine blk_drew ?_ | refine blk_alloc ?_ _)); refine blk_far ?_ NB696_695.out _; (with_reducible repeat (first | refine blk_drewN ?_ _ | refine blk_drew ?_ | refine blk_alloc ?_ _)); refine blk_far ?_ NB696_695.out _; (with_reducible repeat (first | refine blk_drewN ?_ _ | refine blk_drew ?_ | refine blk_alloc ?_ _)); refine blk_far ?_ NB696_695.out _; (with_reducible repeat (first | refine blk_drewN ?_ _ | refine blk_drew ?_ | refine blk_alloc ?_ _)); refine blk_far ?_ NB696_695.out _; (with_reducible repeat (first | refine blk_drewN ?_ _ | refine blk_drew ?_ | refine blk_alloc ?_ _)); exact BK696.out⟩, ⟨ky HB⟩⟩
  case rest =>
    clear HC4; try clear c1; try clear p2; try clear c6; try clear c18; try clear c18b0
    obtain ⟨kq, x26_3, rfl, HA, HJ3, BK694, BK695, BK696, HB⟩ := hcut
    cases kq with
    | zero => exact absurd HA.out (by simp [cobweblaw02_FracRises.j0])
    | succ kj3 =>
      have H := HA.out; clear HA
      simp only [cobweblaw02_FracRises.j0] at H
      by_cases c19 : x26_3 = true
      · subst c19
        have H1 : ((cobweblaw02_alive.f kj3).bind fun t697 => (some t697)) = some r := by rw [if_pos rfl] at H; exact H
        clear H; have H := H1; clear H1
        replace H := Option.bind_eq_some_iff.mp H
        obtain ⟨t697, A200, H⟩ := H
        replace H : (some t697) = some r := H
        have A20 := Aside0.mk A200
        clear A200
        obtain rfl := Option.some.inj H
        go_wp2_with (first | ((with_reducible refine gate_callee (f := 16) rfl ?_); refine goesL_ (some 27) rfl rfl Try.func16 (by kernel_rfl) rfl #[] rfl (by (try simp only [List.map_toArray, List.map_cons, List.map_nil]); first | done | rfl | (simp only [List.length_drop, List.length_take]; rfl)) ?_; (with_reducible refine (cobweblaw02_alive.calls kj3  t697 _ A20.out).mono ?_); rintro e w21 ⟨rfl, hb⟩; refine ⟨_, rfl, ?_⟩; replace BK694 := kb BK694 hb; replace BK695 := kb BK695 hb; replace BK696 := kb BK696 hb; replace HB := kB HB hb; (try clear hb); (try clear hb2); (try clear hk); (try clear hi)))
        go_ret
        exact ⟨by first | rfl | (simp [errW_none, errW_some] <;> rfl) | (simp [*, errW_none, errW_some] <;> rfl), ky HB⟩
      replace c19 := Bool.eq_false_iff.mpr c19
      subst c19
      have H1 : ((frac_Snap.f kj3 a0_0 a0_1 a0_2 a0_3 a2).bind fun bt698 => ((frac_Snap.f kj3 a0_4 a0_5 a0_6 a0_7 a2).bind fun bt702 => ((wide_Of.f (wrap64 (a1))).bind fun bt706 => ((wide_Shl.f kj3 bt706.1 bt706.2 a2).bind fun bt708 => ((wide_Of.f 1).bind fun bt712 => ((frac_Snap.f kj3 bt708.1 bt708.2.1 bt712.1 bt712.2 a2).bind fun bt714 => (if bt708.2.2 = true then (if bt714.2.2 = true then ((wide_Of.f (wrap64 (a1))).bind fun bt718 => (cobweblaw02_FracRises.j1 kj3 bt698.2.2 bt702.2.2 (!(bt714.1 == bt718.1) || (!(bt714.2.1 == bt718.2))) a0_0 a0_1 a0_2 a0_3 a0_4 a0_5 a0_6 a0_7 bt698.1 bt698.2.1 bt702.1 bt702.2.1)) else (cobweblaw02_FracRises.j1 kj3 bt698.2.2 bt702.2.2 true a0_0 a0_1 a0_2 a0_3 a0_4 a0_5 a0_6 a0_7 bt698.1 bt698.2.1 bt702.1 bt702.2.1)) else (cobweblaw02_FracRises.j1 kj3 bt698.2.2 bt702.2.2 true a0_0 a0_1 a0_2 a0_3 a0_4 a0_5 a0_6 a0_7 bt698.1 bt698.2.1 bt702.1 bt702.2.1)))))))) = some r := by rw [if_neg (show ¬ (false = true) by decide)] at H; exact H
      clear H; have H := H1; clear H1
      replace H := Option.bind_eq_some_iff.mp H
      obtain ⟨⟨t698, t699, t700⟩, A220, H⟩ := H
      replace H : ((frac_Snap.f kj3 a0_4 a0_5 a0_6 a0_7 a2).bind fun bt702 => ((wide_Of.f (wrap64 (a1))).bind fun bt706 => ((wide_Shl.f kj3 bt706.1 bt706.2 a2).bind fun bt708 => ((wide_Of.f 1).bind fun bt712 => ((frac_Snap.f kj3 bt708.1 bt708.2.1 bt712.1 bt712.2 a2).bind fun bt714 => (if bt708.2.2 = true then (if bt714.2.2 = true then ((wide_Of.f (wrap64 (a1))).bind fun bt718 => (cobweblaw02_FracRises.j1 kj3 t700 bt702.2.2 (!(bt714.1 == bt718.1) || (!(bt714.2.1 == bt718.2))) a0_0 a0_1 a0_2 a0_3 a0_4 a0_5 a0_6 a0_7 t698 t699 bt702.1 bt702.2.1)) else (cobweblaw02_FracRises.j1 kj3 t700 bt702.2.2 true a0_0 a0_1 a0_2 a0_3 a0_4 a0_5 a0_6 a0_7 t698 t699 bt702.1 bt702.2.1)) else (cobweblaw02_FracRises.j1 kj3 t700 bt702.2.2 true a0_0 a0_1 a0_2 a0_3 a0_4 a0_5 a0_6 a0_7 t698 t699 bt702.1 bt702.2.1))))))) = some r := H
      have A22 := Aside0.mk A220
      clear A220
      replace H := Option.bind_eq_some_iff.mp H
      obtain ⟨⟨t702, t703, t704⟩, A230, H⟩ := H
      replace H : ((wide_Of.f (wrap64 (a1))).bind fun bt706 => ((wide_Shl.f kj3 bt706.1 bt706.2 a2).bind fun bt708 => ((wide_Of.f 1).bind fun bt712 => ((frac_Snap.f kj3 bt708.1 bt708.2.1 bt712.1 bt712.2 a2).bind fun bt714 => (if bt708.2.2 = true then (if bt714.2.2 = true then ((wide_Of.f (wrap64 (a1))).bind fun bt718 => (cobweblaw02_FracRises.j1 kj3 t700 t704 (!(bt714.1 == bt718.1) || (!(bt714.2.1 == bt718.2))) a0_0 a0_1 a0_2 a0_3 a0_4 a0_5 a0_6 a0_7 t698 t699 t702 t703)) else (cobweblaw02_FracRises.j1 kj3 t700 t704 true a0_0 a0_1 a0_2 a0_3 a0_4 a0_5 a0_6 a0_7 t698 t699 t702 t703)) else (cobweblaw02_FracRises.j1 kj3 t700 t704 true a0_0 a0_1 a0_2 a0_3 a0_4 a0_5 a0_6 a0_7 t698 t699 t702 t703)))))) = some r := H
      have A23 := Aside0.mk A230
      clear A230
      replace H := Option.bind_eq_some_iff.mp H
      obtain ⟨⟨t706, t707⟩, A240, H⟩ := H
      replace H : ((wide_Shl.f kj3 t706 t707 a2).bind fun bt708 => ((wide_Of.f 1).bind fun bt712 => ((frac_Snap.f kj3 bt708.1 bt708.2.1 bt712.1 bt712.2 a2).bind fun bt714 => (if bt708.2.2 = true then (if bt714.2.2 = true then ((wide_Of.f (wrap64 (a1))).bind fun bt718 => (cobweblaw02_FracRises.j1 kj3 t700 t704 (!(bt714.1 == bt718.1) || (!(bt714.2.1 == bt718.2))) a0_0 a0_1 a0_2 a0_3 a0_4 a0_5 a0_6 a0_7 t698 t699 t702 t703)) else (cobweblaw02_FracRises.j1 kj3 t700 t704 true a0_0 a0_1 a0_2 a0_3 a0_4 a0_5 a0_6 a0_7 t698 t699 t702 t703)) else (cobweblaw02_FracRises.j1 kj3 t700 t704 true a0_0 a0_1 a0_2 a0_3 a0_4 a0_5 a0_6 a0_7 t698 t699 t702 t703))))) = some r := H
      have A24 := Aside0.mk A240
      clear A240
      replace H := Option.bind_eq_some_iff.mp H
      obtain ⟨⟨t708, t709, t710⟩, A250, H⟩ := H
      replace H : ((wide_Of.f 1).bind fun bt712 => ((frac_Snap.f kj3 t708 t709 bt712.1 bt712.2 a2).bind fun bt714 => (if t710 = true then (if bt714.2.2 = true then ((wide_Of.f (wrap64 (a1))).bind fun bt718 => (cobweblaw02_FracRises.j1 kj3 t700 t704 (!(bt714.1 == bt718.1) || (!(bt714.2.1 == bt718.2))) a0_0 a0_1 a0_2 a0_3 a0_4 a0_5 a0_6 a0_7 t698 t699 t702 t703)) else (cobweblaw02_FracRises.j1 kj3 t700 t704 true a0_0 a0_1 a0_2 a0_3 a0_4 a0_5 a0_6 a0_7 t698 t699 t702 t703)) else (cobweblaw02_FracRises.j1 kj3 t700 t704 true a0_0 a0_1 a0_2 a0_3 a0_4 a0_5 a0_6 a0_7 t698 t699 t702 t703)))) = some r := H
      have A25 := Aside0.mk A250
      clear A250
      replace H := Option.bind_eq_some_iff.mp H
      obtain ⟨⟨t712, t713⟩, A260, H⟩ := H
      replace H : ((frac_Snap.f kj3 t708 t709 t712 t713 a2).bind fun bt714 => (if t710 = true then (if bt714.2.2 = true then ((wide_Of.f (wrap64 (a1))).bind fun bt718 => (cobweblaw02_FracRises.j1 kj3 t700 t704 (!(bt714.1 == bt718.1) || (!(bt714.2.1 == bt718.2))) a0_0 a0_1 a0_2 a0_3 a0_4 a0_5 a0_6 a0_7 t698 t699 t702 t703)) else (cobweblaw02_FracRises.j1 kj3 t700 t704 true a0_0 a0_1 a0_2 a0_3 a0_4 a0_5 a0_6 a0_7 t698 t699 t702 t703)) else (cobweblaw02_FracRises.j1 kj3 t700 t704 true a0_0 a0_1 a0_2 a0_3 a0_4 a0_5 a0_6 a0_7 t698 t699 t702 t703))) = some r := H
      have A26 := Aside0.mk A260
      clear A260
      replace H := Option.bind_eq_some_iff.mp H
      obtain ⟨⟨t714, t715, t716⟩, A270, H⟩ := H
      replace H : (if t710 = true then (if t716 = true then ((wide_Of.f (wrap64 (a1))).bind fun bt718 => (cobweblaw02_FracRises.j1 kj3 t700 t704 (!(t714 == bt718.1) || (!(t715 == bt718.2))) a0_0 a0_1 a0_2 a0_3 a0_4 a0_5 a0_6 a0_7 t698 t699 t702 t703)) else (cobweblaw02_FracRises.j1 kj3 t700 t704 true a0_0 a0_1 a0_2 a0_3 a0_4 a0_5 a0_6 a0_7 t698 t699 t702 t703)) else (cobweblaw02_FracRises.j1 kj3 t700 t704 true a0_0 a0_1 a0_2 a0_3 a0_4 a0_5 a0_6 a0_7 t698 t699 t702 t703)) = some r := H
      have A27 := Aside0.mk A270
      clear A270
      have HC28 := Aside0.mk H
      clear H; have hnb29 := NB695_694.out; have hnc29 := NB694_695.out; have hnb30 := NB695_696.out; have hnc30 := NB696_695.out
      have hcz31_0 : wc.cell? ⟨gb695, 0, none⟩ = some (.int .i64 a0_0) := kc BK695 0
      have hcz31_1 : wc.cell? ⟨gb695, 1, none⟩ = some (.int .u64 a0_1) := kc BK695 1
      have hcz31_2 : wc.cell? ⟨gb695, 2, none⟩ = some (.int .i64 a0_2) := kc BK695 2
      have hcz31_3 : wc.cell? ⟨gb695, 3, none⟩ = some (.int .u64 a0_3) := kc BK695 3
      have hfz31_0 := blk_frozen BK695.out 0
      have hfz31_1 := blk_frozen BK695.out 1
      have hfz31_2 := blk_frozen BK695.out 2
      have hfz31_3 := blk_frozen BK695.out 3
      try go_wp2_with (first | ((with_reducible refine gate_callee (f := 26) rfl ?_); refine goesL_ (some 31) rfl rfl Try.func26 (by kernel_rfl) rfl #[.agg #[.int .i64 a0_0, .int .u64 a0_1, .int .i64 a0_2, .int .u64 a0_3], .int .i64 a2] rfl (by (try simp only [List.map_toArray, List.map_cons, List.map_nil]); first | done | rfl | (simp only [List.length_drop, List.length_take]; rfl)) ?_; (with_reducible refine (frac_Snap.calls kj3 a0_0 a0_1 a0_2 a0_3 a2 t698 t699 t700 _ A22.out).mono ?_); rintro e w32 ⟨rfl, hb⟩; refine ⟨_, rfl, ?_⟩; replace BK694 := kb BK694 hb; replace BK695 := kb BK695 hb; replace BK696 := kb BK696 hb; replace HB := kB HB hb; (try clear hb); (try clear hb2); (try clear hk); (try clear hi)) | ((with_reducible refine gate_dst (N := 9) rfl ?_); refine box_event ?hg (N := 9) ?hd (cs := #[.int .i64 0, .int .u64 0]) (t := 24) ?hr ?_; (case hd => rfl); (case hg => rfl); (case hr => first | (go_simp; done) | (go_simp; rfl)); intro gb701 hg w33 hbox hb; have BK701 := Aside0.mk (hbox); have GW701 := kS HB hg; have GE701 := kS HB hg; have NB694_701 := kN BK694 hg; have NB701_694 := kM BK694 hg; have NB695_701 := kN BK695 hg; have NB701_695 := kM BK695 hg; have NB696_701 := kN BK696 hg; have NB701_696 := kM BK696 hg; replace BK694 := kb BK694 hb; replace BK695 := kb BK695 hb; replace BK696 := kb BK696 hb; replace HB := kB HB hb; clear hb hbox hg; have hnb34 := NB701_694.out; have hnc34 := NB694_701.out; have hnb35 := NB701_695.out; have hnc35 := NB695_701.out; have hnb36 := NB701_696.out; have hnc36 := NB696_701.out; have hcz37_0 : w33.cell? ⟨gb701, 0, none⟩ = some (.int .i64 0) := kc BK701 0; have hcz37_1 : w33.cell? ⟨gb701, 1, none⟩ = some (.int .u64 0) := kc BK701 1; have hfz37_0 := blk_frozen BK701.out 0; have hfz37_1 := blk_frozen BK701.out 1; have hnb38 := NB696_694.out; have hnc38 := NB694_696.out; have hcz39_0 : w33.cell? ⟨gb696, 0, none⟩ = some (.int .i64 a0_4) := kc BK696 0; have hcz39_1 : w33.cell? ⟨gb696, 1, none⟩ = some (.int .u64 a0_5) := kc BK696 1; have hcz39_2 : w33.cell? ⟨gb696, 2, none⟩ = some (.int .i64 a0_6) := kc BK696 2; have hcz39_3 : w33.cell? ⟨gb696, 3, none⟩ = some (.int .u64 a0_7) := kc BK696 3; have hfz39_0 := blk_frozen BK696.out 0; have hfz39_1 := blk_frozen BK696.out 1; have hfz39_2 := blk_frozen BK696.out 2; have hfz39_3 := blk_frozen BK696.out 3) | ((with_reducible refine gate_callee (f := 26) rfl ?_); refine goesL_ (some 37) rfl rfl Try.func26 (by kernel_rfl) rfl #[.agg #[.int .i64 a0_4, .int .u64 a0_5, .int .i64 a0_6, .int .u64 a0_7], .int .i64 a2] rfl (by (try simp only [List.map_toArray, List.map_cons, List.map_nil]); first | done | rfl | (simp only [List.length_drop, List.length_take]; rfl)) ?_; (with_reducible refine (frac_Snap.calls kj3 a0_4 a0_5 a0_6 a0_7 a2 t702 t703 t704 _ A23.out).mono ?_); rintro e w40 ⟨rfl, hb⟩; refine ⟨_, rfl, ?_⟩; have n0_ := kb BK694 hb; have n1_ := kb BK695 hb; have n2_ := kb BK696 hb; have n3_ := Aside0.mk (blk_below (g := gb701) (o := .cells #[.int .i64 t698, .int .u64 t699] 24 (0, 0)) (by (with_reducible repeat (first | refine blk_drewN ?_ _ | refine blk_drew ?_ | refine blk_alloc ?_ _)); refine blk_put (cs := #[.int .i64 t698, .int .u64 0]) ?_ 1 _ rfl; (with_reducible repeat (first | refine blk_drewN ?_ _ | refine blk_drew ?_ | refine blk_alloc ?_ _)); refine blk_put (cs := #[.int .i64 0, .int .u64 0]) ?_ 0 _ rfl; (with_reducible repeat (first | refine blk_drewN ?_ _ | refine blk_drew ?_ | refine blk_alloc ?_ _)); exact BK701.out) hb); have n4_ := kB HB hb; clear BK694; clear BK695; clear BK696; clear BK701; clear HB; have BK694 := n0_; have BK695 := n1_; have BK696 := n2_; have BK701 := n3_; have HB := n4_; clear n0_ n1_ n2_ n3_ n4_; (try clear hb); (try clear hb2); (try clear hk); (try clear hi)) | ((with_reducible refine gate_dst (N := 11) rfl ?_); refine box_event ?hg (N := 11) ?hd (cs := #[.int .i64 0, .int .u64 0]) (t := 24) ?hr ?_; (case hd => rfl); (case hg => rfl); (case hr => first | (go_simp; done) | (go_simp; rfl)); intro gb705 hg w41 hbox hb; have BK705 := Aside0.mk (hbox); have GW705 := kS HB hg; have GE705 := kS HB hg; have NB694_705 := kN BK694 hg; have NB705_694 := kM BK694 hg; have NB695_705 := kN BK695 hg; have NB705_695 := kM BK695 hg; have NB696_705 := kN BK696 hg; have NB705_696 := kM BK696 hg; have NB701_705 := kN BK701 hg; have NB705_701 := kM BK701 hg; replace BK694 := kb BK694 hb; replace BK695 := kb BK695 hb; replace BK696 := kb BK696 hb; replace BK701 := kb BK701 hb; replace HB := kB HB hb; clear hb hbox hg; have hnb42 := NB705_694.out; have hnc42 := NB694_705.out; have hnb43 := NB705_695.out; have hnc43 := NB695_705.out; have hnb44 := NB705_696.out; have hnc44 := NB696_705.out; have hnb45 := NB705_701.out; have hnc45 := NB701_705.out; have hcz46_0 : w41.cell? ⟨gb705, 0, none⟩ = some (.int .i64 0) := kc BK705 0; have hcz46_1 : w41.cell? ⟨gb705, 1, none⟩ = some (.int .u64 0) := kc BK705 1; have hfz46_0 := blk_frozen BK705.out 0; have hfz46_1 := blk_frozen BK705.out 1) | ((with_reducible refine gate_callee (f := 24) rfl ?_); refine goesL_ (some 43) rfl rfl Try.func24 (by kernel_rfl) rfl #[.int .i64 (wrap64 (a1))] rfl (by (try simp only [List.map_toArray, List.map_cons, List.map_nil]); first | done | rfl | (simp only [List.length_drop, List.length_take]; rfl)) ?_; (with_reducible refine (wide_Of.calls (wrap64 (a1)) t706 t707 _ A24.out).mono ?_); rintro e w47 ⟨rfl, hb⟩; refine ⟨_, rfl, ?_⟩; have n0_ := kb BK694 hb; have n1_ := kb BK695 hb; have n2_ := kb BK696 hb; have n3_ := kb BK701 hb; have n4_ := Aside0.mk (blk_below (g := gb705) (o := .cells #[.int .i64 t702, .int .u64 t703] 24 (0, 0)) (by (with_reducible repeat (first | refine blk_drewN ?_ _ | refine blk_drew ?_ | refine blk_alloc ?_ _)); refine blk_put (cs := #[.int .i64 t702, .int .u64 0]) ?_ 1 _ rfl; (with_reducible repeat (first | refine blk_drewN ?_ _ | refine blk_drew ?_ | refine blk_alloc ?_ _)); refine blk_put (cs := #[.int .i64 0, .int .u64 0]) ?_ 0 _ rfl; (with_reducible repeat (first | refine blk_drewN ?_ _ | refine blk_drew ?_ | refine blk_alloc ?_ _)); exact BK705.out) hb); have n5_ := kB HB hb; clear BK694; clear BK695; clear BK696; clear BK701; clear BK705; clear HB; have BK694 := n0_; have BK695 := n1_; have BK696 := n2_; have BK701 := n3_; have BK705 := n4_; have HB := n5_; clear n0_ n1_ n2_ n3_ n4_ n5_; (try clear hb); (try clear hb2); (try clear hk); (try clear hi)) | ((with_reducible refine gate_callee (f := 28) rfl ?_); refine goesL_ (some 45) rfl rfl Try.func28 (by kernel_rfl) rfl #[.agg #[.int .i64 t706, .int .u64 t707], .int .i64 a2] rfl (by (try simp only [List.map_toArray, List.map_cons, List.map_nil]); first | done | rfl | (simp only [List.length_drop, List.length_take]; rfl)) ?_; (with_reducible refine (wide_Shl.calls kj3 t706 t707 a2 t708 t709 t710 _ A25.out).mono ?_); rintro e w48 ⟨rfl, hb⟩; refine ⟨_, rfl, ?_⟩; replace BK694 := kb BK694 hb; replace BK695 := kb BK695 hb; replace BK696 := kb BK696 hb; replace BK701 := kb BK701 hb; replace BK705 := kb BK705 hb; replace HB := kB HB hb; (try clear hb); (try clear hb2); (try clear hk); (try clear hi)) | ((with_reducible refine gate_dst (N := 13) rfl ?_); refine box_event ?hg (N := 13) ?hd (cs := #[.int .i64 0, .int .u64 0]) (t := 24) ?hr ?_; (case hd => rfl); (case hg => rfl); (case hr => first | (go_simp; done) | (go_simp; rfl)); intro gb711 hg w49 hbox hb; have BK711 := Aside0.mk (hbox); have GW711 := kS HB hg; have GE711 := kS HB hg; have NB694_711 := kN BK694 hg; have NB711_694 := kM BK694 hg; have NB695_711 := kN BK695 hg; have NB711_695 := kM BK695 hg; have NB696_711 := kN BK696 hg; have NB711_696 := kM BK696 hg; have NB701_711 := kN BK701 hg; have NB711_701 := kM BK701 hg; have NB705_711 := kN BK705 hg; have NB711_705 := kM BK705 hg; replace BK694 := kb BK694 hb; replace BK695 := kb BK695 hb; replace BK696 := kb BK696 hb; replace BK701 := kb BK701 hb; replace BK705 := kb BK705 hb; replace HB := kB HB hb; clear hb hbox hg; have hnb50 := NB711_694.out; have hnc50 := NB694_711.out; have hnb51 := NB711_695.out; have hnc51 := NB695_711.out; have hnb52 := NB711_696.out; have hnc52 := NB696_711.out; have hnb53 := NB711_701.out; have hnc53 := NB701_711.out; have hnb54 := NB711_705.out; have hnc54 := NB705_711.out; have hcz55_0 : w49.cell? ⟨gb711, 0, none⟩ = some (.int .i64 0) := kc BK711 0; have hcz55_1 : w49.cell? ⟨gb711, 1, none⟩ = some (.int .u64 0) := kc BK711 1; have hfz55_0 := blk_frozen BK711.out 0; have hfz55_1 := blk_frozen BK711.out 1))
      have n0_ : Aside0 (((w49.setCell ⟨gb711, 0, none⟩ (.int .i64 t708)).setCell ⟨gb711, 1, none⟩ (.int .u64 t709)).heap[gb694]? = some (.cells #[.int .i64 a0_0, .int .u64 a0_1, .int .i64 a0_2, .int .u64 a0_3, .int .i64 a0_4, .int .u64 a0_5, .int .i64 a0_6, .int .u64 a0_7] 49 (0, 0))) := ⟨kx BK694⟩
      have n1_ : Aside0 (((w49.setCell ⟨gb711, 0, none⟩ (.int .i64 t708)).setCell ⟨gb711, 1, none⟩ (.int .u64 t709)).heap[gb695]? = some (.cells #[.int .i64 a0_0, .int .u64 a0_1, .int .i64 a0_2, .int .u64 a0_3] 26 (0, 0))) := ⟨kx BK695⟩
      have n2_ : Aside0 (((w49.setCell ⟨gb711, 0, none⟩ (.int .i64 t708)).setCell ⟨gb711, 1, none⟩ (.int .u64 t709)).heap[gb696]? = some (.cells #[.int .i64 a0_4, .int .u64 a0_5, .int .i64 a0_6, .int .u64 a0_7] 26 (0, 0))) := ⟨kx BK696⟩
      have n3_ : Aside0 (((w49.setCell ⟨gb711, 0, none⟩ (.int .i64 t708)).setCell ⟨gb711, 1, none⟩ (.int .u64 t709)).heap[gb701]? = some (.cells #[.int .i64 t698, .int .u64 t699] 24 (0, 0))) := ⟨kx BK701⟩
      have n4_ : Aside0 (((w49.setCell ⟨gb711, 0, none⟩ (.int .i64 t708)).setCell ⟨gb711, 1, none⟩ (.int .u64 t709)).heap[gb705]? = some (.cells #[.int .i64 t702, .int .u64 t703] 24 (0, 0))) := ⟨kx BK705⟩
      have n5_ : Aside0 (((w49.setCell ⟨gb711, 0, none⟩ (.int .i64 t708)).setCell ⟨gb711, 1, none⟩ (.int .u64 t709)).heap[gb711]? = some (.cells #[.int .i64 t708, .int .u64 t709] 24 (0, 0))) := ⟨by (with_reducible repeat (first | refine blk_drewN ?_ _ | refine blk_drew ?_ | refine blk_alloc ?_ _)); refine blk_put (cs := #[.int .i64 t708, .int .u64 0]) ?_ 1 _ rfl; (with_reducible repeat (first | refine blk_drewN ?_ _ | refine blk_drew ?_ | refine blk_alloc ?_ _)); refine blk_put (cs := #[.int .i64 0, .int .u64 0]) ?_ 0 _ rfl; (with_reducible repeat (first | refine blk_drewN ?_ _ | refine blk_drew ?_ | refine blk_alloc ?_ _)); exact BK711.out⟩
      have n6_ : Aside0 (Below w.heap.size w ((w49.setCell ⟨gb711, 0, none⟩ (.int .i64 t708)).setCell ⟨gb711, 1, none⟩ (.int .u64 t709))) := ⟨ky HB⟩
      (try clear BK694); (try clear BK695); (try clear BK696); (try clear BK701); (try clear BK705); (try clear BK711); (try clear HB)
      generalize ((w49.setCell ⟨gb711, 0, none⟩ (.int .i64 t708)).setCell ⟨gb711, 1, none⟩ (.int .u64 t709)) = w56 at n0_ n1_ n2_ n3_ n4_ n5_ n6_ ⊢
      have BK694 := n0_; have BK695 := n1_; have BK696 := n2_; have BK701 := n3_; have BK705 := n4_; have BK711 := n5_; have HB := n6_
      clear n0_ n1_ n2_ n3_ n4_ n5_ n6_
      replace BK694 := Aside0.mk (blk_drew BK694.out)
      replace BK695 := Aside0.mk (blk_drew BK695.out)
      replace BK696 := Aside0.mk (blk_drew BK696.out)
      replace BK701 := Aside0.mk (blk_drew BK701.out)
      replace BK705 := Aside0.mk (blk_drew BK705.out)
      replace BK711 := Aside0.mk (blk_drew BK711.out)
      replace HB := Aside0.mk (below_drew1 HB.out)
      refine start_ (n := 11) (S := fun w' => w'.cell? ⟨gb711, 0, none⟩ = some (.int .i64 t708) ∧ w'.cell? ⟨gb711, 1, none⟩ = some (.int .u64 t709)) (ds := []) #[O, O, O, O, O, O, O, O, O, O, O] (by kernel_rfl) rfl rfl ⟨kc BK711 0, kc BK711 1⟩ (fun hHeld => ?_); refine with_tabW cobweblaw02_FracRises.tab7 cobweblaw02_FracRises.bits7 (fun HT_ HW_ => ?_)
      generalize w56.drew = w57 at BK694 BK695 BK696 BK701 BK705 BK711 HB hHeld ⊢
      refine pure_ (i := 3) (N := some 52) (v := ?_) (a' := ?_) #[O, O, O, T, O, O, O, O, O, O, O] rfl rfl (any_of HT_.out (by kernel_rfl)) (fun _ _ _ h => h) (Or.inl ⟨by rfl, ?_⟩) ?_ ?_; rotate_left; focus (intro w'; go_simp; with_reducible rfl)
      rotate_left; focus (simp only [Act.put, s1, s2, s3, i64_w, i32_w]; rfl)
      refine take_ (i := 0) (N := some 49) (v := ?_) (a' := ?_) #[T, O, O, T, O, O, O, O, O, O, O] rfl rfl (take_ofW HT_.out HW_.out (by kernel_rfl)) (fun _ _ _ h => h) (Or.inl ⟨by rfl, ?_⟩) hHeld ?_ ?_; rotate_left; focus (rintro w' ⟨s0, s1⟩; go_simp; with_reducible rfl)
      rotate_left; focus (simp only [Act.put, s1, s2, s3, i64_w, i32_w]; rfl)
      refine join_ (σ := Nat) 2 #[T, T, T, T, T, T, T, T, T, O, O] (fun s_ => [(50, .agg #[.int .i64 t712, .int .u64 t713]), (53, .tuple #[.agg #[.int .i64 t714, .int .u64 t715], .bool t716]), (15, .pointer (some ⟨s_, 0, none⟩)), (51, .agg #[.int .i64 t708, .int .u64 t709, .int .i64 t712, .int .u64 t713]), (48, .tuple #[.agg #[.int .i64 t714, .int .u64 t715], .bool t716]), (54, .agg #[.int .i64 t714, .int .u64 t715]), (55, .bool t716)]) (fun s_ w' => (w'.cell? ⟨gb711, 0, none⟩ = some (.int .i64 t708) ∧ w'.cell? ⟨gb711, 1, none⟩ = some (.int .u64 t709)) ∧ (w'.heap[gb694]? = some (.cells #[.int .i64 a0_0, .int .u64 a0_1, .int .i64 a0_2, .int .u64 a0_3, .int .i64 a0_4, .int .u64 a0_5, .int .i64 a0_6, .int .u64 a0_7] 49 (0, 0))) ∧ (w'.heap[gb695]? = some (.cells #[.int .i64 a0_0, .int .u64 a0_1, .int .i64 a0_2, .int .u64 a0_3] 26 (0, 0))) ∧ (w'.heap[gb696]? = some (.cells #[.int .i64 a0_4, .int .u64 a0_5, .int .i64 a0_6, .int .u64 a0_7] 26 (0, 0))) ∧ (w'.heap[gb701]? = some (.cells #[.int .i64 t698, .int .u64 t699] 24 (0, 0))) ∧ (w'.heap[gb705]? = some (.cells #[.int .i64 t702, .int .u64 t703] 24 (0, 0))) ∧ (w'.heap[gb711]? = some (.cells #[.int .i64 t708, .int .u64 t709] 24 (0, 0))) ∧ (w'.heap[s_]? = some (.cells #[.int .i64 0, .int .u64 0] 24 (0, 0))) ∧ (w.heap.size ≤ s_) ∧ (w.heap.size ≤ s_) ∧ (gb694 ≠ s_) ∧ (s_ ≠ gb694) ∧ (gb695 ≠ s_) ∧ (s_ ≠ gb695) ∧ (gb696 ≠ s_) ∧ (s_ ≠ gb696) ∧ (gb701 ≠ s_) ∧ (s_ ≠ gb701) ∧ (gb705 ≠ s_) ∧ (s_ ≠ gb705) ∧ (gb711 ≠ s_) ∧ (s_ ≠ gb711) ∧ (Below w.heap.size w w')) ?_ ?_
      rotate_left
      · intro hCont
        refine two_ (i := 1) (j := 8) (Ni := some 50) (Nj := some 15) #[T, T, O, T, O, O, O, O, O, O, O] #[T, O, O, T, O, O, O, O, T, O, O] rfl rfl rfl rfl (two_of HT_.out (by kernel_rfl)) (by decide) (by decide) (fun K hK => ?_) (fun K hK => ?_)
        · skip
          refine goes_ Try.func24 (by kernel_rfl) rfl #[.int .i64 1] (by rfl) rfl rfl (by (try simp only [List.map_toArray, List.map_cons, List.map_nil]); first | done | rfl | (simp only [List.length_drop, List.length_take]; rfl)) ?_
          with_reducible refine (wide_Of.calls 1 t712 t713 _ A26.out).mono ?_
          rintro e w58 ⟨rfl, hb⟩
          refine ⟨_, rfl, ?_⟩
          replace BK694 := kb BK694 hb
          replace BK695 := kb BK695 hb
          replace BK696 := kb BK696 hb
          replace BK701 := kb BK701 hb
          replace BK705 := kb BK705 hb
          replace BK711 := kb BK711 hb
          replace HB := kB HB hb
          (try clear hb); (try clear hb2); (try clear hk); (try clear hi)
          refine hK.out _ _ ⟨kc BK711 0, kc BK711 1⟩ (fun hHeld => ?_)
          clear hK K
          refine norm_ (a' := ?_) ?_ ?_; rotate_left; focus (show Act.put _ (some 50) _ = _; simp only [Act.put, s1, s2, s3, i64_w, i32_w]; rfl)
          refine pure_ (i := 2) (N := some 51) (v := ?_) (a' := ?_) #[T, T, T, T, O, O, O, O, O, O, O] rfl rfl (any_of HT_.out (by kernel_rfl)) (fun _ _ _ h => h) (Or.inl ⟨by rfl, ?_⟩) ?_ ?_; rotate_left; focus (intro w'; go_simp; with_reducible rfl)
          rotate_left; focus (simp only [Act.put, s1, s2, s3, i64_w, i32_w]; rfl)
          refine two_ (i := 4) (j := 8) (Ni := some 53) (Nj := some 15) #[T, T, T, T, T, O, O, O, O, O, O] #[T, T, T, T, O, O, O, O, T, O, O] rfl rfl rfl rfl (two_of HT_.out (by kernel_rfl)) (by decide) (by decide) (fun K hK => ?_) (fun K hK => ?_)
          · skip
            refine goes_ Try.func26 (by kernel_rfl) rfl #[.agg #[.int .i64 t708, .int .u64 t709, .int .i64 t712, .int .u64 t713], .int .i64 a2] (by rfl) rfl rfl (by (try simp only [List.map_toArray, List.map_cons, List.map_nil]); first | done | rfl | (simp only [List.length_drop, List.length_take]; rfl)) ?_
            with_reducible refine (frac_Snap.calls kj3 t708 t709 t712 t713 a2 t714 t715 t716 _ A27.out).mono ?_
            rintro e w59 ⟨rfl, hb⟩
            refine ⟨_, rfl, ?_⟩
            replace BK694 := kb BK694 hb
            replace BK695 := kb BK695 hb
            replace BK696 := kb BK696 hb
            replace BK701 := kb BK701 hb
            replace BK705 := kb BK705 hb
            replace BK711 := kb BK711 hb
            replace HB := kB HB hb
            (try clear hb); (try clear hb2); (try clear hk); (try clear hi)
            refine hK.out _ _ ⟨kc BK711 0, kc BK711 1⟩ (fun hHeld => ?_)
            clear hK K
            refine norm_ (a' := ?_) ?_ ?_; rotate_left; focus (show Act.put _ (some 53) _ = _; simp only [Act.put, s1, s2, s3, i64_w, i32_w]; rfl)
            refine pure_ (i := 5) (N := some 48) (v := ?_) (a' := ?_) #[T, T, T, T, T, T, O, O, O, O, O] rfl rfl (any_of HT_.out (by kernel_rfl)) (fun _ _ _ h => h) (Or.inl ⟨by rfl, ?_⟩) ?_ ?_; rotate_left; focus (intro w'; go_simp; with_reducible rfl)
            rotate_left; focus (simp only [Act.put, s1, s2, s3, i64_w, i32_w]; rfl)
            refine pure_ (i := 6) (N := some 54) (v := ?_) (a' := ?_) #[T, T, T, T, T, T, T, O, O, O, O] rfl rfl (any_of HT_.out (by kernel_rfl)) (fun _ _ _ h => h) (Or.inl ⟨by rfl, ?_⟩) ?_ ?_; rotate_left; focus (intro w'; go_simp; with_reducible rfl)
            rotate_left; focus (simp only [Act.put, s1, s2, s3, i64_w, i32_w]; rfl)
            refine pure_ (i := 7) (N := some 55) (v := ?_) (a' := ?_) #[T, T, T, T, T, T, T, T, O, O, O] rfl rfl (any_of HT_.out (by kernel_rfl)) (fun _ _ _ h => h) (Or.inl ⟨by rfl, ?_⟩) ?_ ?_; rotate_left; focus (intro w'; go_simp; with_reducible rfl)
            rotate_left; focus (simp only [Act.put, s1, s2, s3, i64_w, i32_w]; rfl)
            refine one_ (i := 8) (N := some 15) #[T, T, T, T, T, T, T, T, T, O, O] rfl rfl (one_of HT_.out (by kernel_rfl)) (by decide) (fun K hK => ?_)
            refine box_step ?hg (N := 15) ?hd (cs := #[.int .i64 0, .int .u64 0]) (t := 24) ?hr ?_; (case hd => rfl); (case hg => rfl); (case hr => first | (go_simp; done) | (go_simp; rfl))
            intro gb717 hg w60 hbox hb
            have BK717 := Aside0.mk (hbox)
            have GW717 := kS HB hg
            have GE717 := kS HB hg
            have NB694_717 := kN BK694 hg
            have NB717_694 := kM BK694 hg
            have NB695_717 := kN BK695 hg
            have NB717_695 := kM BK695 hg
            have NB696_717 := kN BK696 hg
            have NB717_696 := kM BK696 hg
            have NB701_717 := kN BK701 hg
            have NB717_701 := kM BK701 hg
            have NB705_717 := kN BK705 hg
            have NB717_705 := kM BK705 hg
            have NB711_717 := kN BK711 hg
            have NB717_711 := kM BK711 hg
            replace BK694 := kb BK694 hb
            replace BK695 := kb BK695 hb
            replace BK696 := kb BK696 hb
            replace BK701 := kb BK701 hb
            replace BK705 := kb BK705 hb
            replace BK711 := kb BK711 hb
            replace HB := kB HB hb
            clear hb hbox hg
            refine hK.out _ _ ⟨kc BK711 0, kc BK711 1⟩ (fun hHeld => ?_)
            clear hK K
            refine norm_ (a' := ?_) ?_ ?_; rotate_left; focus (show Act.put _ (some 15) _ = _; simp only [Act.put, s1, s2, s3, i64_w, i32_w]; rfl)
            exact norm_ (by simp only [putAll, Act.put, s1, s2, s3]) (hCont (gb717) _ ⟨hHeld, (kx BK694), (kx BK695), (kx BK696), (kx BK701), (kx BK705), (kx BK711), (kx BK717), GW717.out, GE717.out, NB694_717.out, NB717_694.out, NB695_717.out, NB717_695.out, NB696_717.out, NB717_696.out, NB701_717.out, NB717_701.out, NB705_717.out, NB717_705.out, NB711_717.out, NB717_711.out, (ky HB)⟩)
          · skip
            refine box_step ?hg (N := 15) ?hd (cs := #[.int .i64 0, .int .u64 0]) (t := 24) ?hr ?_; (case hd => rfl); (case hg => rfl); (case hr => first | (go_simp; done) | (go_simp; rfl))
            intro gb717 hg w59 hbox hb
            have BK717 := Aside0.mk (hbox)
            have GW717 := kS HB hg
            have GE717 := kS HB hg
            have NB694_717 := kN BK694 hg
            have NB717_694 := kM BK694 hg
            have NB695_717 := kN BK695 hg
            have NB717_695 := kM BK695 hg
            have NB696_717 := kN BK696 hg
            have NB717_696 := kM BK696 hg
            have NB701_717 := kN BK701 hg
            have NB717_701 := kM BK701 hg
            have NB705_717 := kN BK705 hg
            have NB717_705 := kM BK705 hg
            have NB711_717 := kN BK711 hg
            have NB717_711 := kM BK711 hg
            replace BK694 := kb BK694 hb
            replace BK695 := kb BK695 hb
            replace BK696 := kb BK696 hb
            replace BK701 := kb BK701 hb
            replace BK705 := kb BK705 hb
            replace BK711 := kb BK711 hb
            replace HB := kB HB hb
            clear hb hbox hg
            refine hK.out _ _ ⟨kc BK711 0, kc BK711 1⟩ (fun hHeld => ?_)
            clear hK K
            refine norm_ (a' := ?_) ?_ ?_; rotate_left; focus (show Act.put _ (some 15) _ = _; simp only [Act.put, s1, s2, s3, i64_w, i32_w]; rfl)
            refine one_ (i := 4) (N := some 53) #[T, T, T, T, T, O, O, O, T, O, O] rfl rfl (one_of HT_.out (by kernel_rfl)) (by decide) (fun K hK => ?_)
            refine goes_ Try.func26 (by kernel_rfl) rfl #[.agg #[.int .i64 t708, .int .u64 t709, .int .i64 t712, .int .u64 t713], .int .i64 a2] (by rfl) rfl rfl (by (try simp only [List.map_toArray, List.map_cons, List.map_nil]); first | done | rfl | (simp only [List.length_drop, List.length_take]; rfl)) ?_
            with_reducible refine (frac_Snap.calls kj3 t708 t709 t712 t713 a2 t714 t715 t716 _ A27.out).mono ?_
            rintro e w60 ⟨rfl, hb⟩
            refine ⟨_, rfl, ?_⟩
            replace BK694 := kb BK694 hb
            replace BK695 := kb BK695 hb
            replace BK696 := kb BK696 hb
            replace BK701 := kb BK701 hb
            replace BK705 := kb BK705 hb
            replace BK711 := kb BK711 hb
            replace BK717 := kb BK717 hb
            replace HB := kB HB hb
            (try clear hb); (try clear hb2); (try clear hk); (try clear hi)
            refine hK.out _ _ ⟨kc BK711 0, kc BK711 1⟩ (fun hHeld => ?_)
            clear hK K
            refine norm_ (a' := ?_) ?_ ?_; rotate_left; focus (show Act.put _ (some 53) _ = _; simp only [Act.put, s1, s2, s3, i64_w, i32_w]; rfl)
            refine pure_ (i := 5) (N := some 48) (v := ?_) (a' := ?_) #[T, T, T, T, T, T, O, O, T, O, O] rfl rfl (any_of HT_.out (by kernel_rfl)) (fun _ _ _ h => h) (Or.inl ⟨by rfl, ?_⟩) ?_ ?_; rotate_left; focus (intro w'; go_simp; with_reducible rfl)
            rotate_left; focus (simp only [Act.put, s1, s2, s3, i64_w, i32_w]; rfl)
            refine pure_ (i := 6) (N := some 54) (v := ?_) (a' := ?_) #[T, T, T, T, T, T, T, O, T, O, O] rfl rfl (any_of HT_.out (by kernel_rfl)) (fun _ _ _ h => h) (Or.inl ⟨by rfl, ?_⟩) ?_ ?_; rotate_left; focus (intro w'; go_simp; with_reducible rfl)
            rotate_left; focus (simp only [Act.put, s1, s2, s3, i64_w, i32_w]; rfl)
            refine pure_ (i := 7) (N := some 55) (v := ?_) (a' := ?_) #[T, T, T, T, T, T, T, T, T, O, O] rfl rfl (any_of HT_.out (by kernel_rfl)) (fun _ _ _ h => h) (Or.inl ⟨by rfl, ?_⟩) ?_ ?_; rotate_left; focus (intro w'; go_simp; with_reducible rfl)
            rotate_left; focus (simp only [Act.put, s1, s2, s3, i64_w, i32_w]; rfl)
            exact norm_ (by simp only [putAll, Act.put, s1, s2, s3]) (hCont (gb717) _ ⟨hHeld, (kx BK694), (kx BK695), (kx BK696), (kx BK701), (kx BK705), (kx BK711), (kx BK717), GW717.out, GE717.out, NB694_717.out, NB717_694.out, NB695_717.out, NB717_695.out, NB696_717.out, NB717_696.out, NB701_717.out, NB717_701.out, NB705_717.out, NB717_705.out, NB711_717.out, NB717_711.out, (ky HB)⟩)
        · skip
          refine box_step ?hg (N := 15) ?hd (cs := #[.int .i64 0, .int .u64 0]) (t := 24) ?hr ?_; (case hd => rfl); (case hg => rfl); (case hr => first | (go_simp; done) | (go_simp; rfl))
          intro gb717 hg w58 hbox hb
          have BK717 := Aside0.mk (hbox)
          have GW717 := kS HB hg
          have GE717 := kS HB hg
          have NB694_717 := kN BK694 hg
          have NB717_694 := kM BK694 hg
          have NB695_717 := kN BK695 hg
          have NB717_695 := kM BK695 hg
          have NB696_717 := kN BK696 hg
          have NB717_696 := kM BK696 hg
          have NB701_717 := kN BK701 hg
          have NB717_701 := kM BK701 hg
          have NB705_717 := kN BK705 hg
          have NB717_705 := kM BK705 hg
          have NB711_717 := kN BK711 hg
          have NB717_711 := kM BK711 hg
          replace BK694 := kb BK694 hb
          replace BK695 := kb BK695 hb
          replace BK696 := kb BK696 hb
          replace BK701 := kb BK701 hb
          replace BK705 := kb BK705 hb
          replace BK711 := kb BK711 hb
          replace HB := kB HB hb
          clear hb hbox hg
          refine hK.out _ _ ⟨kc BK711 0, kc BK711 1⟩ (fun hHeld => ?_)
          clear hK K
          refine norm_ (a' := ?_) ?_ ?_; rotate_left; focus (show Act.put _ (some 15) _ = _; simp only [Act.put, s1, s2, s3, i64_w, i32_w]; rfl)
          refine one_ (i := 1) (N := some 50) #[T, T, O, T, O, O, O, O, T, O, O] rfl rfl (one_of HT_.out (by kernel_rfl)) (by decide) (fun K hK => ?_)
          refine goes_ Try.func24 (by kernel_rfl) rfl #[.int .i64 1] (by rfl) rfl rfl (by (try simp only [List.map_toArray, List.map_cons, List.map_nil]); first | done | rfl | (simp only [List.length_drop, List.length_take]; rfl)) ?_
          with_reducible refine (wide_Of.calls 1 t712 t713 _ A26.out).mono ?_
          rintro e w59 ⟨rfl, hb⟩
          refine ⟨_, rfl, ?_⟩
          replace BK694 := kb BK694 hb
          replace BK695 := kb BK695 hb
          replace BK696 := kb BK696 hb
          replace BK701 := kb BK701 hb
          replace BK705 := kb BK705 hb
          replace BK711 := kb BK711 hb
          replace BK717 := kb BK717 hb
          replace HB := kB HB hb
          (try clear hb); (try clear hb2); (try clear hk); (try clear hi)
          refine hK.out _ _ ⟨kc BK711 0, kc BK711 1⟩ (fun hHeld => ?_)
          clear hK K
          refine norm_ (a' := ?_) ?_ ?_; rotate_left; focus (show Act.put _ (some 50) _ = _; simp only [Act.put, s1, s2, s3, i64_w, i32_w]; rfl)
          refine pure_ (i := 2) (N := some 51) (v := ?_) (a' := ?_) #[T, T, T, T, O, O, O, O, T, O, O] rfl rfl (any_of HT_.out (by kernel_rfl)) (fun _ _ _ h => h) (Or.inl ⟨by rfl, ?_⟩) ?_ ?_; rotate_left; focus (intro w'; go_simp; with_reducible rfl)
          rotate_left; focus (simp only [Act.put, s1, s2, s3, i64_w, i32_w]; rfl)
          refine one_ (i := 4) (N := some 53) #[T, T, T, T, T, O, O, O, T, O, O] rfl rfl (one_of HT_.out (by kernel_rfl)) (by decide) (fun K hK => ?_)
          refine goes_ Try.func26 (by kernel_rfl) rfl #[.agg #[.int .i64 t708, .int .u64 t709, .int .i64 t712, .int .u64 t713], .int .i64 a2] (by rfl) rfl rfl (by (try simp only [List.map_toArray, List.map_cons, List.map_nil]); first | done | rfl | (simp only [List.length_drop, List.length_take]; rfl)) ?_
          with_reducible refine (frac_Snap.calls kj3 t708 t709 t712 t713 a2 t714 t715 t716 _ A27.out).mono ?_
          rintro e w60 ⟨rfl, hb⟩
          refine ⟨_, rfl, ?_⟩
          replace BK694 := kb BK694 hb
          replace BK695 := kb BK695 hb
          replace BK696 := kb BK696 hb
          replace BK701 := kb BK701 hb
          replace BK705 := kb BK705 hb
          replace BK711 := kb BK711 hb
          replace BK717 := kb BK717 hb
          replace HB := kB HB hb
          (try clear hb); (try clear hb2); (try clear hk); (try clear hi)
          refine hK.out _ _ ⟨kc BK711 0, kc BK711 1⟩ (fun hHeld => ?_)
          clear hK K
          refine norm_ (a' := ?_) ?_ ?_; rotate_left; focus (show Act.put _ (some 53) _ = _; simp only [Act.put, s1, s2, s3, i64_w, i32_w]; rfl)
          refine pure_ (i := 5) (N := some 48) (v := ?_) (a' := ?_) #[T, T, T, T, T, T, O, O, T, O, O] rfl rfl (any_of HT_.out (by kernel_rfl)) (fun _ _ _ h => h) (Or.inl ⟨by rfl, ?_⟩) ?_ ?_; rotate_left; focus (intro w'; go_simp; with_reducible rfl)
          rotate_left; focus (simp only [Act.put, s1, s2, s3, i64_w, i32_w]; rfl)
          refine pure_ (i := 6) (N := some 54) (v := ?_) (a' := ?_) #[T, T, T, T, T, T, T, O, T, O, O] rfl rfl (any_of HT_.out (by kernel_rfl)) (fun _ _ _ h => h) (Or.inl ⟨by rfl, ?_⟩) ?_ ?_; rotate_left; focus (intro w'; go_simp; with_reducible rfl)
          rotate_left; focus (simp only [Act.put, s1, s2, s3, i64_w, i32_w]; rfl)
          refine pure_ (i := 7) (N := some 55) (v := ?_) (a' := ?_) #[T, T, T, T, T, T, T, T, T, O, O] rfl rfl (any_of HT_.out (by kernel_rfl)) (fun _ _ _ h => h) (Or.inl ⟨by rfl, ?_⟩) ?_ ?_; rotate_left; focus (intro w'; go_simp; with_reducible rfl)
          rotate_left; focus (simp only [Act.put, s1, s2, s3, i64_w, i32_w]; rfl)
          exact norm_ (by simp only [putAll, Act.put, s1, s2, s3]) (hCont (gb717) _ ⟨hHeld, (kx BK694), (kx BK695), (kx BK696), (kx BK701), (kx BK705), (kx BK711), (kx BK717), GW717.out, GE717.out, NB694_717.out, NB717_694.out, NB695_717.out, NB717_695.out, NB696_717.out, NB717_696.out, NB701_717.out, NB717_701.out, NB705_717.out, NB717_705.out, NB711_717.out, NB717_711.out, (ky HB)⟩)
      rintro gb717 w61 ⟨hS_, h0_, h1_, h2_, h3_, h4_, h5_, h6_, h7_, h8_, h9_, h10_, h11_, h12_, h13_, h14_, h15_, h16_, h17_, h18_, h19_, h20_, h21_⟩
      clear BK694 BK695 BK696 BK701 BK705 BK711 HB
      have BK694 := A0 h0_; have BK695 := A0 h1_; have BK696 := A0 h2_; have BK701 := A0 h3_; have BK705 := A0 h4_; have BK711 := A0 h5_; have BK717 := A0 h6_; have GW717 := A0 h7_; have GE717 := A0 h8_; have NB694_717 := A0 h9_; have NB717_694 := A0 h10_; have NB695_717 := A0 h11_; have NB717_695 := A0 h12_; have NB696_717 := A0 h13_; have NB717_696 := A0 h14_; have NB701_717 := A0 h15_; have NB717_701 := A0 h16_; have NB705_717 := A0 h17_; have NB717_705 := A0 h18_; have NB711_717 := A0 h19_; have NB717_711 := A0 h20_; have HB := A0 h21_
      clear h0_ h1_ h2_ h3_ h4_ h5_ h6_ h7_ h8_ h9_ h10_ h11_ h12_ h13_ h14_ h15_ h16_ h17_ h18_ h19_ h20_ h21_
      have hHeld := hS_
      refine norm_ (a' := ?_) ?_ ?_; rotate_left; focus (simp only [putAll, Act.put, s1, s2, s3]; rfl)
      refine one_ (i := 9) (N := none) #[T, T, T, T, T, T, T, T, T, T, O] rfl rfl (one_of HT_.out (by kernel_rfl)) (by decide) (fun K hK => ?_)
      have hs62 : w61.cell? ⟨gb717, 0, none⟩ = some (.int .i64 0) := kc BK717 0
      have hfs62 := blk_frozen BK717.out 0
      have hns62_0 := NB694_717.out; have hns62_1 := NB695_717.out; have hns62_2 := NB696_717.out; have hns62_3 := NB701_717.out; have hns62_4 := NB705_717.out; have hns62_5 := NB711_717.out; have hms62_0 := NB717_694.out; have hms62_1 := NB717_695.out; have hms62_2 := NB717_696.out; have hms62_3 := NB717_701.out; have hms62_4 := NB717_705.out; have hms62_5 := NB717_711.out
      have hs63 : w61.cell? ⟨gb717, 1, none⟩ = some (.int .u64 0) := kc BK717 1
      have hfs63 := blk_frozen BK717.out 1
      have hns63_0 := NB694_717.out; have hns63_1 := NB695_717.out; have hns63_2 := NB696_717.out; have hns63_3 := NB701_717.out; have hns63_4 := NB705_717.out; have hns63_5 := NB711_717.out; have hms63_0 := NB717_694.out; have hms63_1 := NB717_695.out; have hms63_2 := NB717_696.out; have hms63_3 := NB717_701.out; have hms63_4 := NB717_705.out; have hms63_5 := NB717_711.out
      refine skip_ (w1 := ?_) (by rfl) rfl ?_ ?_
      rotate_left
      · go_simp
        rfl
      refine hK.out _ _ ⟨((cell_far (p := ⟨gb717, _, none⟩) NB711_717.out _).trans (((cell_far (p := ⟨gb717, _, none⟩) NB711_717.out _).trans (hHeld.1)))), ((cell_far (p := ⟨gb717, _, none⟩) NB711_717.out _).trans (((cell_far (p := ⟨gb717, _, none⟩) NB711_717.out _).trans (hHeld.2))))⟩ (fun hHeld => ?_)
      clear hK K
      refine pure_ (i := 10) (N := some 16) (v := ?_) (a' := ?_) #[T, T, T, T, T, T, T, T, T, T, T] rfl rfl (any_of HT_.out (by kernel_rfl)) (fun _ _ _ h => h) (Or.inl ⟨by rfl, ?_⟩) ?_ ?_; rotate_left; focus (intro w'; go_simp; with_reducible rfl)
      rotate_left; focus (simp only [Act.put, s1, s2, s3, i64_w, i32_w]; rfl)
      refine done_ (done_of HT_.out (by kernel_rfl)) ?_
      go_upto_region 8 with (fail)
      go_cut [68] (fun v68 wc => ∃ (kq : Nat) (x68_27 : Bool), v68 = .bool x68_27 ∧ Aside0 (cobweblaw02_FracRises.j1 kq t700 t704 x68_27 a0_0 a0_1 a0_2 a0_3 a0_4 a0_5 a0_6 a0_7 t698 t699 t702 t703 = some r) ∧ Aside0 (kq ≤ kj3) ∧ Aside0 (wc.heap[gb694]? = some (.cells #[.int .i64 a0_0, .int .u64 a0_1, .int .i64 a0_2, .int .u64 a0_3, .int .i64 a0_4, .int .u64 a0_5, .int .i64 a0_6, .int .u64 a0_7] 49 (0, 0))) ∧ Aside0 (wc.heap[gb695]? = some (.cells #[.int .i64 a0_0, .int .u64 a0_1, .int .i64 a0_2, .int .u64 a0_3] 26 (0, 0))) ∧ Aside0 (wc.heap[gb696]? = some (.cells #[.int .i64 a0_4, .int .u64 a0_5, .int .i64 a0_6, .int .u64 a0_7] 26 (0, 0))) ∧ Aside0 (wc.heap[gb701]? = some (.cells #[.int .i64 t698, .int .u64 t699] 24 (0, 0))) ∧ Aside0 (wc.heap[gb705]? = some (.cells #[.int .i64 t702, .int .u64 t703] 24 (0, 0))) ∧ Aside0 (wc.heap[gb711]? = some (.cells #[.int .i64 t708, .int .u64 t709] 24 (0, 0))) ∧ Aside0 (wc.heap[gb717]? = some (.cells #[.int .i64 t714, .int .u64 t715] 24 (0, 0))) ∧ Aside0 (Below w.heap.size w wc))
      case first =>
        have H := HC28.out; clear HC28
        by_cases c64 : t710 = true
        rotate_left
        · replace c64 := Bool.eq_false_iff.mpr c64
          subst c64
          have H1 : (cobweblaw02_FracRises.j1 kj3 t700 t704 true a0_0 a0_1 a0_2 a0_3 a0_4 a0_5 a0_6 a0_7 t698 t699 t702 t703) = some r := by rw [if_neg (show ¬ (false = true) by decide)] at H; exact H
          clear H; have H := H1; clear H1
          have H' := Aside0.mk H
          clear H
          try go_wp2
          have n0_ : Aside0 (((w61.setCell ⟨gb717, 0, none⟩ (.int .i64 t714)).setCell ⟨gb717, 1, none⟩ (.int .u64 t715)).heap[gb694]? = some (.cells #[.int .i64 a0_0, .int .u64 a0_1, .int .i64 a0_2, .int .u64 a0_3, .int .i64 a0_4, .int .u64 a0_5, .int .i64 a0_6, .int .u64 a0_7] 49 (0, 0))) := ⟨kx BK694⟩
          have n1_ : Aside0 (((w61.setCell ⟨gb717, 0, none⟩ (.int .i64 t714)).setCell ⟨gb717, 1, none⟩ (.int .u64 t715)).heap[gb695]? = some (.cells #[.int .i64 a0_0, .int .u64 a0_1, .int .i64 a0_2, .int .u64 a0_3] 26 (0, 0))) := ⟨kx BK695⟩
          have n2_ : Aside0 (((w61.setCell ⟨gb717, 0, none⟩ (.int .i64 t714)).setCell ⟨gb717, 1, none⟩ (.int .u64 t715)).heap[gb696]? = some (.cells #[.int .i64 a0_4, .int .u64 a0_5, .int .i64 a0_6, .int .u64 a0_7] 26 (0, 0))) := ⟨kx BK696⟩
          have n3_ : Aside0 (((w61.setCell ⟨gb717, 0, none⟩ (.int .i64 t714)).setCell ⟨gb717, 1, none⟩ (.int .u64 t715)).heap[gb701]? = some (.cells #[.int .i64 t698, .int .u64 t699] 24 (0, 0))) := ⟨kx BK701⟩
          have n4_ : Aside0 (((w61.setCell ⟨gb717, 0, none⟩ (.int .i64 t714)).setCell ⟨gb717, 1, none⟩ (.int .u64 t715)).heap[gb705]? = some (.cells #[.int .i64 t702, .int .u64 t703] 24 (0, 0))) := ⟨kx BK705⟩
          have n5_ : Aside0 (((w61.setCell ⟨gb717, 0, none⟩ (.int .i64 t714)).setCell ⟨gb717, 1, none⟩ (.int .u64 t715)).heap[gb711]? = some (.cells #[.int .i64 t708, .int .u64 t709] 24 (0, 0))) := ⟨kx BK711⟩
          have n6_ : Aside0 (((w61.setCell ⟨gb717, 0, none⟩ (.int .i64 t714)).setCell ⟨gb717, 1, none⟩ (.int .u64 t715)).heap[gb717]? = some (.cells #[.int .i64 t714, .int .u64 t715] 24 (0, 0))) := ⟨by (with_reducible repeat (first | refine blk_drewN ?_ _ | refine blk_drew ?_ | refine blk_alloc ?_ _)); refine blk_put (cs := #[.int .i64 t714, .int .u64 0]) ?_ 1 _ rfl; (with_reducible repeat (first | refine blk_drewN ?_ _ | refine blk_drew ?_ | refine blk_alloc ?_ _)); refine blk_put (cs := #[.int .i64 0, .int .u64 0]) ?_ 0 _ rfl; (with_reducible repeat (first | refine blk_drewN ?_ _ | refine blk_drew ?_ | refine blk_alloc ?_ _)); exact BK717.out⟩
          have n7_ : Aside0 (Below w.heap.size w ((w61.setCell ⟨gb717, 0, none⟩ (.int .i64 t714)).setCell ⟨gb717, 1, none⟩ (.int .u64 t715))) := ⟨ky HB⟩
          (try clear BK694); (try clear BK695); (try clear BK696); (try clear BK701); (try clear BK705); (try clear BK711); (try clear BK717); (try clear HB)
          generalize ((w61.setCell ⟨gb717, 0, none⟩ (.int .i64 t714)).setCell ⟨gb717, 1, none⟩ (.int .u64 t715)) = w72 at n0_ n1_ n2_ n3_ n4_ n5_ n6_ n7_ ⊢
          have BK694 := n0_; have BK695 := n1_; have BK696 := n2_; have BK701 := n3_; have BK705 := n4_; have BK711 := n5_; have BK717 := n6_; have HB := n7_
          clear n0_ n1_ n2_ n3_ n4_ n5_ n6_ n7_
          replace BK694 := Aside0.mk (blk_drew BK694.out)
          replace BK695 := Aside0.mk (blk_drew BK695.out)
          replace BK696 := Aside0.mk (blk_drew BK696.out)
          replace BK701 := Aside0.mk (blk_drew BK701.out)
          replace BK705 := Aside0.mk (blk_drew BK705.out)
          replace BK711 := Aside0.mk (blk_drew BK711.out)
          replace BK717 := Aside0.mk (blk_drew BK717.out)
          replace HB := Aside0.mk (below_drew1 HB.out)
          refine start_ (n := 13) (S := fun w' => True) (ds := []) #[O, O, O, O, O, O, O, O, O, O, O, O, O] (by kernel_rfl) rfl rfl trivial (fun hHeld => ?_); refine with_tabW cobweblaw02_FracRises.tab8 cobweblaw02_FracRises.bits8 (fun HT_ HW_ => ?_)
          generalize w72.drew = w73 at BK694 BK695 BK696 BK701 BK705 BK711 BK717 HB hHeld ⊢
          refine pure_ (i := 0) (N := some 56) (v := ?_) (a' := ?_) #[T, O, O, O, O, O, O, O, O, O, O, O, O] rfl rfl (any_of HT_.out (by kernel_rfl)) (fun _ _ _ h => h) (Or.inl ⟨by rfl, ?_⟩) ?_ ?_; rotate_left; focus (intro w'; go_simp; with_reducible rfl)
          rotate_left; focus (simp only [Act.put, s1, s2, s3, i64_w, i32_w]; rfl)
          refine pure_ (i := 1) (N := some 57) (v := ?_) (a' := ?_) #[T, T, O, O, O, O, O, O, O, O, O, O, O] rfl rfl (any_of HT_.out (by kernel_rfl)) (fun _ _ _ h => h) (Or.inl ⟨by rfl, ?_⟩) ?_ ?_; rotate_left; focus (intro w'; go_simp; with_reducible rfl)
          rotate_left; focus (simp only [Act.put, s1, s2, s3, i64_w, i32_w]; rfl)
          refine pure_ (i := 2) (N := some 58) (v := ?_) (a' := ?_) #[T, T, T, O, O, O, O, O, O, O, O, O, O] rfl rfl (any_of HT_.out (by kernel_rfl)) (fun _ _ _ h => h) (Or.inl ⟨by rfl, ?_⟩) ?_ ?_; rotate_left; focus (intro w'; go_simp; with_reducible rfl)
          rotate_left; focus (simp only [Act.put, s1, s2, s3, i64_w, i32_w]; rfl)
          refine pure_ (i := 3) (N := some 59) (v := undef) (a' := ?_) #[T, T, T, T, O, O, O, O, O, O, O, O, O] rfl rfl (any_of HT_.out (by kernel_rfl)) (fun _ _ _ h => h) (Or.inr ⟨by rfl, rfl⟩) ?_ ?_; rotate_left; focus (simp only [Act.put, s1, s2, s3, i64_w, i32_w]; rfl)
          refine pure_ (i := 4) (N := some 60) (v := undef) (a' := ?_) #[T, T, T, T, T, O, O, O, O, O, O, O, O] rfl rfl (any_of HT_.out (by kernel_rfl)) (fun _ _ _ h => h) (Or.inr ⟨by rfl, rfl⟩) ?_ ?_; rotate_left; focus (simp only [Act.put, s1, s2, s3, i64_w, i32_w]; rfl)
          refine pure_ (i := 5) (N := some 61) (v := ?_) (a' := ?_) #[T, T, T, T, T, T, O, O, O, O, O, O, O] rfl rfl (any_of HT_.out (by kernel_rfl)) (fun _ _ _ h => h) (Or.inl ⟨by rfl, ?_⟩) ?_ ?_; rotate_left; focus (intro w'; go_simp; with_reducible rfl)
          rotate_left; focus (simp only [Act.put, s1, s2, s3, i64_w, i32_w]; rfl)
          refine pure_ (i := 6) (N := some 62) (v := ?_) (a' := ?_) #[T, T, T, T, T, T, T, O, O, O, O, O, O] rfl rfl (any_of HT_.out (by kernel_rfl)) (fun _ _ _ h => h) (Or.inl ⟨by rfl, ?_⟩) ?_ ?_; rotate_left; focus (intro w'; go_simp; with_reducible rfl)
          rotate_left; focus (simp only [Act.put, s1, s2, s3, i64_w, i32_w]; rfl)
          refine pure_ (i := 7) (N := some 63) (v := undef) (a' := ?_) #[T, T, T, T, T, T, T, T, O, O, O, O, O] rfl rfl (any_of HT_.out (by kernel_rfl)) (fun _ _ _ h => h) (Or.inr ⟨by rfl, rfl⟩) ?_ ?_; rotate_left; focus (simp only [Act.put, s1, s2, s3, i64_w, i32_w]; rfl)
          refine pure_ (i := 8) (N := some 64) (v := undef) (a' := ?_) #[T, T, T, T, T, T, T, T, T, O, O, O, O] rfl rfl (any_of HT_.out (by kernel_rfl)) (fun _ _ _ h => h) (Or.inr ⟨by rfl, rfl⟩) ?_ ?_; rotate_left; focus (simp only [Act.put, s1, s2, s3, i64_w, i32_w]; rfl)
          refine pure_ (i := 9) (N := some 65) (v := undef) (a' := ?_) #[T, T, T, T, T, T, T, T, T, T, O, O, O] rfl rfl (any_of HT_.out (by kernel_rfl)) (fun _ _ _ h => h) (Or.inr ⟨by rfl, rfl⟩) ?_ ?_; rotate_left; focus (simp only [Act.put, s1, s2, s3, i64_w, i32_w]; rfl)
          refine pure_ (i := 10) (N := some 66) (v := undef) (a' := ?_) #[T, T, T, T, T, T, T, T, T, T, T, O, O] rfl rfl (any_of HT_.out (by kernel_rfl)) (fun _ _ _ h => h) (Or.inr ⟨by rfl, rfl⟩) ?_ ?_; rotate_left; focus (simp only [Act.put, s1, s2, s3, i64_w, i32_w]; rfl)
          refine pure_ (i := 11) (N := some 67) (v := undef) (a' := ?_) #[T, T, T, T, T, T, T, T, T, T, T, T, O] rfl rfl (any_of HT_.out (by kernel_rfl)) (fun _ _ _ h => h) (Or.inr ⟨by rfl, rfl⟩) ?_ ?_; rotate_left; focus (simp only [Act.put, s1, s2, s3, i64_w, i32_w]; rfl)
          refine pure_ (i := 12) (N := some 68) (v := ?_) (a' := ?_) #[T, T, T, T, T, T, T, T, T, T, T, T, T] rfl rfl (any_of HT_.out (by kernel_rfl)) (fun _ _ _ h => h) (Or.inl ⟨by rfl, ?_⟩) ?_ ?_; rotate_left; focus (intro w'; go_simp; with_reducible rfl)
          rotate_left; focus (simp only [Act.put, s1, s2, s3, i64_w, i32_w]; rfl)
          refine done_ (done_of HT_.out (by kernel_rfl)) ?_
          try go_wp2
          go_meet
          case rel => exact ⟨_, (true), (by first | rfl | (simp; done) | (simp [*]; done)), H', ⟨by have := HJ3.out; first | omega | exact Nat.le_refl _⟩, ⟨kx BK694⟩, ⟨kx BK695⟩, ⟨kx BK696⟩, ⟨kx BK701⟩, ⟨kx BK705⟩, ⟨kx BK711⟩, ⟨kx BK717⟩, ⟨ky HB⟩⟩
        subst c64
        have H1 : (if t716 = true then ((wide_Of.f (wrap64 (a1))).bind fun bt718 => (cobweblaw02_FracRises.j1 kj3 t700 t704 (!(t714 == bt718.1) || (!(t715 == bt718.2))) a0_0 a0_1 a0_2 a0_3 a0_4 a0_5 a0_6 a0_7 t698 t699 t702 t703)) else (cobweblaw02_FracRises.j1 kj3 t700 t704 true a0_0 a0_1 a0_2 a0_3 a0_4 a0_5 a0_6 a0_7 t698 t699 t702 t703)) = some r := by rw [if_pos rfl] at H; exact H
        clear H; have H := H1; clear H1
        by_cases c65 : t716 = true
        rotate_left
        · replace c65 := Bool.eq_false_iff.mpr c65
          subst c65
          have H1 : (cobweblaw02_FracRises.j1 kj3 t700 t704 true a0_0 a0_1 a0_2 a0_3 a0_4 a0_5 a0_6 a0_7 t698 t699 t702 t703) = some r := by rw [if_neg (show ¬ (false = true) by decide)] at H; exact H
          clear H; have H := H1; clear H1
          have H' := Aside0.mk H
          clear H
          try go_wp2
          have n0_ : Aside0 (((w61.setCell ⟨gb717, 0, none⟩ (.int .i64 t714)).setCell ⟨gb717, 1, none⟩ (.int .u64 t715)).heap[gb694]? = some (.cells #[.int .i64 a0_0, .int .u64 a0_1, .int .i64 a0_2, .int .u64 a0_3, .int .i64 a0_4, .int .u64 a0_5, .int .i64 a0_6, .int .u64 a0_7] 49 (0, 0))) := ⟨kx BK694⟩
          have n1_ : Aside0 (((w61.setCell ⟨gb717, 0, none⟩ (.int .i64 t714)).setCell ⟨gb717, 1, none⟩ (.int .u64 t715)).heap[gb695]? = some (.cells #[.int .i64 a0_0, .int .u64 a0_1, .int .i64 a0_2, .int .u64 a0_3] 26 (0, 0))) := ⟨kx BK695⟩
          have n2_ : Aside0 (((w61.setCell ⟨gb717, 0, none⟩ (.int .i64 t714)).setCell ⟨gb717, 1, none⟩ (.int .u64 t715)).heap[gb696]? = some (.cells #[.int .i64 a0_4, .int .u64 a0_5, .int .i64 a0_6, .int .u64 a0_7] 26 (0, 0))) := ⟨kx BK696⟩
          have n3_ : Aside0 (((w61.setCell ⟨gb717, 0, none⟩ (.int .i64 t714)).setCell ⟨gb717, 1, none⟩ (.int .u64 t715)).heap[gb701]? = some (.cells #[.int .i64 t698, .int .u64 t699] 24 (0, 0))) := ⟨kx BK701⟩
          have n4_ : Aside0 (((w61.setCell ⟨gb717, 0, none⟩ (.int .i64 t714)).setCell ⟨gb717, 1, none⟩ (.int .u64 t715)).heap[gb705]? = some (.cells #[.int .i64 t702, .int .u64 t703] 24 (0, 0))) := ⟨kx BK705⟩
          have n5_ : Aside0 (((w61.setCell ⟨gb717, 0, none⟩ (.int .i64 t714)).setCell ⟨gb717, 1, none⟩ (.int .u64 t715)).heap[gb711]? = some (.cells #[.int .i64 t708, .int .u64 t709] 24 (0, 0))) := ⟨kx BK711⟩
          have n6_ : Aside0 (((w61.setCell ⟨gb717, 0, none⟩ (.int .i64 t714)).setCell ⟨gb717, 1, none⟩ (.int .u64 t715)).heap[gb717]? = some (.cells #[.int .i64 t714, .int .u64 t715] 24 (0, 0))) := ⟨by (with_reducible repeat (first | refine blk_drewN ?_ _ | refine blk_drew ?_ | refine blk_alloc ?_ _)); refine blk_put (cs := #[.int .i64 t714, .int .u64 0]) ?_ 1 _ rfl; (with_reducible repeat (first | refine blk_drewN ?_ _ | refine blk_drew ?_ | refine blk_alloc ?_ _)); refine blk_put (cs := #[.int .i64 0, .int .u64 0]) ?_ 0 _ rfl; (with_reducible repeat (first | refine blk_drewN ?_ _ | refine blk_drew ?_ | refine blk_alloc ?_ _)); exact BK717.out⟩
          have n7_ : Aside0 (Below w.heap.size w ((w61.setCell ⟨gb717, 0, none⟩ (.int .i64 t714)).setCell ⟨gb717, 1, none⟩ (.int .u64 t715))) := ⟨ky HB⟩
          (try clear BK694); (try clear BK695); (try clear BK696); (try clear BK701); (try clear BK705); (try clear BK711); (try clear BK717); (try clear HB)
          generalize ((w61.setCell ⟨gb717, 0, none⟩ (.int .i64 t714)).setCell ⟨gb717, 1, none⟩ (.int .u64 t715)) = w70 at n0_ n1_ n2_ n3_ n4_ n5_ n6_ n7_ ⊢
          have BK694 := n0_; have BK695 := n1_; have BK696 := n2_; have BK701 := n3_; have BK705 := n4_; have BK711 := n5_; have BK717 := n6_; have HB := n7_
          clear n0_ n1_ n2_ n3_ n4_ n5_ n6_ n7_
          replace BK694 := Aside0.mk (blk_drew BK694.out)
          replace BK695 := Aside0.mk (blk_drew BK695.out)
          replace BK696 := Aside0.mk (blk_drew BK696.out)
          replace BK701 := Aside0.mk (blk_drew BK701.out)
          replace BK705 := Aside0.mk (blk_drew BK705.out)
          replace BK711 := Aside0.mk (blk_drew BK711.out)
          replace BK717 := Aside0.mk (blk_drew BK717.out)
          replace HB := Aside0.mk (below_drew1 HB.out)
          refine start_ (n := 13) (S := fun w' => True) (ds := []) #[O, O, O, O, O, O, O, O, O, O, O, O, O] (by kernel_rfl) rfl rfl trivial (fun hHeld => ?_); refine with_tabW cobweblaw02_FracRises.tab8 cobweblaw02_FracRises.bits8 (fun HT_ HW_ => ?_)
          generalize w70.drew = w71 at BK694 BK695 BK696 BK701 BK705 BK711 BK717 HB hHeld ⊢
          refine pure_ (i := 0) (N := some 56) (v := ?_) (a' := ?_) #[T, O, O, O, O, O, O, O, O, O, O, O, O] rfl rfl (any_of HT_.out (by kernel_rfl)) (fun _ _ _ h => h) (Or.inl ⟨by rfl, ?_⟩) ?_ ?_; rotate_left; focus (intro w'; go_simp; with_reducible rfl)
          rotate_left; focus (simp only [Act.put, s1, s2, s3, i64_w, i32_w]; rfl)
          refine pure_ (i := 1) (N := some 57) (v := ?_) (a' := ?_) #[T, T, O, O, O, O, O, O, O, O, O, O, O] rfl rfl (any_of HT_.out (by kernel_rfl)) (fun _ _ _ h => h) (Or.inl ⟨by rfl, ?_⟩) ?_ ?_; rotate_left; focus (intro w'; go_simp; with_reducible rfl)
          rotate_left; focus (simp only [Act.put, s1, s2, s3, i64_w, i32_w]; rfl)
          refine pure_ (i := 2) (N := some 58) (v := ?_) (a' := ?_) #[T, T, T, O, O, O, O, O, O, O, O, O, O] rfl rfl (any_of HT_.out (by kernel_rfl)) (fun _ _ _ h => h) (Or.inl ⟨by rfl, ?_⟩) ?_ ?_; rotate_left; focus (intro w'; go_simp; with_reducible rfl)
          rotate_left; focus (simp only [Act.put, s1, s2, s3, i64_w, i32_w]; rfl)
          refine pure_ (i := 3) (N := some 59) (v := ?_) (a' := ?_) #[T, T, T, T, O, O, O, O, O, O, O, O, O] rfl rfl (any_of HT_.out (by kernel_rfl)) (fun _ _ _ h => h) (Or.inl ⟨by rfl, ?_⟩) ?_ ?_; rotate_left; focus (intro w'; go_simp; with_reducible rfl)
          rotate_left; focus (simp only [Act.put, s1, s2, s3, i64_w, i32_w]; rfl)
          refine pure_ (i := 4) (N := some 60) (v := ?_) (a' := ?_) #[T, T, T, T, T, O, O, O, O, O, O, O, O] rfl rfl (any_of HT_.out (by kernel_rfl)) (fun _ _ _ h => h) (Or.inl ⟨by rfl, ?_⟩) ?_ ?_; rotate_left; focus (intro w'; go_simp; with_reducible rfl)
          rotate_left; focus (simp only [Act.put, s1, s2, s3, i64_w, i32_w]; rfl)
          refine pure_ (i := 5) (N := some 61) (v := ?_) (a' := ?_) #[T, T, T, T, T, T, O, O, O, O, O, O, O] rfl rfl (any_of HT_.out (by kernel_rfl)) (fun _ _ _ h => h) (Or.inl ⟨by rfl, ?_⟩) ?_ ?_; rotate_left; focus (intro w'; go_simp; with_reducible rfl)
          rotate_left; focus (simp only [Act.put, s1, s2, s3, i64_w, i32_w]; rfl)
          refine pure_ (i := 6) (N := some 62) (v := ?_) (a' := ?_) #[T, T, T, T, T, T, T, O, O, O, O, O, O] rfl rfl (any_of HT_.out (by kernel_rfl)) (fun _ _ _ h => h) (Or.inl ⟨by rfl, ?_⟩) ?_ ?_; rotate_left; focus (intro w'; go_simp; with_reducible rfl)
          rotate_left; focus (simp only [Act.put, s1, s2, s3, i64_w, i32_w]; rfl)
          refine pure_ (i := 7) (N := some 63) (v := undef) (a' := ?_) #[T, T, T, T, T, T, T, T, O, O, O, O, O] rfl rfl (any_of HT_.out (by kernel_rfl)) (fun _ _ _ h => h) (Or.inr ⟨by rfl, rfl⟩) ?_ ?_; rotate_left; focus (simp only [Act.put, s1, s2, s3, i64_w, i32_w]; rfl)
          refine pure_ (i := 8) (N := some 64) (v := undef) (a' := ?_) #[T, T, T, T, T, T, T, T, T, O, O, O, O] rfl rfl (any_of HT_.out (by kernel_rfl)) (fun _ _ _ h => h) (Or.inr ⟨by rfl, rfl⟩) ?_ ?_; rotate_left; focus (simp only [Act.put, s1, s2, s3, i64_w, i32_w]; rfl)
          refine pure_ (i := 9) (N := some 65) (v := undef) (a' := ?_) #[T, T, T, T, T, T, T, T, T, T, O, O, O] rfl rfl (any_of HT_.out (by kernel_rfl)) (fun _ _ _ h => h) (Or.inr ⟨by rfl, rfl⟩) ?_ ?_; rotate_left; focus (simp only [Act.put, s1, s2, s3, i64_w, i32_w]; rfl)
          refine pure_ (i := 10) (N := some 66) (v := undef) (a' := ?_) #[T, T, T, T, T, T, T, T, T, T, T, O, O] rfl rfl (any_of HT_.out (by kernel_rfl)) (fun _ _ _ h => h) (Or.inr ⟨by rfl, rfl⟩) ?_ ?_; rotate_left; focus (simp only [Act.put, s1, s2, s3, i64_w, i32_w]; rfl)
          refine pure_ (i := 11) (N := some 67) (v := undef) (a' := ?_) #[T, T, T, T, T, T, T, T, T, T, T, T, O] rfl rfl (any_of HT_.out (by kernel_rfl)) (fun _ _ _ h => h) (Or.inr ⟨by rfl, rfl⟩) ?_ ?_; rotate_left; focus (simp only [Act.put, s1, s2, s3, i64_w, i32_w]; rfl)
          refine pure_ (i := 12) (N := some 68) (v := ?_) (a' := ?_) #[T, T, T, T, T, T, T, T, T, T, T, T, T] rfl rfl (any_of HT_.out (by kernel_rfl)) (fun _ _ _ h => h) (Or.inl ⟨by rfl, ?_⟩) ?_ ?_; rotate_left; focus (intro w'; go_simp; with_reducible rfl)
          rotate_left; focus (simp only [Act.put, s1, s2, s3, i64_w, i32_w]; rfl)
          refine done_ (done_of HT_.out (by kernel_rfl)) ?_
          try go_wp2
          go_meet
          case rel => exact ⟨_, (true), (by first | rfl | (simp; done) | (simp [*]; done)), H', ⟨by have := HJ3.out; first | omega | exact Nat.le_refl _⟩, ⟨kx BK694⟩, ⟨kx BK695⟩, ⟨kx BK696⟩, ⟨kx BK701⟩, ⟨kx BK705⟩, ⟨kx BK711⟩, ⟨kx BK717⟩, ⟨ky HB⟩⟩
        subst c65
        have H1 : ((wide_Of.f (wrap64 (a1))).bind fun bt718 => (cobweblaw02_FracRises.j1 kj3 t700 t704 (!(t714 == bt718.1) || (!(t715 == bt718.2))) a0_0 a0_1 a0_2 a0_3 a0_4 a0_5 a0_6 a0_7 t698 t699 t702 t703)) = some r := by rw [if_pos rfl] at H; exact H
        clear H; have H := H1; clear H1
        replace H := Option.bind_eq_some_iff.mp H
        obtain ⟨⟨t718, t719⟩, A660, H⟩ := H
        replace H : (cobweblaw02_FracRises.j1 kj3 t700 t704 (!(t714 == t718) || (!(t715 == t719))) a0_0 a0_1 a0_2 a0_3 a0_4 a0_5 a0_6 a0_7 t698 t699 t702 t703) = some r := H
        have A66 := Aside0.mk A660
        clear A660
        have H' := Aside0.mk H
        clear H
        try go_wp2
        have n0_ : Aside0 (((w61.setCell ⟨gb717, 0, none⟩ (.int .i64 t714)).setCell ⟨gb717, 1, none⟩ (.int .u64 t715)).heap[gb694]? = some (.cells #[.int .i64 a0_0, .int .u64 a0_1, .int .i64 a0_2, .int .u64 a0_3, .int .i64 a0_4, .int .u64 a0_5, .int .i64 a0_6, .int .u64 a0_7] 49 (0, 0))) := ⟨kx BK694⟩
        have n1_ : Aside0 (((w61.setCell ⟨gb717, 0, none⟩ (.int .i64 t714)).setCell ⟨gb717, 1, none⟩ (.int .u64 t715)).heap[gb695]? = some (.cells #[.int .i64 a0_0, .int .u64 a0_1, .int .i64 a0_2, .int .u64 a0_3] 26 (0, 0))) := ⟨kx BK695⟩
        have n2_ : Aside0 (((w61.setCell ⟨gb717, 0, none⟩ (.int .i64 t714)).setCell ⟨gb717, 1, none⟩ (.int .u64 t715)).heap[gb696]? = some (.cells #[.int .i64 a0_4, .int .u64 a0_5, .int .i64 a0_6, .int .u64 a0_7] 26 (0, 0))) := ⟨kx BK696⟩
        have n3_ : Aside0 (((w61.setCell ⟨gb717, 0, none⟩ (.int .i64 t714)).setCell ⟨gb717, 1, none⟩ (.int .u64 t715)).heap[gb701]? = some (.cells #[.int .i64 t698, .int .u64 t699] 24 (0, 0))) := ⟨kx BK701⟩
        have n4_ : Aside0 (((w61.setCell ⟨gb717, 0, none⟩ (.int .i64 t714)).setCell ⟨gb717, 1, none⟩ (.int .u64 t715)).heap[gb705]? = some (.cells #[.int .i64 t702, .int .u64 t703] 24 (0, 0))) := ⟨kx BK705⟩
        have n5_ : Aside0 (((w61.setCell ⟨gb717, 0, none⟩ (.int .i64 t714)).setCell ⟨gb717, 1, none⟩ (.int .u64 t715)).heap[gb711]? = some (.cells #[.int .i64 t708, .int .u64 t709] 24 (0, 0))) := ⟨kx BK711⟩
        have n6_ : Aside0 (((w61.setCell ⟨gb717, 0, none⟩ (.int .i64 t714)).setCell ⟨gb717, 1, none⟩ (.int .u64 t715)).heap[gb717]? = some (.cells #[.int .i64 t714, .int .u64 t715] 24 (0, 0))) := ⟨by (with_reducible repeat (first | refine blk_drewN ?_ _ | refine blk_drew ?_ | refine blk_alloc ?_ _)); refine blk_put (cs := #[.int .i64 t714, .int .u64 0]) ?_ 1 _ rfl; (with_reducible repeat (first | refine blk_drewN ?_ _ | refine blk_drew ?_ | refine blk_alloc ?_ _)); refine blk_put (cs := #[.int .i64 0, .int .u64 0]) ?_ 0 _ rfl; (with_reducible repeat (first | refine blk_drewN ?_ _ | refine blk_drew ?_ | refine blk_alloc ?_ _)); exact BK717.out⟩
        have n7_ : Aside0 (Below w.heap.size w ((w61.setCell ⟨gb717, 0, none⟩ (.int .i64 t714)).setCell ⟨gb717, 1, none⟩ (.int .u64 t715))) := ⟨ky HB⟩
        (try clear BK694); (try clear BK695); (try clear BK696); (try clear BK701); (try clear BK705); (try clear BK711); (try clear BK717); (try clear HB)
        generalize ((w61.setCell ⟨gb717, 0, none⟩ (.int .i64 t714)).setCell ⟨gb717, 1, none⟩ (.int .u64 t715)) = w67 at n0_ n1_ n2_ n3_ n4_ n5_ n6_ n7_ ⊢
        have BK694 := n0_; have BK695 := n1_; have BK696 := n2_; have BK701 := n3_; have BK705 := n4_; have BK711 := n5_; have BK717 := n6_; have HB := n7_
        clear n0_ n1_ n2_ n3_ n4_ n5_ n6_ n7_
        replace BK694 := Aside0.mk (blk_drew BK694.out)
        replace BK695 := Aside0.mk (blk_drew BK695.out)
        replace BK696 := Aside0.mk (blk_drew BK696.out)
        replace BK701 := Aside0.mk (blk_drew BK701.out)
        replace BK705 := Aside0.mk (blk_drew BK705.out)
        replace BK711 := Aside0.mk (blk_drew BK711.out)
        replace BK717 := Aside0.mk (blk_drew BK717.out)
        replace HB := Aside0.mk (below_drew1 HB.out)
        refine start_ (n := 13) (S := fun w' => w'.cell? ⟨gb717, 0, none⟩ = some (.int .i64 t714) ∧ w'.cell? ⟨gb717, 1, none⟩ = some (.int .u64 t715)) (ds := []) #[O, O, O, O, O, O, O, O, O, O, O, O, O] (by kernel_rfl) rfl rfl ⟨kc BK717 0, kc BK717 1⟩ (fun hHeld => ?_); refine with_tabW cobweblaw02_FracRises.tab8 cobweblaw02_FracRises.bits8 (fun HT_ HW_ => ?_)
        generalize w67.drew = w68 at BK694 BK695 BK696 BK701 BK705 BK711 BK717 HB hHeld ⊢
        refine pure_ (i := 0) (N := some 56) (v := ?_) (a' := ?_) #[T, O, O, O, O, O, O, O, O, O, O, O, O] rfl rfl (any_of HT_.out (by kernel_rfl)) (fun _ _ _ h => h) (Or.inl ⟨by rfl, ?_⟩) ?_ ?_; rotate_left; focus (intro w'; go_simp; with_reducible rfl)
        rotate_left; focus (simp only [Act.put, s1, s2, s3, i64_w, i32_w]; rfl)
        refine pure_ (i := 1) (N := some 57) (v := ?_) (a' := ?_) #[T, T, O, O, O, O, O, O, O, O, O, O, O] rfl rfl (any_of HT_.out (by kernel_rfl)) (fun _ _ _ h => h) (Or.inl ⟨by rfl, ?_⟩) ?_ ?_; rotate_left; focus (intro w'; go_simp; with_reducible rfl)
        rotate_left; focus (simp only [Act.put, s1, s2, s3, i64_w, i32_w]; rfl)
        refine pure_ (i := 2) (N := some 58) (v := ?_) (a' := ?_) #[T, T, T, O, O, O, O, O, O, O, O, O, O] rfl rfl (any_of HT_.out (by kernel_rfl)) (fun _ _ _ h => h) (Or.inl ⟨by rfl, ?_⟩) ?_ ?_; rotate_left; focus (intro w'; go_simp; with_reducible rfl)
        rotate_left; focus (simp only [Act.put, s1, s2, s3, i64_w, i32_w]; rfl)
        refine pure_ (i := 3) (N := some 59) (v := ?_) (a' := ?_) #[T, T, T, T, O, O, O, O, O, O, O, O, O] rfl rfl (any_of HT_.out (by kernel_rfl)) (fun _ _ _ h => h) (Or.inl ⟨by rfl, ?_⟩) ?_ ?_; rotate_left; focus (intro w'; go_simp; with_reducible rfl)
        rotate_left; focus (simp only [Act.put, s1, s2, s3, i64_w, i32_w]; rfl)
        refine pure_ (i := 4) (N := some 60) (v := ?_) (a' := ?_) #[T, T, T, T, T, O, O, O, O, O, O, O, O] rfl rfl (any_of HT_.out (by kernel_rfl)) (fun _ _ _ h => h) (Or.inl ⟨by rfl, ?_⟩) ?_ ?_; rotate_left; focus (intro w'; go_simp; with_reducible rfl)
        rotate_left; focus (simp only [Act.put, s1, s2, s3, i64_w, i32_w]; rfl)
        refine pure_ (i := 5) (N := some 61) (v := ?_) (a' := ?_) #[T, T, T, T, T, T, O, O, O, O, O, O, O] rfl rfl (any_of HT_.out (by kernel_rfl)) (fun _ _ _ h => h) (Or.inl ⟨by rfl, ?_⟩) ?_ ?_; rotate_left; focus (intro w'; go_simp; with_reducible rfl)
        rotate_left; focus (simp only [Act.put, s1, s2, s3, i64_w, i32_w]; rfl)
        refine pure_ (i := 6) (N := some 62) (v := ?_) (a' := ?_) #[T, T, T, T, T, T, T, O, O, O, O, O, O] rfl rfl (any_of HT_.out (by kernel_rfl)) (fun _ _ _ h => h) (Or.inl ⟨by rfl, ?_⟩) ?_ ?_; rotate_left; focus (intro w'; go_simp; with_reducible rfl)
        rotate_left; focus (simp only [Act.put, s1, s2, s3, i64_w, i32_w]; rfl)
        refine pure_ (i := 8) (N := some 64) (v := ?_) (a' := ?_) #[T, T, T, T, T, T, T, O, T, O, O, O, O] rfl rfl (any_of HT_.out (by kernel_rfl)) (fun _ _ _ h => h) (Or.inl ⟨by rfl, ?_⟩) ?_ ?_; rotate_left; focus (intro w'; go_simp; with_reducible rfl)
        rotate_left; focus (simp only [Act.put, s1, s2, s3, i64_w, i32_w]; rfl)
        refine pure_ (i := 9) (N := some 65) (v := ?_) (a' := ?_) #[T, T, T, T, T, T, T, O, T, T, O, O, O] rfl rfl (any_of HT_.out (by kernel_rfl)) (fun _ _ _ h => h) (Or.inl ⟨by rfl, ?_⟩) ?_ ?_; rotate_left; focus (intro w'; go_simp; with_reducible rfl)
        rotate_left; focus (simp only [Act.put, s1, s2, s3, i64_w, i32_w]; rfl)
        refine take_ (i := 7) (N := some 63) (v := ?_) (a' := ?_) #[T, T, T, T, T, T, T, T, T, T, O, O, O] rfl rfl (take_ofW HT_.out HW_.out (by kernel_rfl)) (fun _ _ _ h => h) (Or.inl ⟨by rfl, ?_⟩) hHeld ?_ ?_; rotate_left; focus (rintro w' ⟨s0, s1⟩; go_simp; with_reducible rfl)
        rotate_left; focus (simp only [Act.put, s1, s2, s3, i64_w, i32_w]; rfl)
        refine one_ (i := 10) (N := some 66) #[T, T, T, T, T, T, T, T, T, T, T, O, O] rfl rfl (one_of HT_.out (by kernel_rfl)) (by decide) (fun K hK => ?_)
        refine goes_ Try.func24 (by kernel_rfl) rfl #[.int .i64 (wrap64 (a1))] (by rfl) rfl rfl (by (try simp only [List.map_toArray, List.map_cons, List.map_nil]); first | done | rfl | (simp only [List.length_drop, List.length_take]; rfl)) ?_
        with_reducible refine (wide_Of.calls (wrap64 (a1)) t718 t719 _ A66.out).mono ?_
        rintro e w69 ⟨rfl, hb⟩
        refine ⟨_, rfl, ?_⟩
        replace BK694 := kb BK694 hb
        replace BK695 := kb BK695 hb
        replace BK696 := kb BK696 hb
        replace BK701 := kb BK701 hb
        replace BK705 := kb BK705 hb
        replace BK711 := kb BK711 hb
        replace BK717 := kb BK717 hb
        replace HB := kB HB hb
        (try clear hb); (try clear hb2); (try clear hk); (try clear hi)
        refine hK.out _ _ ⟨kc BK717 0, kc BK717 1⟩ (fun hHeld => ?_)
        clear hK K
        refine norm_ (a' := ?_) ?_ ?_; rotate_left; focus (show Act.put _ (some 66) _ = _; simp only [Act.put, s1, s2, s3, i64_w, i32_w]; rfl)
        refine pure_ (i := 11) (N := some 67) (v := ?_) (a' := ?_) #[T, T, T, T, T, T, T, T, T, T, T, T, O] rfl rfl (any_of HT_.out (by kernel_rfl)) (fun _ _ _ h => h) (Or.inl ⟨by rfl, ?_⟩) ?_ ?_; rotate_left; focus (intro w'; go_simp; with_reducible rfl)
        rotate_left; focus (simp only [Act.put, s1, s2, s3, i64_w, i32_w]; rfl)
        refine pure_ (i := 12) (N := some 68) (v := ?_) (a' := ?_) #[T, T, T, T, T, T, T, T, T, T, T, T, T] rfl rfl (any_of HT_.out (by kernel_rfl)) (fun _ _ _ h => h) (Or.inl ⟨by rfl, ?_⟩) ?_ ?_; rotate_left; focus (intro w'; go_simp; with_reducible rfl)
        rotate_left; focus (simp only [Act.put, s1, s2, s3, i64_w, i32_w]; rfl)
        refine done_ (done_of HT_.out (by kernel_rfl)) ?_
        try go_wp2
        go_meet
        case rel => exact ⟨_, ((!(t714 == t718) || (!(t715 == t719)))), (by first | rfl | (simp; done) | (simp [*]; done)), H', ⟨by have := HJ3.out; first | omega | exact Nat.le_refl _⟩, ⟨kx BK694⟩, ⟨kx BK695⟩, ⟨kx BK696⟩, ⟨kx BK701⟩, ⟨kx BK705⟩, ⟨kx BK711⟩, ⟨kx BK717⟩, ⟨ky HB⟩⟩
      case rest =>
        clear HC28; try clear c2; try clear p2; try clear c6; try clear p6; try clear c24; try clear c64; try clear p64; try clear c65
        obtain ⟨kq, x68_27, rfl, HA, HJ27, BK694, BK695, BK696, BK701, BK705, BK711, BK717, HB⟩ := hcut
        cases kq with
        | zero => exact absurd HA.out (by simp [cobweblaw02_FracRises.j1])
        | succ kj27 =>
          have H := HA.out; clear HA
          simp only [cobweblaw02_FracRises.j1] at H
          by_cases c74 : x68_27 = true
          · subst c74
            have H1 : (some false) = some r := by rw [if_pos rfl] at H; exact H
            clear H; have H := H1; clear H1
            obtain rfl := Option.some.inj H
            go_wp2
            go_ret
            exact ⟨by first | rfl | (simp [errW_none, errW_some] <;> rfl) | (simp [*, errW_none, errW_some] <;> rfl), ky HB⟩
          replace c74 := Bool.eq_false_iff.mpr c74
          subst c74
          have H1 : ((cobweblaw02_alive.f kj27).bind fun t720 => (if t720 = true then (if t700 = true then (if t704 = true then ((frac_Cmp.f kj27 a0_0 a0_1 a0_2 a0_3 a0_4 a0_5 a0_6 a0_7).bind fun t721 => (if t721 > 0 then (some true) else ((wide_Cmp.f kj27 t698 t699 t702 t703).bind fun t722 => (some (decide (t722 ≤ 0)))))) else (some true)) else (some true)) else (none))) = some r := by rw [if_neg (show ¬ (false = true) by decide)] at H; exact H
          clear H; have H := H1; clear H1
          replace H := Option.bind_eq_some_iff.mp H
          obtain ⟨t720, A750, H⟩ := H
          replace H : (if t720 = true then (if t700 = true then (if t704 = true then ((frac_Cmp.f kj27 a0_0 a0_1 a0_2 a0_3 a0_4 a0_5 a0_6 a0_7).bind fun t721 => (if t721 > 0 then (some true) else ((wide_Cmp.f kj27 t698 t699 t702 t703).bind fun t722 => (some (decide (t722 ≤ 0)))))) else (some true)) else (some true)) else (none)) = some r := H
          have A75 := Aside0.mk A750
          clear A750
          by_cases c76 : t720 = true
          rotate_left
          · replace c76 := Bool.eq_false_iff.mpr c76
            subst c76
            have H1 : (none) = some r := by rw [if_neg (show ¬ (false = true) by decide)] at H; exact H
            clear H; have H := H1; clear H1
            exact absurd H (by simp)

          subst c76
          have H1 : (if t700 = true then (if t704 = true then ((frac_Cmp.f kj27 a0_0 a0_1 a0_2 a0_3 a0_4 a0_5 a0_6 a0_7).bind fun t721 => (if t721 > 0 then (some true) else ((wide_Cmp.f kj27 t698 t699 t702 t703).bind fun t722 => (some (decide (t722 ≤ 0)))))) else (some true)) else (some true)) = some r := by rw [if_pos rfl] at H; exact H
          clear H; have H := H1; clear H1
          by_cases c77 : t700 = true
          rotate_left
          · replace c77 := Bool.eq_false_iff.mpr c77
            subst c77
            have H1 : (some true) = some r := by rw [if_neg (show ¬ (false = true) by decide)] at H; exact H
            clear H; have H := H1; clear H1
            obtain rfl := Option.some.inj H
            go_wp2_with (first | ((with_reducible refine gate_callee (f := 16) rfl ?_); refine goesL_ (some 69) rfl rfl Try.func16 (by kernel_rfl) rfl #[] rfl (by (try simp only [List.map_toArray, List.map_cons, List.map_nil]); first | done | rfl | (simp only [List.length_drop, List.length_take]; rfl)) ?_; (with_reducible refine (cobweblaw02_alive.calls kj27  true _ A75.out).mono ?_); rintro e w123 ⟨rfl, hb⟩; refine ⟨_, rfl, ?_⟩; replace BK694 := kb BK694 hb; replace BK695 := kb BK695 hb; replace BK696 := kb BK696 hb; replace BK701 := kb BK701 hb; replace BK705 := kb BK705 hb; replace BK711 := kb BK711 hb; replace BK717 := kb BK717 hb; replace HB := kB HB hb; (try clear hb); (try clear hb2); (try clear hk); (try clear hi)))
            go_ret
            exact ⟨by first | rfl | (simp [errW_none, errW_some] <;> rfl) | (simp [*, errW_none, errW_some] <;> rfl), ky HB⟩
          subst c77
          have H1 : (if t704 = true then ((frac_Cmp.f kj27 a0_0 a0_1 a0_2 a0_3 a0_4 a0_5 a0_6 a0_7).bind fun t721 => (if t721 > 0 then (some true) else ((wide_Cmp.f kj27 t698 t699 t702 t703).bind fun t722 => (some (decide (t722 ≤ 0)))))) else (some true)) = some r := by rw [if_pos rfl] at H; exact H
          clear H; have H := H1; clear H1
          by_cases c78 : t704 = true
          rotate_left
          · replace c78 := Bool.eq_false_iff.mpr c78
            subst c78
            have H1 : (some true) = some r := by rw [if_neg (show ¬ (false = true) by decide)] at H; exact H
            clear H; have H := H1; clear H1
            obtain rfl := Option.some.inj H
            go_wp2_with (first | ((with_reducible refine gate_callee (f := 16) rfl ?_); refine goesL_ (some 69) rfl rfl Try.func16 (by kernel_rfl) rfl #[] rfl (by (try simp only [List.map_toArray, List.map_cons, List.map_nil]); first | done | rfl | (simp only [List.length_drop, List.length_take]; rfl)) ?_; (with_reducible refine (cobweblaw02_alive.calls kj27  true _ A75.out).mono ?_); rintro e w122 ⟨rfl, hb⟩; refine ⟨_, rfl, ?_⟩; replace BK694 := kb BK694 hb; replace BK695 := kb BK695 hb; replace BK696 := kb BK696 hb; replace BK701 := kb BK701 hb; replace BK705 := kb BK705 hb; replace BK711 := kb BK711 hb; replace BK717 := kb BK717 hb; replace HB := kB HB hb; (try clear hb); (try clear hb2); (try clear hk); (try clear hi)))
            go_ret
            exact ⟨by first | rfl | (simp [errW_none, errW_some] <;> rfl) | (simp [*, errW_none, errW_some] <;> rfl), ky HB⟩
          subst c78
          have H1 : ((frac_Cmp.f kj27 a0_0 a0_1 a0_2 a0_3 a0_4 a0_5 a0_6 a0_7).bind fun t721 => (if t721 > 0 then (some true) else ((wide_Cmp.f kj27 t698 t699 t702 t703).bind fun t722 => (some (decide (t722 ≤ 0)))))) = some r := by rw [if_pos rfl] at H; exact H
          clear H; have H := H1; clear H1
          replace H := Option.bind_eq_some_iff.mp H
          obtain ⟨t721, A790, H⟩ := H
          replace H : (if t721 > 0 then (some true) else ((wide_Cmp.f kj27 t698 t699 t702 t703).bind fun t722 => (some (decide (t722 ≤ 0))))) = some r := H
          have A79 := Aside0.mk A790
          clear A790
          by_cases c80 : t721 > 0
          · rw [if_pos c80] at H
            have c80b0 : decide (0 < t721) = true := decide_eq_true c80
            clear c80
            obtain rfl := Option.some.inj H
            go_wp2_with (first | ((with_reducible refine gate_callee (f := 16) rfl ?_); refine goesL_ (some 69) rfl rfl Try.func16 (by kernel_rfl) rfl #[] rfl (by (try simp only [List.map_toArray, List.map_cons, List.map_nil]); first | done | rfl | (simp only [List.length_drop, List.length_take]; rfl)) ?_; (with_reducible refine (cobweblaw02_alive.calls kj27  true _ A75.out).mono ?_); rintro e w81 ⟨rfl, hb⟩; refine ⟨_, rfl, ?_⟩; replace BK694 := kb BK694 hb; replace BK695 := kb BK695 hb; replace BK696 := kb BK696 hb; replace BK701 := kb BK701 hb; replace BK705 := kb BK705 hb; replace BK711 := kb BK711 hb; replace BK717 := kb BK717 hb; replace HB := kB HB hb; (try clear hb); (try clear hb2); (try clear hk); (try clear hi); have hnb82 := NB695_694.out; have hnc82 := NB694_695.out; have hnb83 := NB695_696.out; have hnc83 := NB696_695.out; have hnb84 := NB695_701.out; have hnc84 := NB701_695.out; have hnb85 := NB695_705.out; have hnc85 := NB705_695.out; have hnb86 := NB695_711.out; have hnc86 := NB711_695.out; have hnb87 := NB695_717.out; have hnc87 := NB717_695.out; have hcz88_0 : w81.cell? ⟨gb695, 0, none⟩ = some (.int .i64 a0_0) := kc BK695 0; have hcz88_1 : w81.cell? ⟨gb695, 1, none⟩ = some (.int .u64 a0_1) := kc BK695 1; have hcz88_2 : w81.cell? ⟨gb695, 2, none⟩ = some (.int .i64 a0_2) := kc BK695 2; have hcz88_3 : w81.cell? ⟨gb695, 3, none⟩ = some (.int .u64 a0_3) := kc BK695 3; have hfz88_0 := blk_frozen BK695.out 0; have hfz88_1 := blk_frozen BK695.out 1; have hfz88_2 := blk_frozen BK695.out 2; have hfz88_3 := blk_frozen BK695.out 3; have hnb89 := NB696_694.out; have hnc89 := NB694_696.out; have hnb90 := NB696_701.out; have hnc90 := NB701_696.out; have hnb91 := NB696_705.out; have hnc91 := NB705_696.out; have hnb92 := NB696_711.out; have hnc92 := NB711_696.out; have hnb93 := NB696_717.out; have hnc93 := NB717_696.out; have hcz94_0 : w81.cell? ⟨gb696, 0, none⟩ = some (.int .i64 a0_4) := kc BK696 0; have hcz94_1 : w81.cell? ⟨gb696, 1, none⟩ = some (.int .u64 a0_5) := kc BK696 1; have hcz94_2 : w81.cell? ⟨gb696, 2, none⟩ = some (.int .i64 a0_6) := kc BK696 2; have hcz94_3 : w81.cell? ⟨gb696, 3, none⟩ = some (.int .u64 a0_7) := kc BK696 3; have hfz94_0 := blk_frozen BK696.out 0; have hfz94_1 := blk_frozen BK696.out 1; have hfz94_2 := blk_frozen BK696.out 2; have hfz94_3 := blk_frozen BK696.out 3) | (go_at_call 14; (with_reducible refine (frac_Cmp.calls kj27 a0_0 a0_1 a0_2 a0_3 a0_4 a0_5 a0_6 a0_7 t721 _ A79.out).mono ?_); rintro e w95 ⟨rfl, hb⟩; replace BK694 := kb BK694 hb; replace BK695 := kb BK695 hb; replace BK696 := kb BK696 hb; replace BK701 := kb BK701 hb; replace BK705 := kb BK705 hb; replace BK711 := kb BK711 hb; replace BK717 := kb BK717 hb; replace HB := kB HB hb; (try clear hb); (try clear hb2); (try clear hk); (try clear hi)))
            go_ret
            exact ⟨by first | rfl | (simp [errW_none, errW_some] <;> rfl) | (simp [*, errW_none, errW_some] <;> rfl), ky HB⟩
          rw [if_neg c80] at H
          have c80b0 : decide (0 < t721) = false := decide_eq_false c80
          clear c80
          replace H := Option.bind_eq_some_iff.mp H
          obtain ⟨t722, A960, H⟩ := H
          replace H : (some (decide (t722 ≤ 0))) = some r := H
          have A96 := Aside0.mk A960
          clear A960
          obtain rfl := Option.some.inj H
          go_wp2_with (first | ((with_reducible refine gate_callee (f := 16) rfl ?_); refine goesL_ (some 69) rfl rfl Try.func16 (by kernel_rfl) rfl #[] rfl (by (try simp only [List.map_toArray, List.map_cons, List.map_nil]); first | done | rfl | (simp only [List.length_drop, List.length_take]; rfl)) ?_; (with_reducible refine (cobweblaw02_alive.calls kj27  true _ A75.out).mono ?_); rintro e w97 ⟨rfl, hb⟩; refine ⟨_, rfl, ?_⟩; replace BK694 := kb BK694 hb; replace BK695 := kb BK695 hb; replace BK696 := kb BK696 hb; replace BK701 := kb BK701 hb; replace BK705 := kb BK705 hb; replace BK711 := kb BK711 hb; replace BK717 := kb BK717 hb; replace HB := kB HB hb; (try clear hb); (try clear hb2); (try clear hk); (try clear hi); have hnb98 := NB695_694.out; have hnc98 := NB694_695.out; have hnb99 := NB695_696.out; have hnc99 := NB696_695.out; have hnb100 := NB695_701.out; have hnc100 := NB701_695.out; have hnb101 := NB695_705.out; have hnc101 := NB705_695.out; have hnb102 := NB695_711.out; have hnc102 := NB711_695.out; have hnb103 := NB695_717.out; have hnc103 := NB717_695.out; have hcz104_0 : w97.cell? ⟨gb695, 0, none⟩ = some (.int .i64 a0_0) := kc BK695 0; have hcz104_1 : w97.cell? ⟨gb695, 1, none⟩ = some (.int .u64 a0_1) := kc BK695 1; have hcz104_2 : w97.cell? ⟨gb695, 2, none⟩ = some (.int .i64 a0_2) := kc BK695 2; have hcz104_3 : w97.cell? ⟨gb695, 3, none⟩ = some (.int .u64 a0_3) := kc BK695 3; have hfz104_0 := blk_frozen BK695.out 0; have hfz104_1 := blk_frozen BK695.out 1; have hfz104_2 := blk_frozen BK695.out 2; have hfz104_3 := blk_frozen BK695.out 3; have hnb105 := NB696_694.out; have hnc105 := NB694_696.out; have hnb106 := NB696_701.out; have hnc106 := NB701_696.out; have hnb107 := NB696_705.out; have hnc107 := NB705_696.out; have hnb108 := NB696_711.out; have hnc108 := NB711_696.out; have hnb109 := NB696_717.out; have hnc109 := NB717_696.out; have hcz110_0 : w97.cell? ⟨gb696, 0, none⟩ = some (.int .i64 a0_4) := kc BK696 0; have hcz110_1 : w97.cell? ⟨gb696, 1, none⟩ = some (.int .u64 a0_5) := kc BK696 1; have hcz110_2 : w97.cell? ⟨gb696, 2, none⟩ = some (.int .i64 a0_6) := kc BK696 2; have hcz110_3 : w97.cell? ⟨gb696, 3, none⟩ = some (.int .u64 a0_7) := kc BK696 3; have hfz110_0 := blk_frozen BK696.out 0; have hfz110_1 := blk_frozen BK696.out 1; have hfz110_2 := blk_frozen BK696.out 2; have hfz110_3 := blk_frozen BK696.out 3) | (go_at_call 14; (with_reducible refine (frac_Cmp.calls kj27 a0_0 a0_1 a0_2 a0_3 a0_4 a0_5 a0_6 a0_7 t721 _ A79.out).mono ?_); rintro e w111 ⟨rfl, hb⟩; replace BK694 := kb BK694 hb; replace BK695 := kb BK695 hb; replace BK696 := kb BK696 hb; replace BK701 := kb BK701 hb; replace BK705 := kb BK705 hb; replace BK711 := kb BK711 hb; replace BK717 := kb BK717 hb; replace HB := kB HB hb; (try clear hb); (try clear hb2); (try clear hk); (try clear hi); have hnb112 := NB701_694.out; have hnc112 := NB694_701.out; have hnb113 := NB701_705.out; have hnc113 := NB705_701.out; have hnb114 := NB701_711.out; have hnc114 := NB711_701.out; have hnb115 := NB701_717.out; have hnc115 := NB717_701.out; have hcz116_0 : w111.cell? ⟨gb701, 0, none⟩ = some (.int .i64 t698) := kc BK701 0; have hcz116_1 : w111.cell? ⟨gb701, 1, none⟩ = some (.int .u64 t699) := kc BK701 1; have hfz116_0 := blk_frozen BK701.out 0; have hfz116_1 := blk_frozen BK701.out 1; have hnb117 := NB705_694.out; have hnc117 := NB694_705.out; have hnb118 := NB705_711.out; have hnc118 := NB711_705.out; have hnb119 := NB705_717.out; have hnc119 := NB717_705.out; have hcz120_0 : w111.cell? ⟨gb705, 0, none⟩ = some (.int .i64 t702) := kc BK705 0; have hcz120_1 : w111.cell? ⟨gb705, 1, none⟩ = some (.int .u64 t703) := kc BK705 1; have hfz120_0 := blk_frozen BK705.out 0; have hfz120_1 := blk_frozen BK705.out 1) | (go_at_call 29; (with_reducible refine (wide_Cmp.calls kj27 t698 t699 t702 t703 t722 _ A96.out).mono ?_); rintro e w121 ⟨rfl, hb⟩; replace BK694 := kb BK694 hb; replace BK695 := kb BK695 hb; replace BK696 := kb BK696 hb; replace BK701 := kb BK701 hb; replace BK705 := kb BK705 hb; replace BK711 := kb BK711 hb; replace BK717 := kb BK717 hb; replace HB := kB HB hb; (try clear hb); (try clear hb2); (try clear hk); (try clear hi)))
          go_ret
          exact ⟨by first | rfl | (simp [errW_none, errW_some] <;> rfl) | (simp [*, errW_none, errW_some] <;> rfl), ky HB⟩
end Go.Proofs.Ytpjbniihdndlmab.Q
