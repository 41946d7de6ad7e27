-- Printed by wip/pp.sh (a session's own turning of the kit's print) for this seat.
import Derived.Test.YtpjbniihdndlmaaQx0
import Derived.Test.YtpjbniihdndlmaaQx10
import Derived.Test.YtpjbniihdndlmaaQx13
namespace Go.Proofs.Ytpjbniihdndlmaa.Q
open Go.RowKit Go.Proofs.YtpjbniihdndlmaaW.PrintWords Go.Proofs.YtpjbniihdndlmaaW.PrintLast Go.Proofs.YtpjbniihdndlmaaW.PrintMore
open Go.Proofs.Ytpjbniihdndlmaa.H
attribute [local go_sem] hq_add64 hq_sub64 hq_not64 add64c_nn sub64c_nn sub64c_le
attribute [local go_sem] max2_int min2_int max_two min_two max_three min_three max_four min_four   -- for this text's walks alone
set_option linter.unusedVariables false
set_option linter.unusedSimpArgs false

/-! ### cobwebref01_Text: function 38 -/
mutual
def cobwebref01_Text.l0 : Nat → ByteArray → Int → Bool → List Int → Option (ByteArray)
 | 0, _, _, _, _ => none
 | k + 1, x3, x4, x850000, x850001 => if x4 < (x850001.length : Int) then (if 0 ≤ x4 then (cobwebref01_Text.l1 k x3 x4 (rd x850001 x4) 0 x850000 x850001) else (none)) else (if x850000 = true then (if 1 + x3.size ≤ 9223372036854775807 then (some ((⟨#[45]⟩ : ByteArray) ++ x3)) else (none)) else (some x3))
def cobwebref01_Text.l1 : Nat → ByteArray → Int → Int → Int → Bool → List Int → Option (ByteArray)
 | 0, _, _, _, _, _, _ => none
 | k + 1, x3, x4, x5, x6, x850000, x850001 => if x6 < 4 then (if (wrap64 (x4 + 1)) < (x850001.length : Int) then ((some (([(wrap64 (48 + (Int.tmod x5 10))) % 256] : List Int) : List Int)).bind fun y851 => (if (strOfNums y851).size + x3.size ≤ 9223372036854775807 then (cobwebref01_Text.l1 k ((strOfNums y851) ++ x3) x4 (wrap64 (Int.tdiv x5 10)) (wrap64 (x6 + 1)) x850000 x850001) else (none))) else (if x5 > 0 then ((some (([(wrap64 (48 + (Int.tmod x5 10))) % 256] : List Int) : List Int)).bind fun y854 => (if (strOfNums y854).size + x3.size ≤ 9223372036854775807 then (cobwebref01_Text.l1 k ((strOfNums y854) ++ x3) x4 (wrap64 (Int.tdiv x5 10)) (wrap64 (x6 + 1)) x850000 x850001) else (none))) else (cobwebref01_Text.l0 k x3 (wrap64 (x4 + 1)) x850000 x850001))) else (cobwebref01_Text.l0 k x3 (wrap64 (x4 + 1)) x850000 x850001)
end
def cobwebref01_Text.f (k : Nat) (a0_0 : Bool) (l0_1 : List Int) : Option (ByteArray) := if (l0_1.length : Int) = 0 then (some (⟨#[48]⟩ : ByteArray)) else (cobwebref01_Text.l0 k (⟨#[]⟩ : ByteArray) 0 a0_0 l0_1)
theorem cobwebref01_Text.mono_l : ∀ k, (∀ y0 y1 y2 y3, LeO (cobwebref01_Text.l0 k y0 y1 y2 y3) (cobwebref01_Text.l0 (k + 1) y0 y1 y2 y3)) ∧ (∀ y0 y1 y2 y3 y4 y5, LeO (cobwebref01_Text.l1 k y0 y1 y2 y3 y4 y5) (cobwebref01_Text.l1 (k + 1) y0 y1 y2 y3 y4 y5))
 | 0 => ⟨fun _ _ _ _ r h => by simp [cobwebref01_Text.l0] at h, fun _ _ _ _ _ _ r h => by simp [cobwebref01_Text.l1] at h⟩
 | k + 1 => by
  obtain ⟨ih0, ih1⟩ := cobwebref01_Text.mono_l k; refine ⟨?_, ?_⟩
  ·intro y0 y1 y2 y3
   unfold cobwebref01_Text.l0
   repeat' first
   | (with_reducible exact ih0 _ _ _ _)
   | (with_reducible exact ih1 _ _ _ _ _ _)
   | (with_reducible exact LeO.refl _)
   | (with_reducible exact LeO.none _)
   | (with_reducible refine LeO.ite ?_ ?_)
   | (with_reducible refine LeO.bind ?_ (fun _ => ?_))
   | exact ih0 _ _ _ _
   | exact ih1 _ _ _ _ _ _
   | exact LeO.none _
   | refine LeO.ite ?_ ?_
   | refine LeO.bind ?_ (fun _ => ?_)
  ·intro y0 y1 y2 y3 y4 y5
   unfold cobwebref01_Text.l1
   repeat' first
   | (with_reducible exact ih0 _ _ _ _)
   | (with_reducible exact ih1 _ _ _ _ _ _)
   | (with_reducible exact LeO.refl _)
   | (with_reducible exact LeO.none _)
   | (with_reducible refine LeO.ite ?_ ?_)
   | (with_reducible refine LeO.bind ?_ (fun _ => ?_))
   | exact ih0 _ _ _ _
   | exact ih1 _ _ _ _ _ _
   | exact LeO.none _
   | refine LeO.ite ?_ ?_
   | refine LeO.bind ?_ (fun _ => ?_)
theorem cobwebref01_Text.mono : ∀ a0 a1 k, LeO (cobwebref01_Text.f k a0 a1) (cobwebref01_Text.f (k + 1) a0 a1) := by
 intro a0 a1 k; obtain ⟨ih0, ih1⟩ := cobwebref01_Text.mono_l k
 unfold cobwebref01_Text.f
 repeat' first
   | (with_reducible exact ih0 _ _ _ _)
   | (with_reducible exact ih1 _ _ _ _ _ _)
   | (with_reducible exact LeO.refl _)
   | (with_reducible exact LeO.none _)
   | (with_reducible refine LeO.ite ?_ ?_)
   | (with_reducible refine LeO.bind ?_ (fun _ => ?_))
   | exact ih0 _ _ _ _
   | exact ih1 _ _ _ _ _ _
   | exact LeO.none _
   | refine LeO.ite ?_ ?_
   | refine LeO.bind ?_ (fun _ => ?_)
set_option maxHeartbeats 8000000 in
set_option maxRecDepth 100000 in
theorem cobwebref01_Text.calls (k : Nat) (a0_0 : Bool) (A0_1 : Option Addr) (c0_1 : Nat) (l0_1 : List Int) (r : ByteArray) (w : World) (hr0_1 : Kd.C (Kd.int .i64) w A0_1 l0_1.length l0_1) (hc0_1 : l0_1.length ≤ c0_1) (h : cobwebref01_Text.f k a0_0 l0_1 = some r) :
  Calls Try.prog 38 #[.agg #[.bool a0_0, .slice A0_1 l0_1.length c0_1]] w fun e w' => e = .returned (.string r) ∧ Below w.heap.size w w' := by
 have hu32 := Try.underlying32; have HR0_1 := Aside0.mk hr0_1; have HC0_1 := Aside0.mk hc0_1; clear hr0_1 hc0_1; have HB := Aside0.mk (Below.refl w.heap.size w); have H : (if (l0_1.length : Int) = 0 then (some (⟨#[48]⟩ : ByteArray)) else (cobwebref01_Text.l0 k (⟨#[]⟩ : ByteArray) 0 a0_0 l0_1)) = some r := h; clear h
 by_cases c2 : (l0_1.length : Int) = 0
 ·rw [if_pos c2] at H
  have c2b0 : ((l0_1.length : Int) == 0) = true := beq_iff_eq.mpr c2; have c2b1 : ((l0_1.length : Int) != 0) = false := bne_eq_false_iff_eq.mpr c2; clear c2; obtain rfl := Option.some.inj H
  go_enter Try.func38, Try.ntmps38
  go_wp2_with (first | ((with_reducible refine gate_dst (N := 1) rfl ?_); refine box_event ?hg (N := 1) ?hd (cs := #[.bool a0_0, .slice A0_1 l0_1.length c0_1]) (t := 32) ?hr ?_; (case hd => rfl); (case hg => rfl); (case hr => first | (go_simp; done) | (go_simp; rfl)); intro gb849 hg w3 hbox hb; have BK849 := Aside0.mk (hbox); have GW849 := kS HB hg; have GE849 := kS HB hg; replace HB := kB HB hb; clear hb hbox hg; have hcz4_0 : w3.cell? ⟨gb849, 0, none⟩ = some (.bool a0_0) := kc BK849 0; have hcz4_1 : w3.cell? ⟨gb849, 1, none⟩ = some (.slice A0_1 l0_1.length c0_1) := kc BK849 1; have hfz4_0 := blk_frozen BK849.out 0; have hfz4_1 := blk_frozen BK849.out 1))
  go_ret
  exact ⟨by first | rfl | (simp [errW_none, errW_some] <;> rfl) | (simp [*, errW_none, errW_some] <;> rfl), ky HB⟩
 rw [if_neg c2] at H
 have c2b0 : ((l0_1.length : Int) == 0) = false := beq_eq_false_iff_ne.mpr c2; have c2b1 : ((l0_1.length : Int) != 0) = true := bne_iff_ne.mpr c2
 have c2b2 : ¬ (l0_1 = []) := fun h_ => c2 (by rw [h_]; rfl)
 have H' := Aside0.mk H; clear H
 go_enter Try.func38, Try.ntmps38
 go_wp2_with (first | ((with_reducible refine gate_dst (N := 1) rfl ?_); refine box_event ?hg (N := 1) ?hd (cs := #[.bool a0_0, .slice A0_1 l0_1.length c0_1]) (t := 32) ?hr ?_; (case hd => rfl); (case hg => rfl); (case hr => first | (go_simp; done) | (go_simp; rfl)); intro gb849 hg w5 hbox hb; have BK849 := Aside0.mk (hbox); have GW849 := kS HB hg; have GE849 := kS HB hg; replace HB := kB HB hb; clear hb hbox hg; have hcz6_0 : w5.cell? ⟨gb849, 0, none⟩ = some (.bool a0_0) := kc BK849 0; have hcz6_1 : w5.cell? ⟨gb849, 1, none⟩ = some (.slice A0_1 l0_1.length c0_1) := kc BK849 1; have hfz6_0 := blk_frozen BK849.out 0; have hfz6_1 := blk_frozen BK849.out 1))
 go_loopg [3, 4] k (fun kq v3 v4 w' => ∃ (x3_1 : ByteArray) (x4_1 : Int), v3 = .string x3_1 ∧ v4 = .int .i64 x4_1 ∧ Aside0 (cobwebref01_Text.l0 kq x3_1 x4_1 a0_0 l0_1 = some r) ∧ Aside0 (kq ≤ k) ∧ Aside0 (w'.heap[gb849]? = some (.cells #[.bool a0_0, (.slice A0_1 l0_1.length c0_1)] 32 (0, 0))) ∧ Aside0 (Below w.heap.size w w'))
 case atStart => exact ⟨((⟨#[]⟩ : ByteArray)), (0), (by first | rfl | (simp; done) | (simp [*]; done)), (by first | rfl | (simp; done) | (simp [*]; done)), H', ⟨Nat.le_refl _⟩, ⟨kx BK849⟩, ⟨ky HB⟩⟩
 case round =>
  clear H'
  try clear c2; try clear c2b0; try clear c2b1; try clear c2b2; try clear p2; try clear c3; try clear hcz4_0; try clear hcz4_1; try clear hcz6_0; try clear hcz6_1; try clear hfz4_0; try clear hfz4_1; try clear hfz6_0; try clear hfz6_1
  obtain ⟨x3_1, x4_1, rfl, rfl, HA, HK1, BK849, HB⟩ := hrel
  cases gk with
  | zero => exact absurd HA.out (by simp [cobwebref01_Text.l0])
  | succ k1 =>
   have H := HA.out; clear HA
   simp only [cobwebref01_Text.l0] at H
   by_cases c7 : x4_1 < (l0_1.length : Int)
   rotate_left
   ·rw [if_neg c7] at H
    have c7b0 : decide (x4_1 < (l0_1.length : Int)) = false := decide_eq_false c7; clear c7
    by_cases c24 : a0_0 = true
    rotate_left
    ·replace c24 := Bool.eq_false_iff.mpr c24; subst c24
     have H1 : (some x3_1) = some r := by rw [if_neg (show ¬ (false = true) by decide)] at H; exact H
     clear H; have H := H1; clear H1; obtain rfl := Option.some.inj H; obtain ⟨hcz27_0, hcz27_1⟩ := kc2 BK849; obtain ⟨hfz27_0, hfz27_1⟩ := kf2 BK849
     go_wp2
     go_ret
     exact ⟨by first | rfl | (simp [errW_none, errW_some] <;> rfl) | (simp [*, errW_none, errW_some] <;> rfl), ky HB⟩

    subst c24
    have H1 : (if 1 + x3_1.size ≤ 9223372036854775807 then (some ((⟨#[45]⟩ : ByteArray) ++ x3_1)) else (none)) = some r := by rw [if_pos rfl] at H; exact H
    clear H; have H := H1; clear H1
    by_cases c25 : 1 + x3_1.size ≤ 9223372036854775807
    rotate_left
    ·rw [if_neg c25] at H
     exact absurd H (by simp)
    rw [if_pos c25] at H
    have c25b0 := eq_true c25; have c25b1 : decide (1 + x3_1.size ≤ 9223372036854775807) = true := decide_eq_true c25
    try have c25b2 : (9223372036854775807 < 1 + x3_1.size) = False := eq_false (Nat.not_lt.2 c25)
    obtain rfl := Option.some.inj H; obtain ⟨hcz26_0, hcz26_1⟩ := kc2 BK849; obtain ⟨hfz26_0, hfz26_1⟩ := kf2 BK849
    go_wp2
    go_ret
    exact ⟨by first | rfl | (simp [errW_none, errW_some] <;> rfl) | (simp [*, errW_none, errW_some] <;> rfl), ky HB⟩
   rw [if_pos c7] at H
   have c7b0 : decide (x4_1 < (l0_1.length : Int)) = true := decide_eq_true c7; clear c7
   by_cases c8 : 0 ≤ x4_1
   rotate_left
   ·rw [if_neg c8] at H
    exact absurd H (by simp)
   rw [if_pos c8] at H
   have c8b0 : decide (0 ≤ x4_1) = true := decide_eq_true c8; clear c8; have H' := Aside0.mk H; clear H; obtain ⟨hcz9_0, hcz9_1⟩ := kc2 BK849; obtain ⟨hfz9_0, hfz9_1⟩ := kf2 BK849; have p850 : 0 ≤ (x4_1 : Int) := of_decide_eq_true (by first | (with_reducible assumption) | assumption); have q850 : x4_1 < (l0_1.length : Int) := of_decide_eq_true (by first | (with_reducible assumption) | assumption); obtain ⟨ad850, e850, hx850_0⟩ := Kd.at_int HR0_1.out x4_1 p850 q850
   cases e850
   replace hx850_0 := (HB.out.cell (World.block_lt_of_cell? w _ hx850_0)).trans hx850_0; replace p850 := eq_true p850; replace q850 := eq_true q850
   go_wp2
   go_loopg [3, 5, 6] k1 (fun kq v3 v5 v6 w' => ∃ (x3_2 : ByteArray) (x5_2 : Int) (x6_2 : Int), v3 = .string x3_2 ∧ v5 = .int .i64 x5_2 ∧ v6 = .int .i64 x6_2 ∧ Aside0 (cobwebref01_Text.l1 kq x3_2 x4_1 x5_2 x6_2 a0_0 l0_1 = some r) ∧ Aside0 (kq ≤ k1) ∧ Aside0 (w'.heap[gb849]? = some (.cells #[.bool a0_0, (.slice (some ad850) l0_1.length c0_1)] 32 (0, 0))) ∧ Aside0 (Below w.heap.size w w'))
   case atStart => exact ⟨(x3_1), (rd l0_1 x4_1), (0), (by first | rfl | (simp; done) | (simp [*]; done)), (by first | rfl | (simp; done) | (simp [*]; done)), (by first | rfl | (simp; done) | (simp [*]; done)), H', ⟨Nat.le_refl _⟩, ⟨kx BK849⟩, ⟨ky HB⟩⟩
   case round =>
    clear H'
    try clear c2; try clear c2b0; try clear c2b1; try clear c2b2; try clear p2; try clear c3; try clear c7; try clear c7b0; try clear c8; try clear c8b0; try clear p8; try clear q8; try clear hx8; try clear hcz4_0; try clear hcz4_1; try clear hcz6_0; try clear hcz6_1; try clear hcz9_0; try clear hcz9_1; try clear hfz4_0; try clear hfz4_1; try clear hfz6_0; try clear hfz6_1; try clear hfz9_0; try clear hfz9_1; try clear hx850_0; try clear p2; try clear p850; try clear q850
    obtain ⟨x3_2, x5_2, x6_2, rfl, rfl, rfl, HA, HK2, BK849, HB⟩ := hrel
    cases gk with
    | zero => exact absurd HA.out (by simp [cobwebref01_Text.l1])
    | succ k2 =>
     have H := HA.out; clear HA
     simp only [cobwebref01_Text.l1] at H
     by_cases c10 : x6_2 < 4
     rotate_left
     ·rw [if_neg c10] at H
      have c10b0 : decide (x6_2 < 4) = false := decide_eq_false c10; clear c10; have H' := Aside0.mk H; clear H
      go_wp2
      go_roundg k2
      case measure => have := HK1.out; have := HK2.out; omega
      case rel => exact ⟨(x3_2), (wrap64 (x4_1 + 1)), (by first | rfl | (simp; done) | (simp [*]; done)), (by first | rfl | (simp; done) | (simp [*]; done)), H', ⟨by have := HK1.out; have := HK2.out; omega⟩, ⟨kx BK849⟩, ⟨ky HB⟩⟩
     rw [if_pos c10] at H
     have c10b0 : decide (x6_2 < 4) = true := decide_eq_true c10; clear c10
     by_cases c11 : (wrap64 (x4_1 + 1)) < (l0_1.length : Int)
     ·rw [if_pos c11] at H
      have c11b0 : decide ((wrap64 (x4_1 + 1)) < (l0_1.length : Int)) = true := decide_eq_true c11; clear c11; obtain ⟨y851, hy851⟩ : ∃ y_ : List Int, y_ = (([(wrap64 (48 + (Int.tmod x5_2 10))) % 256] : List Int)) := ⟨_, rfl⟩
      replace H : (if (strOfNums y851).size + x3_2.size ≤ 9223372036854775807 then (cobwebref01_Text.l1 k2 ((strOfNums y851) ++ x3_2) x4_1 (wrap64 (Int.tdiv x5_2 10)) (wrap64 (x6_2 + 1)) a0_0 l0_1) else (none)) = some r := by first | (rw [hy851]; with_reducible exact H) | (have H2_ := (Option.bind_some _ _).symm.trans H; rw [hy851]; with_reducible exact H2_) | (have H2_ := (Option.bind_some _ _).symm.trans H; with_reducible exact H2_) | with_reducible exact H | (rw [hy851]; exact H) | exact H
      have Ny851 := Aside0.mk hy851; clear hy851
      by_cases c12 : (strOfNums y851).size + x3_2.size ≤ 9223372036854775807
      rotate_left
      ·rw [if_neg c12] at H
       exact absurd H (by simp)
      rw [if_pos c12] at H
      have c12b0 := eq_true c12; have c12b1 : decide ((strOfNums y851).size + x3_2.size ≤ 9223372036854775807) = true := decide_eq_true c12
      try have c12b2 : (9223372036854775807 < (strOfNums y851).size + x3_2.size) = False := eq_false (Nat.not_lt.2 c12)
      have H' := Aside0.mk H; clear H; obtain ⟨hcz13_0, hcz13_1⟩ := kc2 BK849; obtain ⟨hfz13_0, hfz13_1⟩ := kf2 BK849
      go_wp2_with (first | ((with_reducible refine gate_dst (N := 43) rfl ?_); refine Kd.R_lit (Kd.int .u8) _ 5 ?hg (N := 43) ?hd (xs := ([(wrap64 (48 + (Int.tmod x5_2 10))) % 256] : List Int)) (inner := [.int .u8 ((wrap64 (48 + (Int.tmod x5_2 10))) % 256)]) (ok := fun _ => True) (okp := fun _ => True) ?hr ?hp (fun _ hk => hk) trivial (Below.refl _ _) (Nat.le_refl _) (by simp) ?_; (case hd => rfl); (case hg => rfl); (case hr => first | (go_simp; done) | (go_simp; rfl)); (case hp => exact (Reps.one (show Kd.M (Kd.int .u8) _ _ _ ((wrap64 (48 + (Int.tmod x5_2 10))) % 256) [.int .u8 ((wrap64 (48 + (Int.tmod x5_2 10))) % 256)] from rfl) (Reps.none _ _))); intro v852 w14 ho15 hb hg_ hnew_; clear hg_ hnew_; (first | rw [← Ny851.out] at ho15 | (simp only [Int.reduceToNat] at ho15; rw [← Ny851.out] at ho15)); have HO853 := Aside0.mk (Kd.R_lower ho15 (ko HB)); replace BK849 := kb BK849 hb; replace HB := kB HB hb; clear hb ho15; have hcv16 := own_string (P := Try.prog) Try.underlying105 Try.underlying5 Try.underlying9 (Kd.own_of_R HO853.out)))
      go_roundg k2
      case measure => have := HK1.out; have := HK2.out; omega
      case rel => exact ⟨((strOfNums y851) ++ x3_2), (wrap64 (Int.tdiv x5_2 10)), (wrap64 (x6_2 + 1)), (by first | rfl | (simp; done) | (simp [*]; done)), (by first | rfl | (simp; done) | (simp [*]; done)), (by first | rfl | (simp; done) | (simp [*]; done)), H', ⟨by have := HK1.out; have := HK2.out; omega⟩, ⟨kx BK849⟩, ⟨ky HB⟩⟩
     rw [if_neg c11] at H
     have c11b0 : decide ((wrap64 (x4_1 + 1)) < (l0_1.length : Int)) = false := decide_eq_false c11; clear c11
     by_cases c17 : x5_2 > 0
     rotate_left
     ·rw [if_neg c17] at H
      have c17b0 : decide (0 < x5_2) = false := decide_eq_false c17; clear c17; have H' := Aside0.mk H; clear H; obtain ⟨hcz23_0, hcz23_1⟩ := kc2 BK849; obtain ⟨hfz23_0, hfz23_1⟩ := kf2 BK849
      go_wp2
      go_roundg k2
      case measure => have := HK1.out; have := HK2.out; omega
      case rel => exact ⟨(x3_2), (wrap64 (x4_1 + 1)), (by first | rfl | (simp; done) | (simp [*]; done)), (by first | rfl | (simp; done) | (simp [*]; done)), H', ⟨by have := HK1.out; have := HK2.out; omega⟩, ⟨kx BK849⟩, ⟨ky HB⟩⟩
     rw [if_pos c17] at H
     have c17b0 : decide (0 < x5_2) = true := decide_eq_true c17; clear c17; obtain ⟨y854, hy854⟩ : ∃ y_ : List Int, y_ = (([(wrap64 (48 + (Int.tmod x5_2 10))) % 256] : List Int)) := ⟨_, rfl⟩
     replace H : (if (strOfNums y854).size + x3_2.size ≤ 9223372036854775807 then (cobwebref01_Text.l1 k2 ((strOfNums y854) ++ x3_2) x4_1 (wrap64 (Int.tdiv x5_2 10)) (wrap64 (x6_2 + 1)) a0_0 l0_1) else (none)) = some r := by first | (rw [hy854]; with_reducible exact H) | (have H2_ := (Option.bind_some _ _).symm.trans H; rw [hy854]; with_reducible exact H2_) | (have H2_ := (Option.bind_some _ _).symm.trans H; with_reducible exact H2_) | with_reducible exact H | (rw [hy854]; exact H) | exact H
     have Ny854 := Aside0.mk hy854; clear hy854
     by_cases c18 : (strOfNums y854).size + x3_2.size ≤ 9223372036854775807
     rotate_left
     ·rw [if_neg c18] at H
      exact absurd H (by simp)
     rw [if_pos c18] at H
     have c18b0 := eq_true c18; have c18b1 : decide ((strOfNums y854).size + x3_2.size ≤ 9223372036854775807) = true := decide_eq_true c18
     try have c18b2 : (9223372036854775807 < (strOfNums y854).size + x3_2.size) = False := eq_false (Nat.not_lt.2 c18)
     have H' := Aside0.mk H; clear H; obtain ⟨hcz19_0, hcz19_1⟩ := kc2 BK849; obtain ⟨hfz19_0, hfz19_1⟩ := kf2 BK849
     go_wp2_with (first | ((with_reducible refine gate_dst (N := 43) rfl ?_); refine Kd.R_lit (Kd.int .u8) _ 5 ?hg (N := 43) ?hd (xs := ([(wrap64 (48 + (Int.tmod x5_2 10))) % 256] : List Int)) (inner := [.int .u8 ((wrap64 (48 + (Int.tmod x5_2 10))) % 256)]) (ok := fun _ => True) (okp := fun _ => True) ?hr ?hp (fun _ hk => hk) trivial (Below.refl _ _) (Nat.le_refl _) (by simp) ?_; (case hd => rfl); (case hg => rfl); (case hr => first | (go_simp; done) | (go_simp; rfl)); (case hp => exact (Reps.one (show Kd.M (Kd.int .u8) _ _ _ ((wrap64 (48 + (Int.tmod x5_2 10))) % 256) [.int .u8 ((wrap64 (48 + (Int.tmod x5_2 10))) % 256)] from rfl) (Reps.none _ _))); intro v855 w20 ho21 hb hg_ hnew_; clear hg_ hnew_; (first | rw [← Ny854.out] at ho21 | (simp only [Int.reduceToNat] at ho21; rw [← Ny854.out] at ho21)); have HO856 := Aside0.mk (Kd.R_lower ho21 (ko HB)); replace BK849 := kb BK849 hb; replace HB := kB HB hb; clear hb ho21; have hcv22 := own_string (P := Try.prog) Try.underlying105 Try.underlying5 Try.underlying9 (Kd.own_of_R HO856.out)))
     go_roundg k2
     case measure => have := HK1.out; have := HK2.out; omega
     case rel => exact ⟨((strOfNums y854) ++ x3_2), (wrap64 (Int.tdiv x5_2 10)), (wrap64 (x6_2 + 1)), (by first | rfl | (simp; done) | (simp [*]; done)), (by first | rfl | (simp; done) | (simp [*]; done)), (by first | rfl | (simp; done) | (simp [*]; done)), H', ⟨by have := HK1.out; have := HK2.out; omega⟩, ⟨kx BK849⟩, ⟨ky HB⟩⟩
/-! ### cobweblaw01_WideTexts: function 9 -/
def cobweblaw01_WideTexts.f (k : Nat) (a0_0 : Int) (a0_1 : Int) : Option (Bool) := (wide_Text.f k a0_0 a0_1).bind fun t858 => ((cobweblaw01_num.f k a0_0 a0_1).bind fun bt859 => ((cobwebref01_Text.f k bt859.1 bt859.2).bind fun t863 => (if t858.toList = t863.toList then ((cobweblaw01_alive.f k).bind fun t864 => (some t864)) else (some false))))
theorem cobweblaw01_WideTexts.mono : ∀ a0 a1 k, LeO (cobweblaw01_WideTexts.f k a0 a1) (cobweblaw01_WideTexts.f (k + 1) a0 a1) := by
 intro a0 a1 k
 unfold cobweblaw01_WideTexts.f
 repeat' first
   | (with_reducible exact cobweblaw01_alive.mono _)
   | (with_reducible exact cobweblaw01_num.mono _ _ _)
   | (with_reducible exact cobwebref01_Text.mono _ _ _)
   | (with_reducible exact wide_Text.mono _ _ _)
   | (with_reducible exact LeO.refl _)
   | (with_reducible exact LeO.none _)
   | (with_reducible refine LeO.ite ?_ ?_)
   | (with_reducible refine LeO.bind ?_ (fun _ => ?_))
   | exact cobweblaw01_alive.mono _
   | exact cobweblaw01_num.mono _ _ _
   | exact cobwebref01_Text.mono _ _ _
   | exact wide_Text.mono _ _ _
   | exact LeO.none _
   | refine LeO.ite ?_ ?_
   | refine LeO.bind ?_ (fun _ => ?_)
def cobweblaw01_WideTexts.T1 : Bool × List (List Nat × List Nat) := (true, [([], []), ([0], [0]), ([], []), ([2, 1], [2]), ([3, 3], [3]), ([1, 4], [1, 4]), ([5, 4], [5]), ([6, 6], [6]), ([6, 7], [6, 7]), ([8, 7, 0, 1, 2, 3, 4, 5, 6, 7, 8], [8])])
def cobweblaw01_WideTexts.B1 : List Nat := [0, 1, 0, 7, 15, 31, 63, 127, 255, 511]
theorem cobweblaw01_WideTexts.tab1 : rtab .any (opsOf Try.f9 1) = cobweblaw01_WideTexts.T1 := by kernel_rfl
theorem cobweblaw01_WideTexts.bits1 : waitsOk cobweblaw01_WideTexts.T1.2 cobweblaw01_WideTexts.B1 = true := by kernel_rfl
set_option maxHeartbeats 8000000 in
set_option maxRecDepth 100000 in
theorem cobweblaw01_WideTexts.calls (k : Nat) (a0_0 : Int) (a0_1 : Int) (r : Bool) (w : World) (h : cobweblaw01_WideTexts.f k a0_0 a0_1 = some r) :
  Calls Try.prog 9 #[.agg #[.int .i64 a0_0, .int .u64 a0_1]] w fun e w' => e = .returned (.bool r) ∧ Below w.heap.size w w' := by
 have hu24 := Try.underlying24; have HB := Aside0.mk (Below.refl w.heap.size w); have H : ((wide_Text.f k a0_0 a0_1).bind fun t858 => ((cobweblaw01_num.f k a0_0 a0_1).bind fun bt859 => ((cobwebref01_Text.f k bt859.1 bt859.2).bind fun t863 => (if t858.toList = t863.toList then ((cobweblaw01_alive.f k).bind fun t864 => (some t864)) else (some false))))) = some r := h; clear h; replace H := Option.bind_eq_some_iff.mp H; obtain ⟨t858, A20, H⟩ := H; replace H : ((cobweblaw01_num.f k a0_0 a0_1).bind fun bt859 => ((cobwebref01_Text.f k bt859.1 bt859.2).bind fun t863 => (if t858.toList = t863.toList then ((cobweblaw01_alive.f k).bind fun t864 => (some t864)) else (some false)))) = some r := H; have A2 := Aside0.mk A20; clear A20; replace H := Option.bind_eq_some_iff.mp H; obtain ⟨⟨t859, t860⟩, A30, H⟩ := H; replace H : ((cobwebref01_Text.f k t859 t860).bind fun t863 => (if t858.toList = t863.toList then ((cobweblaw01_alive.f k).bind fun t864 => (some t864)) else (some false))) = some r := H; have A3 := Aside0.mk A30; clear A30; replace H := Option.bind_eq_some_iff.mp H; obtain ⟨t863, A40, H⟩ := H; replace H : (if t858.toList = t863.toList then ((cobweblaw01_alive.f k).bind fun t864 => (some t864)) else (some false)) = some r := H; have A4 := Aside0.mk A40; clear A40
 by_cases c5 : t858.toList = t863.toList
 rotate_left
 ·rw [if_neg c5] at H
  have c5b0 : (t858.toList == t863.toList) = false := beq_eq_false_iff_ne.mpr c5; have c5b1 : (t858.toList != t863.toList) = true := bne_iff_ne.mpr c5; obtain rfl := Option.some.inj H
  go_enter Try.func9, Try.ntmps9
  try go_wp2_with (first | ((with_reducible refine gate_dst (N := 1) rfl ?_); refine box_event ?hg (N := 1) ?hd (cs := #[.int .i64 a0_0, .int .u64 a0_1]) (t := 24) ?hr ?_; (case hd => rfl); (case hg => rfl); (case hr => first | (go_simp; done) | (go_simp; rfl)); intro gb857 hg w14 hbox hb; have BK857 := Aside0.mk (hbox); have GW857 := kS HB hg; have GE857 := kS HB hg; replace HB := kB HB hb; clear hb hbox hg))
  replace BK857 := Aside0.mk (blk_drew BK857.out); replace HB := Aside0.mk (below_drew1 HB.out); refine start_ (n := 10) (S := fun w' => w'.cell? ⟨gb857, 0, none⟩ = some (.int .i64 a0_0) ∧ w'.cell? ⟨gb857, 1, none⟩ = some (.int .u64 a0_1)) (ds := []) #[O, O, O, O, O, O, O, O, O, O] (by kernel_rfl) rfl rfl ⟨kc BK857 0, kc BK857 1⟩ (fun hHeld => ?_); refine with_tabW cobweblaw01_WideTexts.tab1 cobweblaw01_WideTexts.bits1 (fun HT_ HW_ => ?_)
  generalize w14.drew = w15 at BK857 HB hHeld ⊢
  refine take_ (i := 0) (N := some 3) (v := ?_) (a' := ?_) #[T, O, O, O, O, O, O, O, O, O] rfl rfl (take_ofW HT_.out HW_.out (by kernel_rfl)) (fun _ _ _ h => h) (Or.inl ⟨by rfl, ?_⟩) hHeld ?_ ?_; rotate_left; focus (rintro w' ⟨s0, s1⟩; go_simp; with_reducible rfl)
  rotate_left; focus (simp only [Act.put, s1, s2, s3, i64_w, i32_w]; rfl)
  refine take_ (i := 2) (N := some 5) (v := ?_) (a' := ?_) #[T, O, T, O, O, O, O, O, O, O] rfl rfl (take_ofW HT_.out HW_.out (by kernel_rfl)) (fun _ _ _ h => h) (Or.inl ⟨by rfl, ?_⟩) hHeld ?_ ?_; rotate_left; focus (rintro w' ⟨s0, s1⟩; go_simp; with_reducible rfl)
  rotate_left; focus (simp only [Act.put, s1, s2, s3, i64_w, i32_w]; rfl)
  refine one_ (i := 1) (N := some 4) #[T, T, T, O, O, O, O, O, O, O] rfl rfl (one_of HT_.out (by kernel_rfl)) (by decide) (fun K hK => ?_); refine goes_ Try.func37 (by kernel_rfl) rfl #[.agg #[.int .i64 a0_0, .int .u64 a0_1]] (by rfl) rfl rfl (by (try simp only [zm, zc, zn]); first | done | rfl | (simp only [zd, zt]; rfl)) ?_
  with_reducible refine (wide_Text.calls k a0_0 a0_1 t858 _ A2.out).mono ?_
  rintro e w16 ⟨rfl, hb⟩; refine ⟨_, rfl, ?_⟩; replace BK857 := kb BK857 hb; replace HB := kB HB hb
  (try clear hb); (try clear hb2); (try clear hk); (try clear hi)
  refine hK.out _ _ ⟨kc BK857 0, kc BK857 1⟩ (fun hHeld => ?_); clear hK K
  refine norm_ (a' := ?_) ?_ ?_; rotate_left; focus (show Act.put _ (some 4) _ = _; simp only [Act.put, s1, s2, s3, i64_w, i32_w]; rfl)
  refine one_ (i := 3) (N := some 6) #[T, T, T, T, O, O, O, O, O, O] rfl rfl (one_of HT_.out (by kernel_rfl)) (by decide) (fun K hK => ?_); refine goes_ Try.func19 (by kernel_rfl) rfl #[.agg #[.int .i64 a0_0, .int .u64 a0_1]] (by rfl) rfl rfl (by (try simp only [zm, zc, zn]); first | done | rfl | (simp only [zd, zt]; rfl)) ?_
  with_reducible refine (cobweblaw01_num.calls k a0_0 a0_1 t859 t860 _ A3.out).mono ?_
  rintro e w17 ⟨v861, rfl, ho0, hb⟩; refine ⟨_, rfl, ?_⟩; have HO862 := Aside0.mk (Kd.V_lower (Kd.V_mono (ok' := fun k_ => k_ ≠ gb857) ho0 (fun k_ hk_ => (kF BK857 k_ hk_))) (ko HB)); replace BK857 := kb BK857 hb; replace HB := kB HB hb
  (try clear hb); (try clear hb2); (try clear hk); (try clear hi); (try clear ho0)
  obtain ⟨Ao18, co18, eo18⟩ := Kd.V_slice HO862.out
  (first | subst eo18 | (injection eo18 with f1_ f2_ f3_; have f4_ := f1_.symm; have f5_ := f3_.symm; clear f1_ f2_ f3_; subst f4_; subst f5_))
  refine hK.out _ _ ⟨kc BK857 0, kc BK857 1⟩ (fun hHeld => ?_); clear hK K
  refine norm_ (a' := ?_) ?_ ?_; rotate_left; focus (show Act.put _ (some 6) _ = _; simp only [Act.put, s1, s2, s3, i64_w, i32_w]; rfl)
  refine one_ (i := 4) (N := some 7) #[T, T, T, T, T, O, O, O, O, O] rfl rfl (one_of HT_.out (by kernel_rfl)) (by decide) (fun K hK => ?_); refine goes_ Try.func38 (by kernel_rfl) rfl #[.agg #[.bool t859, .slice Ao18 t860.length co18]] (by rfl) rfl rfl (by (try simp only [zm, zc, zn]); first | done | rfl | (simp only [zd, zt]; rfl)) ?_
  with_reducible refine (cobwebref01_Text.calls k t859 _ _ t860 t863 _ ?side1 ?side2 A4.out).mono ?_
  (case side1 => repeat (first | exact (Kd.V_reads' HO862.out).2.2 | (with_reducible refine Kd.C_alloc ?_ _) | (with_reducible refine Kd.C_drewN ?_ _) | (with_reducible refine Kd.C_drew ?_)))
  (case side2 => exact (Kd.V_reads' HO862.out).2.1)
  rintro e w19 ⟨rfl, hb⟩; refine ⟨_, rfl, ?_⟩; replace HO862 := kV HO862 hb; replace BK857 := kb BK857 hb; replace HB := kB HB hb
  (try clear hb); (try clear hb2); (try clear hk); (try clear hi)
  refine hK.out _ _ ⟨kc BK857 0, kc BK857 1⟩ (fun hHeld => ?_); clear hK K
  refine norm_ (a' := ?_) ?_ ?_; rotate_left; focus (show Act.put _ (some 7) _ = _; simp only [Act.put, s1, s2, s3, i64_w, i32_w]; rfl)
  refine pure_ (i := 5) (N := some 8) (v := ?_) (a' := ?_) #[T, T, T, T, T, T, O, O, O, O] rfl rfl (any_of HT_.out (by kernel_rfl)) (fun _ _ _ h => h) (Or.inl ⟨by rfl, ?_⟩) ?_ ?_; rotate_left; focus (intro w'; go_simp; with_reducible rfl)
  rotate_left; focus (simp only [Act.put, s1, s2, s3, i64_w, i32_w]; rfl)
  refine pure_ (i := 6) (N := some 9) (v := ?_) (a' := ?_) #[T, T, T, T, T, T, T, O, O, O] rfl rfl (any_of HT_.out (by kernel_rfl)) (fun _ _ _ h => h) (Or.inl ⟨by rfl, ?_⟩) ?_ ?_; rotate_left; focus (intro w'; go_simp; with_reducible rfl)
  rotate_left; focus (simp only [Act.put, s1, s2, s3, i64_w, i32_w]; rfl)
  refine pure_ (i := 7) (N := some 10) (v := undef) (a' := ?_) #[T, T, T, T, T, T, T, T, O, O] rfl rfl (any_of HT_.out (by kernel_rfl)) (fun _ _ _ h => h) (Or.inr ⟨by rfl, rfl⟩) ?_ ?_; rotate_left; focus (simp only [Act.put, s1, s2, s3, i64_w, i32_w]; rfl)
  refine pure_ (i := 8) (N := some 11) (v := ?_) (a' := ?_) #[T, T, T, T, T, T, T, T, T, O] rfl rfl (any_of HT_.out (by kernel_rfl)) (fun _ _ _ h => h) (Or.inl ⟨by rfl, ?_⟩) ?_ ?_; rotate_left; focus (intro w'; go_simp; with_reducible rfl)
  rotate_left; focus (simp only [Act.put, s1, s2, s3, i64_w, i32_w]; rfl)
  refine pure_ (i := 9) (N := some 2) (v := ?_) (a' := ?_) #[T, T, T, T, T, T, T, T, T, T] rfl rfl (any_of HT_.out (by kernel_rfl)) (fun _ _ _ h => h) (Or.inl ⟨by rfl, ?_⟩) ?_ ?_; rotate_left; focus (intro w'; go_simp; with_reducible rfl)
  rotate_left; focus (simp only [Act.put, s1, s2, s3, i64_w, i32_w]; rfl)
  refine done_ (done_of HT_.out (by kernel_rfl)) ?_
  try go_wp2
  go_ret
  exact ⟨by first | rfl | (simp [errW_none, errW_some] <;> rfl) | (simp [*, errW_none, errW_some] <;> rfl), ky HB⟩

 rw [if_pos c5] at H
 have c5b0 : (t858.toList == t863.toList) = true := beq_iff_eq.mpr c5; have c5b1 : (t858.toList != t863.toList) = false := bne_eq_false_iff_eq.mpr c5; clear c5; replace H := Option.bind_eq_some_iff.mp H; obtain ⟨t864, A60, H⟩ := H; replace H : (some t864) = some r := H; have A6 := Aside0.mk A60; clear A60; obtain rfl := Option.some.inj H
 go_enter Try.func9, Try.ntmps9
 try go_wp2_with (first | ((with_reducible refine gate_dst (N := 1) rfl ?_); refine box_event ?hg (N := 1) ?hd (cs := #[.int .i64 a0_0, .int .u64 a0_1]) (t := 24) ?hr ?_; (case hd => rfl); (case hg => rfl); (case hr => first | (go_simp; done) | (go_simp; rfl)); intro gb857 hg w7 hbox hb; have BK857 := Aside0.mk (hbox); have GW857 := kS HB hg; have GE857 := kS HB hg; replace HB := kB HB hb; clear hb hbox hg))
 replace BK857 := Aside0.mk (blk_drew BK857.out); replace HB := Aside0.mk (below_drew1 HB.out); refine start_ (n := 10) (S := fun w' => w'.cell? ⟨gb857, 0, none⟩ = some (.int .i64 a0_0) ∧ w'.cell? ⟨gb857, 1, none⟩ = some (.int .u64 a0_1)) (ds := []) #[O, O, O, O, O, O, O, O, O, O] (by kernel_rfl) rfl rfl ⟨kc BK857 0, kc BK857 1⟩ (fun hHeld => ?_); refine with_tabW cobweblaw01_WideTexts.tab1 cobweblaw01_WideTexts.bits1 (fun HT_ HW_ => ?_)
 generalize w7.drew = w8 at BK857 HB hHeld ⊢
 refine take_ (i := 0) (N := some 3) (v := ?_) (a' := ?_) #[T, O, O, O, O, O, O, O, O, O] rfl rfl (take_ofW HT_.out HW_.out (by kernel_rfl)) (fun _ _ _ h => h) (Or.inl ⟨by rfl, ?_⟩) hHeld ?_ ?_; rotate_left; focus (rintro w' ⟨s0, s1⟩; go_simp; with_reducible rfl)
 rotate_left; focus (simp only [Act.put, s1, s2, s3, i64_w, i32_w]; rfl)
 refine take_ (i := 2) (N := some 5) (v := ?_) (a' := ?_) #[T, O, T, O, O, O, O, O, O, O] rfl rfl (take_ofW HT_.out HW_.out (by kernel_rfl)) (fun _ _ _ h => h) (Or.inl ⟨by rfl, ?_⟩) hHeld ?_ ?_; rotate_left; focus (rintro w' ⟨s0, s1⟩; go_simp; with_reducible rfl)
 rotate_left; focus (simp only [Act.put, s1, s2, s3, i64_w, i32_w]; rfl)
 refine one_ (i := 1) (N := some 4) #[T, T, T, O, O, O, O, O, O, O] rfl rfl (one_of HT_.out (by kernel_rfl)) (by decide) (fun K hK => ?_); refine goes_ Try.func37 (by kernel_rfl) rfl #[.agg #[.int .i64 a0_0, .int .u64 a0_1]] (by rfl) rfl rfl (by (try simp only [zm, zc, zn]); first | done | rfl | (simp only [zd, zt]; rfl)) ?_
 with_reducible refine (wide_Text.calls k a0_0 a0_1 t858 _ A2.out).mono ?_
 rintro e w9 ⟨rfl, hb⟩; refine ⟨_, rfl, ?_⟩; replace BK857 := kb BK857 hb; replace HB := kB HB hb
 (try clear hb); (try clear hb2); (try clear hk); (try clear hi)
 refine hK.out _ _ ⟨kc BK857 0, kc BK857 1⟩ (fun hHeld => ?_); clear hK K
 refine norm_ (a' := ?_) ?_ ?_; rotate_left; focus (show Act.put _ (some 4) _ = _; simp only [Act.put, s1, s2, s3, i64_w, i32_w]; rfl)
 refine one_ (i := 3) (N := some 6) #[T, T, T, T, O, O, O, O, O, O] rfl rfl (one_of HT_.out (by kernel_rfl)) (by decide) (fun K hK => ?_); refine goes_ Try.func19 (by kernel_rfl) rfl #[.agg #[.int .i64 a0_0, .int .u64 a0_1]] (by rfl) rfl rfl (by (try simp only [zm, zc, zn]); first | done | rfl | (simp only [zd, zt]; rfl)) ?_
 with_reducible refine (cobweblaw01_num.calls k a0_0 a0_1 t859 t860 _ A3.out).mono ?_
 rintro e w10 ⟨v861, rfl, ho0, hb⟩; refine ⟨_, rfl, ?_⟩; have HO862 := Aside0.mk (Kd.V_lower (Kd.V_mono (ok' := fun k_ => k_ ≠ gb857) ho0 (fun k_ hk_ => (kF BK857 k_ hk_))) (ko HB)); replace BK857 := kb BK857 hb; replace HB := kB HB hb
 (try clear hb); (try clear hb2); (try clear hk); (try clear hi); (try clear ho0)
 obtain ⟨Ao11, co11, eo11⟩ := Kd.V_slice HO862.out
 (first | subst eo11 | (injection eo11 with f1_ f2_ f3_; have f4_ := f1_.symm; have f5_ := f3_.symm; clear f1_ f2_ f3_; subst f4_; subst f5_))
 refine hK.out _ _ ⟨kc BK857 0, kc BK857 1⟩ (fun hHeld => ?_); clear hK K
 refine norm_ (a' := ?_) ?_ ?_; rotate_left; focus (show Act.put _ (some 6) _ = _; simp only [Act.put, s1, s2, s3, i64_w, i32_w]; rfl)
 refine one_ (i := 4) (N := some 7) #[T, T, T, T, T, O, O, O, O, O] rfl rfl (one_of HT_.out (by kernel_rfl)) (by decide) (fun K hK => ?_); refine goes_ Try.func38 (by kernel_rfl) rfl #[.agg #[.bool t859, .slice Ao11 t860.length co11]] (by rfl) rfl rfl (by (try simp only [zm, zc, zn]); first | done | rfl | (simp only [zd, zt]; rfl)) ?_
 with_reducible refine (cobwebref01_Text.calls k t859 _ _ t860 t863 _ ?side1 ?side2 A4.out).mono ?_
 (case side1 => repeat (first | exact (Kd.V_reads' HO862.out).2.2 | (with_reducible refine Kd.C_alloc ?_ _) | (with_reducible refine Kd.C_drewN ?_ _) | (with_reducible refine Kd.C_drew ?_)))
 (case side2 => exact (Kd.V_reads' HO862.out).2.1)
 rintro e w12 ⟨rfl, hb⟩; refine ⟨_, rfl, ?_⟩; replace HO862 := kV HO862 hb; replace BK857 := kb BK857 hb; replace HB := kB HB hb
 (try clear hb); (try clear hb2); (try clear hk); (try clear hi)
 refine hK.out _ _ ⟨kc BK857 0, kc BK857 1⟩ (fun hHeld => ?_); clear hK K
 refine norm_ (a' := ?_) ?_ ?_; rotate_left; focus (show Act.put _ (some 7) _ = _; simp only [Act.put, s1, s2, s3, i64_w, i32_w]; rfl)
 refine pure_ (i := 5) (N := some 8) (v := ?_) (a' := ?_) #[T, T, T, T, T, T, O, O, O, O] rfl rfl (any_of HT_.out (by kernel_rfl)) (fun _ _ _ h => h) (Or.inl ⟨by rfl, ?_⟩) ?_ ?_; rotate_left; focus (intro w'; go_simp; with_reducible rfl)
 rotate_left; focus (simp only [Act.put, s1, s2, s3, i64_w, i32_w]; rfl)
 refine pure_ (i := 6) (N := some 9) (v := ?_) (a' := ?_) #[T, T, T, T, T, T, T, O, O, O] rfl rfl (any_of HT_.out (by kernel_rfl)) (fun _ _ _ h => h) (Or.inl ⟨by rfl, ?_⟩) ?_ ?_; rotate_left; focus (intro w'; go_simp; with_reducible rfl)
 rotate_left; focus (simp only [Act.put, s1, s2, s3, i64_w, i32_w]; rfl)
 refine one_ (i := 7) (N := some 10) #[T, T, T, T, T, T, T, T, O, O] rfl rfl (one_of HT_.out (by kernel_rfl)) (by decide) (fun K hK => ?_); refine goes_ Try.func16 (by kernel_rfl) rfl #[] (by rfl) rfl rfl (by (try simp only [zm, zc, zn]); first | done | rfl | (simp only [zd, zt]; rfl)) ?_
 with_reducible refine (cobweblaw01_alive.calls k  t864 _ A6.out).mono ?_
 rintro e w13 ⟨rfl, hb⟩; refine ⟨_, rfl, ?_⟩; replace HO862 := kV HO862 hb; replace BK857 := kb BK857 hb; replace HB := kB HB hb
 (try clear hb); (try clear hb2); (try clear hk); (try clear hi)
 refine hK.out _ _ ⟨kc BK857 0, kc BK857 1⟩ (fun hHeld => ?_); clear hK K
 refine norm_ (a' := ?_) ?_ ?_; rotate_left; focus (show Act.put _ (some 10) _ = _; simp only [Act.put, s1, s2, s3, i64_w, i32_w]; rfl)
 refine pure_ (i := 8) (N := some 11) (v := ?_) (a' := ?_) #[T, T, T, T, T, T, T, T, T, O] rfl rfl (any_of HT_.out (by kernel_rfl)) (fun _ _ _ h => h) (Or.inl ⟨by rfl, ?_⟩) ?_ ?_; rotate_left; focus (intro w'; go_simp; with_reducible rfl)
 rotate_left; focus (simp only [Act.put, s1, s2, s3, i64_w, i32_w]; rfl)
 refine pure_ (i := 9) (N := some 2) (v := ?_) (a' := ?_) #[T, T, T, T, T, T, T, T, T, T] rfl rfl (any_of HT_.out (by kernel_rfl)) (fun _ _ _ h => h) (Or.inl ⟨by rfl, ?_⟩) ?_ ?_; rotate_left; focus (intro w'; go_simp; with_reducible rfl)
 rotate_left; focus (simp only [Act.put, s1, s2, s3, i64_w, i32_w]; rfl)
 refine done_ (done_of HT_.out (by kernel_rfl)) ?_
 try go_wp2
 go_ret
 exact ⟨by first | rfl | (simp [errW_none, errW_some] <;> rfl) | (simp [*, errW_none, errW_some] <;> rfl), ky HB⟩
end Go.Proofs.Ytpjbniihdndlmaa.Q
