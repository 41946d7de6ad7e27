-- Printed by wip/pp.sh (a session's own turning of the kit's print) for this seat.
import Derived.Test.YtpjbniihdndlmaaQx0
import Derived.Test.YtpjbniihdndlmaaQx11
import Derived.Test.YtpjbniihdndlmaaQx12
import Derived.Test.YtpjbniihdndlmaaQx14
import Derived.Test.YtpjbniihdndlmaaQx15
namespace Go.Proofs.Ytpjbniihdndlmaa.Q
open Go.RowKit Go.Proofs.YtpjbniihdndlmaaW.PrintWords Go.Proofs.YtpjbniihdndlmaaW.PrintLast Go.Proofs.YtpjbniihdndlmaaW.PrintMore
open Go.Proofs.Ytpjbniihdndlmaa.H
attribute [local go_sem] hq_add64 hq_sub64 hq_not64 add64c_nn sub64c_nn sub64c_le
attribute [local go_sem] max2_int min2_int max_two min_two max_three min_three max_four min_four   -- for this text's walks alone
set_option linter.unusedVariables false
set_option linter.unusedSimpArgs false

/-! ### cobwebref01_Div: function 28 -/
mutual
def cobwebref01_Div.l0 : Nat → List Int → Int → Bool → List Int → Bool → List Int → Bool → List Int → Option (Bool × List Int × Bool × List Int)
  | 0, _, _, _, _, _, _, _, _ => none
  | k + 1, x6, x8, x531000, x531001, x532000, x532001, x538000, x538001 => if x8 ≥ 0 then (if 0 ≤ x8 then (if x8 < (x531001.length : Int) then ((some (([rd x531001 x8] : List Int) : List Int)).bind fun y539 => (if y539.length + x538001.length < 17592186044416 then ((cobwebref01_trim.f k false (y539 ++ x538001)).bind fun bt545 => (cobwebref01_Div.l1 k x6 x8 x531000 x531001 x532000 x532001 bt545.1 bt545.2)) else (none))) else (none)) else (none)) else ((cobwebref01_trim.f k x531000 x6).bind fun bt560 => (if x531000 = true then (cobwebref01_Div.j2 k (decide ((x538001.length : Int) > 0)) x532000 x532001 x538000 x538001 bt560.1 bt560.2) else (cobwebref01_Div.j2 k false x532000 x532001 x538000 x538001 bt560.1 bt560.2)))
def cobwebref01_Div.l1 : Nat → List Int → Int → Bool → List Int → Bool → List Int → Bool → List Int → Option (Bool × List Int × Bool × List Int)
  | 0, _, _, _, _, _, _, _, _ => none
  | k + 1, x6, x8, x531000, x531001, x532000, x532001, x538000, x538001 => (cobwebref01_Cmp.f k x538000 x538001 x532000 x532001).bind fun t549 => (if t549 ≥ 0 then ((cobwebref01_Neg.f k x532000 x532001).bind fun bt550 => ((cobwebref01_Add.f k x538000 x538001 bt550.1 bt550.2).bind fun bt554 => (if 0 ≤ x8 then (if x8 < (x6.length : Int) then (cobwebref01_Div.l1 k (x6.set (x8 : Int).toNat (wrap64 ((rd x6 x8) + 1))) x8 x531000 x531001 x532000 x532001 bt554.1 bt554.2) else (none)) else (none)))) else (cobwebref01_Div.l0 k x6 (wrap64 (x8 - 1)) x531000 x531001 x532000 x532001 x538000 x538001))
def cobwebref01_Div.j2 : Nat → Bool → Bool → List Int → Bool → List Int → Bool → List Int → Option (Bool × List Int × Bool × List Int)
  | 0, _, _, _, _, _, _, _ => none
  | k + 1, x59, x532000, x532001, x538000, x538001, x565000, x565001 => if x59 = true then ((cobwebref01_Of.f k (-1)).bind fun bt565 => ((cobwebref01_Add.f k x565000 x565001 bt565.1 bt565.2).bind fun bt569 => ((cobwebref01_Neg.f k x538000 x538001).bind fun bt573 => ((cobwebref01_Add.f k x532000 x532001 bt573.1 bt573.2).bind fun bt577 => (some (bt569.1, bt569.2, bt577.1, bt577.2)))))) else (some (x565000, x565001, x538000, x538001))
end
def cobwebref01_Div.f (k : Nat) (a0_0 : Bool) (l0_1 : List Int) (a1_0 : Bool) (l1_1 : List Int) : Option (Bool × List Int × Bool × List Int) := if 0 ≤ (l0_1.length : Int) then (if ((l0_1.length : Int) : Int).toNat ≤ 35184372088832 then (cobwebref01_Div.l0 k (List.replicate ((l0_1.length : Int) : Int).toNat 0) (wrap64 ((l0_1.length : Int) - 1)) a0_0 l0_1 a1_0 l1_1 false ([] : List Int)) else (none)) else (none)
theorem cobwebref01_Div.mono_l : ∀ k, (∀ y0 y1 y2 y3 y4 y5 y6 y7, LeO (cobwebref01_Div.l0 k y0 y1 y2 y3 y4 y5 y6 y7) (cobwebref01_Div.l0 (k + 1) y0 y1 y2 y3 y4 y5 y6 y7)) ∧ (∀ y0 y1 y2 y3 y4 y5 y6 y7, LeO (cobwebref01_Div.l1 k y0 y1 y2 y3 y4 y5 y6 y7) (cobwebref01_Div.l1 (k + 1) y0 y1 y2 y3 y4 y5 y6 y7)) ∧ (∀ y0 y1 y2 y3 y4 y5 y6, LeO (cobwebref01_Div.j2 k y0 y1 y2 y3 y4 y5 y6) (cobwebref01_Div.j2 (k + 1) y0 y1 y2 y3 y4 y5 y6))
  | 0 => ⟨fun _ _ _ _ _ _ _ _ r h => by simp [cobwebref01_Div.l0] at h, fun _ _ _ _ _ _ _ _ r h => by simp [cobwebref01_Div.l1] at h, fun _ _ _ _ _ _ _ r h => by simp [cobwebref01_Div.j2] at h⟩
  | k + 1 => by
    obtain ⟨ih0, ih1, ih2⟩ := cobwebref01_Div.mono_l k
    refine ⟨?_, ?_, ?_⟩
    · intro y0 y1 y2 y3 y4 y5 y6 y7
      unfold cobwebref01_Div.l0
      repeat' first
      | (with_reducible exact ih0 _ _ _ _ _ _ _ _)
      | (with_reducible exact ih1 _ _ _ _ _ _ _ _)
      | (with_reducible exact ih2 _ _ _ _ _ _ _)
      | (with_reducible exact cobwebref01_Add.mono _ _ _ _ _)
      | (with_reducible exact cobwebref01_Cmp.mono _ _ _ _ _)
      | (with_reducible exact cobwebref01_Neg.mono _ _ _)
      | (with_reducible exact cobwebref01_Of.mono _ _)
      | (with_reducible exact cobwebref01_trim.mono _ _ _)
      | (with_reducible exact LeO.refl _)
      | (with_reducible exact LeO.none _)
      | (with_reducible refine LeO.ite ?_ ?_)
      | (with_reducible refine LeO.bind ?_ (fun _ => ?_))
      | exact ih0 _ _ _ _ _ _ _ _
      | exact ih1 _ _ _ _ _ _ _ _
      | exact ih2 _ _ _ _ _ _ _
      | exact cobwebref01_Add.mono _ _ _ _ _
      | exact cobwebref01_Cmp.mono _ _ _ _ _
      | exact cobwebref01_Neg.mono _ _ _
      | exact cobwebref01_Of.mono _ _
      | exact cobwebref01_trim.mono _ _ _
      | exact LeO.none _
      | refine LeO.ite ?_ ?_
      | refine LeO.bind ?_ (fun _ => ?_)
    · intro y0 y1 y2 y3 y4 y5 y6 y7
      unfold cobwebref01_Div.l1
      repeat' first
      | (with_reducible exact ih0 _ _ _ _ _ _ _ _)
      | (with_reducible exact ih1 _ _ _ _ _ _ _ _)
      | (with_reducible exact ih2 _ _ _ _ _ _ _)
      | (with_reducible exact cobwebref01_Add.mono _ _ _ _ _)
      | (with_reducible exact cobwebref01_Cmp.mono _ _ _ _ _)
      | (with_reducible exact cobwebref01_Neg.mono _ _ _)
      | (with_reducible exact cobwebref01_Of.mono _ _)
      | (with_reducible exact cobwebref01_trim.mono _ _ _)
      | (with_reducible exact LeO.refl _)
      | (with_reducible exact LeO.none _)
      | (with_reducible refine LeO.ite ?_ ?_)
      | (with_reducible refine LeO.bind ?_ (fun _ => ?_))
      | exact ih0 _ _ _ _ _ _ _ _
      | exact ih1 _ _ _ _ _ _ _ _
      | exact ih2 _ _ _ _ _ _ _
      | exact cobwebref01_Add.mono _ _ _ _ _
      | exact cobwebref01_Cmp.mono _ _ _ _ _
      | exact cobwebref01_Neg.mono _ _ _
      | exact cobwebref01_Of.mono _ _
      | exact cobwebref01_trim.mono _ _ _
      | exact LeO.none _
      | refine LeO.ite ?_ ?_
      | refine LeO.bind ?_ (fun _ => ?_)
    · intro y0 y1 y2 y3 y4 y5 y6
      unfold cobwebref01_Div.j2
      repeat' first
      | (with_reducible exact ih0 _ _ _ _ _ _ _ _)
      | (with_reducible exact ih1 _ _ _ _ _ _ _ _)
      | (with_reducible exact ih2 _ _ _ _ _ _ _)
      | (with_reducible exact cobwebref01_Add.mono _ _ _ _ _)
      | (with_reducible exact cobwebref01_Cmp.mono _ _ _ _ _)
      | (with_reducible exact cobwebref01_Neg.mono _ _ _)
      | (with_reducible exact cobwebref01_Of.mono _ _)
      | (with_reducible exact cobwebref01_trim.mono _ _ _)
      | (with_reducible exact LeO.refl _)
      | (with_reducible exact LeO.none _)
      | (with_reducible refine LeO.ite ?_ ?_)
      | (with_reducible refine LeO.bind ?_ (fun _ => ?_))
      | exact ih0 _ _ _ _ _ _ _ _
      | exact ih1 _ _ _ _ _ _ _ _
      | exact ih2 _ _ _ _ _ _ _
      | exact cobwebref01_Add.mono _ _ _ _ _
      | exact cobwebref01_Cmp.mono _ _ _ _ _
      | exact cobwebref01_Neg.mono _ _ _
      | exact cobwebref01_Of.mono _ _
      | exact cobwebref01_trim.mono _ _ _
      | exact LeO.none _
      | refine LeO.ite ?_ ?_
      | refine LeO.bind ?_ (fun _ => ?_)
theorem cobwebref01_Div.mono : ∀ a0 a1 a2 a3 k, LeO (cobwebref01_Div.f k a0 a1 a2 a3) (cobwebref01_Div.f (k + 1) a0 a1 a2 a3) := by
  intro a0 a1 a2 a3 k
  obtain ⟨ih0, ih1, ih2⟩ := cobwebref01_Div.mono_l k
  unfold cobwebref01_Div.f
  repeat' first
      | (with_reducible exact ih0 _ _ _ _ _ _ _ _)
      | (with_reducible exact ih1 _ _ _ _ _ _ _ _)
      | (with_reducible exact ih2 _ _ _ _ _ _ _)
      | (with_reducible exact cobwebref01_Add.mono _ _ _ _ _)
      | (with_reducible exact cobwebref01_Cmp.mono _ _ _ _ _)
      | (with_reducible exact cobwebref01_Neg.mono _ _ _)
      | (with_reducible exact cobwebref01_Of.mono _ _)
      | (with_reducible exact cobwebref01_trim.mono _ _ _)
      | (with_reducible exact LeO.refl _)
      | (with_reducible exact LeO.none _)
      | (with_reducible refine LeO.ite ?_ ?_)
      | (with_reducible refine LeO.bind ?_ (fun _ => ?_))
      | exact ih0 _ _ _ _ _ _ _ _
      | exact ih1 _ _ _ _ _ _ _ _
      | exact ih2 _ _ _ _ _ _ _
      | exact cobwebref01_Add.mono _ _ _ _ _
      | exact cobwebref01_Cmp.mono _ _ _ _ _
      | exact cobwebref01_Neg.mono _ _ _
      | exact cobwebref01_Of.mono _ _
      | exact cobwebref01_trim.mono _ _ _
      | exact LeO.none _
      | refine LeO.ite ?_ ?_
      | refine LeO.bind ?_ (fun _ => ?_)
def cobwebref01_Div.T6 : Bool × List (List Nat × List Nat) := (true, [([], []), ([0], [0]), ([], []), ([1, 2], [1, 2]), ([3], [3]), ([4], [4]), ([], []), ([6], [6]), ([5, 7], [5, 7]), ([8], [8]), ([9, 8], [9]), ([10, 10, 0, 1, 2, 3, 4, 5, 6, 7, 8, 9, 10], [10])])
def cobwebref01_Div.B6 : List Nat := [0, 1, 0, 7, 15, 31, 0, 64, 255, 511, 1023, 2047]
theorem cobwebref01_Div.tab6 : rtab .any (opsOf Try.f28 6) = cobwebref01_Div.T6 := by kernel_rfl
theorem cobwebref01_Div.bits6 : waitsOk cobwebref01_Div.T6.2 cobwebref01_Div.B6 = true := by kernel_rfl
def cobwebref01_Div.T12 : Bool × List (List Nat × List Nat) := (true, [([], []), ([], []), ([0, 1, 1], [0, 1]), ([], []), ([], []), ([4, 2], [4]), ([3, 5, 5], [3, 5]), ([2, 6, 0, 1, 2], [2]), ([6, 7, 0, 1, 2, 3, 4, 5, 6, 7], [6])])
def cobwebref01_Div.B12 : List Nat := [0, 0, 3, 0, 0, 23, 63, 127, 255]
theorem cobwebref01_Div.tab12 : rtab .any (opsOf Try.f28 12) = cobwebref01_Div.T12 := by kernel_rfl
theorem cobwebref01_Div.bits12 : waitsOk cobwebref01_Div.T12.2 cobwebref01_Div.B12 = true := by kernel_rfl
set_option maxHeartbeats 8000000 in
set_option maxRecDepth 100000 in
theorem cobwebref01_Div.calls (k : Nat) (a0_0 : Bool) (A0_1 : Option Addr) (c0_1 : Nat) (l0_1 : List Int) (a1_0 : Bool) (P1_1_ : Nat → Prop) (A1_1 : Option Addr) (c1_1 : Nat) (l1_1 : List Int) (r1 : Bool) (r2 : List Int) (r3 : Bool) (r4 : List Int) (w : World) (hr0_1 : Kd.C (Kd.int .i64) w A0_1 l0_1.length l0_1) (hc0_1 : l0_1.length ≤ c0_1) (hs1_1 : Kd.V (Kd.int .i64) 3 w w.heap.size (fun k_ => P1_1_ k_) (.slice A1_1 l1_1.length c1_1) l1_1) (h : cobwebref01_Div.f k a0_0 l0_1 a1_0 l1_1 = some (r1, r2, r3, r4)) :
    Calls Try.prog 28 #[.agg #[.bool a0_0, .slice A0_1 l0_1.length c0_1], .agg #[.bool a1_0, .slice A1_1 l1_1.length c1_1]] w fun e w' => ∃ v1_ v3_ : Value, e = .returned (.tuple #[.agg #[.bool r1, v1_], .agg #[.bool r3, v3_]]) ∧ Kd.V (Kd.int .i64) 3 w' w.heap.size (fun k_ => (P1_1_ k_ ∨ w.heap.size ≤ k_)) v1_ r2 ∧ Kd.V (Kd.int .i64) 3 w' w.heap.size (fun k_ => (P1_1_ k_ ∨ w.heap.size ≤ k_)) v3_ r4 ∧ Below w.heap.size w w' := by
  have hu32 := Try.underlying32
  have HR0_1 := Aside0.mk hr0_1
  have HC0_1 := Aside0.mk hc0_1
  clear hr0_1 hc0_1
  have HO1_1 := Aside0.mk (show Kd.V (Kd.int .i64) 3 w w.heap.size (fun k_ => (P1_1_ k_ ∨ w.heap.size ≤ k_)) (.slice A1_1 l1_1.length c1_1) l1_1 from Kd.V_mono hs1_1 (fun k_ hk => .inl hk))
  have HB := Aside0.mk (Below.refl w.heap.size w)
  have H : (if 0 ≤ (l0_1.length : Int) then (if ((l0_1.length : Int) : Int).toNat ≤ 35184372088832 then (cobwebref01_Div.l0 k (List.replicate ((l0_1.length : Int) : Int).toNat 0) (wrap64 ((l0_1.length : Int) - 1)) a0_0 l0_1 a1_0 l1_1 false ([] : List Int)) else (none)) else (none)) = some (r1, r2, r3, r4) := h
  clear h
  by_cases c3 : 0 ≤ (l0_1.length : Int)
  rotate_left
  · rw [if_neg c3] at H
    exact absurd H (by simp)

  rw [if_pos c3] at H
  have c3b0 := eq_true c3
  have c3b1 : decide (0 ≤ (l0_1.length : Int)) = true := decide_eq_true c3
  clear c3
  by_cases c4 : ((l0_1.length : Int) : Int).toNat ≤ 35184372088832
  rotate_left
  · rw [if_neg c4] at H
    exact absurd H (by simp)
  rw [if_pos c4] at H
  have c4b0 := eq_true c4
  have c4b1 : decide (((l0_1.length : Int) : Int).toNat ≤ 35184372088832) = true := decide_eq_true c4
  clear c4
  obtain ⟨y534, hy534⟩ : ∃ y_ : List Int, y_ = (List.replicate ((l0_1.length : Int) : Int).toNat 0) := ⟨_, rfl⟩
  replace H : (cobwebref01_Div.l0 k y534 (wrap64 ((l0_1.length : Int) - 1)) a0_0 l0_1 a1_0 l1_1 false ([] : List Int)) = some (r1, r2, r3, r4) := by first | (rw [hy534]; with_reducible exact H) | (have H2_ := (Option.bind_some _ _).symm.trans H; rw [hy534]; with_reducible exact H2_) | (have H2_ := (Option.bind_some _ _).symm.trans H; with_reducible exact H2_) | with_reducible exact H | (rw [hy534]; exact H) | exact H
  have Ny534 := Aside0.mk hy534
  clear hy534
  have H' := Aside0.mk H
  clear H
  go_enter Try.func28, Try.ntmps28
  go_wp2_with (first | ((with_reducible refine gate_dst (N := 2) rfl ?_); refine box_event ?hg (N := 2) ?hd (cs := #[.bool a0_0, .slice A0_1 l0_1.length c0_1]) (t := 32) ?hr ?_; (case hd => rfl); (case hg => rfl); (case hr => first | (go_simp; done) | (go_simp; rfl)); intro gb530 hg w5 hbox hb; have n0_ := Aside0.mk (Kd.V_below (Kd.V_elderB (kv HO1_1) gb530 (Nat.le_of_eq hg.symm)) hb); have n1_ := kB HB hb; have n2_ := Aside0.mk (hbox); have n3_ := kS HB hg; have n4_ := kS HB hg; clear HO1_1; clear HB; have HO1_1 := n0_; have HB := n1_; have BK530 := n2_; have GW530 := n3_; have GE530 := n4_; clear n0_ n1_ n2_ n3_ n4_; clear hb hbox hg) | ((with_reducible refine gate_dst (N := 3) rfl ?_); refine box_event ?hg (N := 3) ?hd (cs := #[.bool a1_0, .slice A1_1 l1_1.length c1_1]) (t := 32) ?hr ?_; (case hd => rfl); (case hg => rfl); (case hr => first | (go_simp; done) | (go_simp; rfl)); intro gb531 hg w6 hbox hb; have n0_ := Aside0.mk (Kd.V_below (Kd.V_elderB (kv HO1_1) gb531 (Nat.le_of_eq hg.symm)) hb); have n1_ := kb BK530 hb; have n2_ := kB HB hb; have n3_ := Aside0.mk (hbox); have n4_ := kS HB hg; have n5_ := kS HB hg; have n6_ := kN BK530 hg; have n7_ := kM BK530 hg; clear HO1_1; clear BK530; clear HB; have HO1_1 := n0_; have BK530 := n1_; have HB := n2_; have BK531 := n3_; have GW531 := n4_; have GE531 := n5_; have NB530_531 := n6_; have NB531_530 := n7_; clear n0_ n1_ n2_ n3_ n4_ n5_ n6_ n7_; clear hb hbox hg) | ((with_reducible refine gate_dst (N := 4) rfl ?_); refine box_event ?hg (N := 4) ?hd (cs := #[.bool false, .slice none 0 0]) (t := 32) ?hr ?_; (case hd => rfl); (case hg => rfl); (case hr => first | (go_simp; done) | (go_simp; rfl)); intro gb532 hg w7 hbox hb; have n0_ := Aside0.mk (Kd.V_below (Kd.V_elderB (kv HO1_1) gb532 (Nat.le_of_eq hg.symm)) hb); have n1_ := kb BK530 hb; have n2_ := kb BK531 hb; have n3_ := kB HB hb; have n4_ := Aside0.mk (hbox); have n5_ := kS HB hg; have n6_ := kS HB hg; have n7_ := kN BK530 hg; have n8_ := kM BK530 hg; have n9_ := kN BK531 hg; have n10_ := kM BK531 hg; clear HO1_1; clear BK530; clear BK531; clear HB; have HO1_1 := n0_; have BK530 := n1_; have BK531 := n2_; have HB := n3_; have BK532 := n4_; have GW532 := n5_; have GE532 := n6_; have NB530_532 := n7_; have NB532_530 := n8_; have NB531_532 := n9_; have NB532_531 := n10_; clear n0_ n1_ n2_ n3_ n4_ n5_ n6_ n7_ n8_ n9_ n10_; clear hb hbox hg) | ((with_reducible refine gate_dst (N := 5) rfl ?_); refine box_event ?hg (N := 5) ?hd (cs := #[.bool false, .slice none 0 0]) (t := 32) ?hr ?_; (case hd => rfl); (case hg => rfl); (case hr => first | (go_simp; done) | (go_simp; rfl)); intro gb533 hg w8 hbox hb; have n0_ := Aside0.mk (Kd.V_below (Kd.V_elderB (kv HO1_1) gb533 (Nat.le_of_eq hg.symm)) hb); have n1_ := kb BK530 hb; have n2_ := kb BK531 hb; have n3_ := kb BK532 hb; have n4_ := kB HB hb; have n5_ := Aside0.mk (hbox); have n6_ := kS HB hg; have n7_ := kS HB hg; have n8_ := kN BK530 hg; have n9_ := kM BK530 hg; have n10_ := kN BK531 hg; have n11_ := kM BK531 hg; have n12_ := kN BK532 hg; have n13_ := kM BK532 hg; clear HO1_1; clear BK530; clear BK531; clear BK532; clear HB; have HO1_1 := n0_; have BK530 := n1_; have BK531 := n2_; have BK532 := n3_; have HB := n4_; have BK533 := n5_; have GW533 := n6_; have GE533 := n7_; have NB530_533 := n8_; have NB533_530 := n9_; have NB531_533 := n10_; have NB533_531 := n11_; have NB532_533 := n12_; have NB533_532 := n13_; clear n0_ n1_ n2_ n3_ n4_ n5_ n6_ n7_ n8_ n9_ n10_ n11_ n12_ n13_; clear hb hbox hg; have hnb9 := NB530_531.out; have hnc9 := NB531_530.out; have hnb10 := NB530_532.out; have hnc10 := NB532_530.out; have hnb11 := NB530_533.out; have hnc11 := NB533_530.out; have hcz12_0 : w8.cell? ⟨gb530, 0, none⟩ = some (.bool a0_0) := kc BK530 0; have hcz12_1 : w8.cell? ⟨gb530, 1, none⟩ = some (.slice A0_1 l0_1.length c0_1) := kc BK530 1; have hfz12_0 := blk_frozen BK530.out 0; have hfz12_1 := blk_frozen BK530.out 1) | ((with_reducible refine gate_dst (N := 13) rfl ?_); refine Kd.R_make (Kd.int .i64) _ 3 rfl (N := 13) rfl 30 _ _ rfl (l0_1.length : Int) rfl rfl Try.underlying30 (.int .i64 0) 8 info3 rfl (by decide) (by omega) 0 (ok := fun _ => True) (okp := fun _ => True) rfl (fun _ hk => hk) trivial (of_decide_eq_true (by first | (with_reducible assumption) | assumption)) (Nat.le_trans (Nat.mul_le_mul_right _ (of_decide_eq_true (by first | (with_reducible assumption) | assumption) : (l0_1.length : Int).toNat ≤ 35184372088832)) (by omega)) (Below.refl _ _) (Nat.le_refl _) ?_; intro v535 w13 ho14 hb hg_ hnew_; clear hg_ hnew_; (first | rw [← Ny534.out] at ho14 | (simp only [Int.reduceToNat] at ho14; rw [← Ny534.out] at ho14)); have n0_ := Aside0.mk (Kd.V_elder' (kv HO1_1) (Kd.R_base ho14) hb); have n1_ := Aside0.mk (Kd.R_lower (Kd.R_newM (M := fun k_ => (w.heap.size ≤ k_)) ho14 (below_size (ky HB)) (fun k_ h_ => h_)) (below_size (ky HB))); have n2_ := kb BK530 hb; have n3_ := kb BK531 hb; have n4_ := kb BK532 hb; have n5_ := kb BK533 hb; have n6_ := kB HB hb; clear HO1_1; clear BK530; clear BK531; clear BK532; clear BK533; clear HB; have HO1_1 := n0_; have HO536 := n1_; have BK530 := n2_; have BK531 := n3_; have BK532 := n4_; have BK533 := n5_; have HB := n6_; clear n0_ n1_ n2_ n3_ n4_ n5_ n6_; clear hb ho14) | ((with_reducible refine gate_dst (N := 7) rfl ?_); refine box_event ?hg (N := 7) ?hd (cs := #[.bool false, .slice none 0 0]) (t := 32) ?hr ?_; (case hd => rfl); (case hg => rfl); (case hr => first | (go_simp; done) | (go_simp; rfl)); intro gb537 hg w15 hbox hb; have n0_ := Aside0.mk (Kd.V_below (Kd.V_elderB (kv HO1_1) gb537 (Nat.le_of_eq hg.symm)) hb); have n1_ := kR HO536 hb; have n2_ := kb BK530 hb; have n3_ := kb BK531 hb; have n4_ := kb BK532 hb; have n5_ := kb BK533 hb; have n6_ := kB HB hb; have n7_ := Aside0.mk (hbox); have n8_ := kS HB hg; have n9_ := kS HB hg; have n10_ := kN BK530 hg; have n11_ := kM BK530 hg; have n12_ := kN BK531 hg; have n13_ := kM BK531 hg; have n14_ := kN BK532 hg; have n15_ := kM BK532 hg; have n16_ := kN BK533 hg; have n17_ := kM BK533 hg; clear HO1_1; clear HO536; clear BK530; clear BK531; clear BK532; clear BK533; clear HB; have HO1_1 := n0_; have HO536 := n1_; have BK530 := n2_; have BK531 := n3_; have BK532 := n4_; have BK533 := n5_; have HB := n6_; have BK537 := n7_; have GW537 := n8_; have GE537 := n9_; have NB530_537 := n10_; have NB537_530 := n11_; have NB531_537 := n12_; have NB537_531 := n13_; have NB532_537 := n14_; have NB537_532 := n15_; have NB533_537 := n16_; have NB537_533 := n17_; clear n0_ n1_ n2_ n3_ n4_ n5_ n6_ n7_ n8_ n9_ n10_ n11_ n12_ n13_ n14_ n15_ n16_ n17_; clear hb hbox hg; have hnb16 := NB530_537.out; have hnc16 := NB537_530.out; have hcz17_0 : w15.cell? ⟨gb530, 0, none⟩ = some (.bool a0_0) := kc BK530 0; have hcz17_1 : w15.cell? ⟨gb530, 1, none⟩ = some (.slice A0_1 l0_1.length c0_1) := kc BK530 1; have hfz17_0 := blk_frozen BK530.out 0; have hfz17_1 := blk_frozen BK530.out 1))
  go_loopg [8] k (fun kq v8 w' => ∃ (x6_1 : List Int) (x8_1 : Int) (x538000_1 : Bool) (x538001_1 : List Int) (u538001 : Value), v8 = .int .i64 x8_1 ∧ Aside0 (cobwebref01_Div.l0 kq x6_1 x8_1 a0_0 l0_1 a1_0 l1_1 x538000_1 x538001_1 = some (r1, r2, r3, r4)) ∧ Aside0 (kq ≤ k) ∧ Aside0 (Kd.R (Kd.int .i64) 3 w' w.heap.size (fun k_ => (w.heap.size ≤ k_)) v535 x6_1) ∧ Aside0 (Kd.V (Kd.int .i64) 3 w' w.heap.size (fun k_ => (P1_1_ k_ ∨ w.heap.size ≤ k_) ∧ some k_ ≠ (v535 : Value).ownBlock ∧ k_ ≠ gb530 ∧ k_ ≠ gb531 ∧ k_ ≠ gb532 ∧ k_ ≠ gb533 ∧ k_ ≠ gb537) (.slice A1_1 l1_1.length c1_1) l1_1) ∧ Aside0 (Kd.V (Kd.int .i64) 3 w' w.heap.size (fun k_ => (P1_1_ k_ ∨ w.heap.size ≤ k_) ∧ some k_ ≠ (v535 : Value).ownBlock ∧ k_ ≠ gb530 ∧ k_ ≠ gb531 ∧ k_ ≠ gb532 ∧ k_ ≠ gb533 ∧ k_ ≠ gb537) u538001 x538001_1) ∧ Aside0 (w'.heap[gb530]? = some (.cells #[.bool a0_0, (.slice A0_1 l0_1.length c0_1)] 32 (0, 0))) ∧ Aside0 (w'.heap[gb531]? = some (.cells #[.bool a1_0, (.slice A1_1 l1_1.length c1_1)] 32 (0, 0))) ∧ Aside0 (w'.heap[gb532]? = some (.cells #[.bool false, (.slice none 0 0)] 32 (0, 0))) ∧ Aside0 (w'.heap[gb533]? = some (.cells #[.bool false, (.slice none 0 0)] 32 (0, 0))) ∧ Aside0 (w'.heap[gb537]? = some (.cells #[.bool x538000_1, u538001] 32 (0, 0))) ∧ Aside0 (Below w.heap.size w w'))
  case atStart => exact ⟨(y534), (wrap64 ((l0_1.length : Int) - 1)), (false), (([] : List Int)), (.slice none 0 0), (by first | rfl | (simp; done) | (simp [*]; done)), H', ⟨Nat.le_refl _⟩, ⟨by (with_reducible repeat (first | apply Kd.R_alloc | apply Kd.R_drewN | apply Kd.R_drew)); exact Kd.R_mono HO536.out (fun _ hk => hk.1)⟩, ⟨by (with_reducible repeat (first | apply Kd.V_alloc | apply Kd.V_drewN | apply Kd.V_drew)); exact Kd.V_mono HO1_1.out (fun _ hk => ⟨hk.1.1.1.1.1.1, ⟨hk.1.2, ⟨hk.1.1.1.1.1.2, ⟨hk.1.1.1.1.2, ⟨hk.1.1.1.2, ⟨hk.1.1.2, hk.2⟩⟩⟩⟩⟩⟩)⟩, ⟨Kd.V_nil _ _ _ _ _⟩, ⟨kx BK530⟩, ⟨kx BK531⟩, ⟨kx BK532⟩, ⟨kx BK533⟩, ⟨kx BK537⟩, ⟨ky HB⟩⟩
  case round =>
    clear H'
    try clear c1; try clear c2; try clear p2; try clear c3; try clear c3b0; try clear c3b1; try clear c4; try clear c4b0; try clear c4b1; try clear p6; try clear c9; try clear c10; try clear c11; try clear c16; try clear hcz12_0; try clear hcz12_1; try clear hcz17_0; try clear hcz17_1; try clear hfz12_0; try clear hfz12_1; try clear hfz17_0; try clear hfz17_1
    obtain ⟨x6_1, x8_1, x538000_1, x538001_1, u538001, rfl, HA, HK1, HO_6, HO_532001, HO_538001, BK530, BK531, BK532, BK533, BK537, HB⟩ := hrel
    cases gk with
    | zero => exact absurd HA.out (by simp [cobwebref01_Div.l0])
    | succ k1 =>
      have H := HA.out; clear HA
      simp only [cobwebref01_Div.l0] at H
      by_cases c18 : x8_1 ≥ 0
      rotate_left
      · rw [if_neg c18] at H
        have c18b0 : decide (0 ≤ x8_1) = false := decide_eq_false c18
        clear c18
        replace H := Option.bind_eq_some_iff.mp H
        obtain ⟨⟨t560, t561⟩, A730, H⟩ := H
        replace H : (if a0_0 = true then (cobwebref01_Div.j2 k1 (decide ((x538001_1.length : Int) > 0)) a1_0 l1_1 x538000_1 x538001_1 t560 t561) else (cobwebref01_Div.j2 k1 false a1_0 l1_1 x538000_1 x538001_1 t560 t561)) = some (r1, r2, r3, r4) := H
        have A73 := Aside0.mk A730
        clear A730
        have HC74 := Aside0.mk H
        clear H; have hnb75 := NB530_531.out; have hnc75 := NB531_530.out; have hnb76 := NB530_532.out; have hnc76 := NB532_530.out; have hnb77 := NB530_533.out; have hnc77 := NB533_530.out; have hnb78 := NB530_537.out; have hnc78 := NB537_530.out
        have hcz79_0 : wr.cell? ⟨gb530, 0, none⟩ = some (.bool a0_0) := kc BK530 0
        have hcz79_1 : wr.cell? ⟨gb530, 1, none⟩ = some (.slice A0_1 l0_1.length c0_1) := kc BK530 1
        have hfz79_0 := blk_frozen BK530.out 0
        have hfz79_1 := blk_frozen BK530.out 1
        obtain ⟨Ao80, co80, eo80⟩ := Kd.R_slice HO_6.out
        subst eo80
        go_upto_region 11 with (first | ((with_reducible refine gate_callee (f := 57) rfl ?_); refine goesL_ (some 51) rfl rfl Try.func57 (by kernel_rfl) rfl #[.agg #[.bool a0_0, .slice Ao80 x6_1.length co80]] rfl (by (try simp only [List.map_toArray, List.map_cons, List.map_nil]); first | done | rfl | (simp only [List.length_drop, List.length_take]; rfl)) ?_; (with_reducible refine (cobwebref01_trim.calls k1 a0_0 (fun k_ => some k_ = (.slice Ao80 x6_1.length co80 : Value).ownBlock) _ _ x6_1 t560 t561 _ ?side1 A73.out).mono ?_); (case side1 => exact Kd.R_V (Kd.R_tight rfl (Kd.R_types (Kd.R_types (Kd.R_types (Kd.R_types (Kd.R_types (HO_6.out) BK530.out (by decide)) BK531.out (by decide)) BK532.out (by decide)) BK533.out (by decide)) BK537.out (by decide)))); rintro e w81 ⟨v562, rfl, ho0, hb⟩; refine ⟨_, rfl, ?_⟩; have HO563 := Aside0.mk (Kd.V_lower (Kd.V_mono (ok' := fun k_ => (P1_1_ k_ ∨ w.heap.size ≤ k_) ∧ k_ ≠ gb530 ∧ k_ ≠ gb531 ∧ k_ ≠ gb532 ∧ k_ ≠ gb533 ∧ k_ ≠ gb537) ho0 (fun k_ hk_ => ⟨Or.elim hk_ (fun hs_ => (.inr (((Kd.R_types (Kd.R_types (Kd.R_types (Kd.R_types (Kd.R_types (HO_6.out) BK530.out (by decide)) BK531.out (by decide)) BK532.out (by decide)) BK533.out (by decide)) BK537.out (by decide)).1 k_ hs_.symm).1.1.1.1.1))) (fun hn_ => (.inr (Nat.le_trans (below_size (ky HB)) hn_))), Or.elim hk_ (fun hs_ => ((Kd.R_types (Kd.R_types (Kd.R_types (Kd.R_types (Kd.R_types (HO_6.out) BK530.out (by decide)) BK531.out (by decide)) BK532.out (by decide)) BK533.out (by decide)) BK537.out (by decide)).1 k_ hs_.symm).1.1.1.1.2) (fun hn_ => (Kd.freshB (g := gb530) (o := .cells #[.bool a0_0, .slice A0_1 l0_1.length c0_1] 32 (0, 0)) (kx BK530) k_ hn_)), Or.elim hk_ (fun hs_ => ((Kd.R_types (Kd.R_types (Kd.R_types (Kd.R_types (Kd.R_types (HO_6.out) BK530.out (by decide)) BK531.out (by decide)) BK532.out (by decide)) BK533.out (by decide)) BK537.out (by decide)).1 k_ hs_.symm).1.1.1.2) (fun hn_ => (Kd.freshB (g := gb531) (o := .cells #[.bool a1_0, .slice A1_1 l1_1.length c1_1] 32 (0, 0)) (kx BK531) k_ hn_)), Or.elim hk_ (fun hs_ => ((Kd.R_types (Kd.R_types (Kd.R_types (Kd.R_types (Kd.R_types (HO_6.out) BK530.out (by decide)) BK531.out (by decide)) BK532.out (by decide)) BK533.out (by decide)) BK537.out (by decide)).1 k_ hs_.symm).1.1.2) (fun hn_ => (Kd.freshB (g := gb532) (o := .cells #[.bool false, .slice none 0 0] 32 (0, 0)) (kx BK532) k_ hn_)), Or.elim hk_ (fun hs_ => ((Kd.R_types (Kd.R_types (Kd.R_types (Kd.R_types (Kd.R_types (HO_6.out) BK530.out (by decide)) BK531.out (by decide)) BK532.out (by decide)) BK533.out (by decide)) BK537.out (by decide)).1 k_ hs_.symm).1.2) (fun hn_ => (Kd.freshB (g := gb533) (o := .cells #[.bool false, .slice none 0 0] 32 (0, 0)) (kx BK533) k_ hn_)), Or.elim hk_ (fun hs_ => ((Kd.R_types (Kd.R_types (Kd.R_types (Kd.R_types (Kd.R_types (HO_6.out) BK530.out (by decide)) BK531.out (by decide)) BK532.out (by decide)) BK533.out (by decide)) BK537.out (by decide)).1 k_ hs_.symm).2) (fun hn_ => (Kd.freshB (g := gb537) (o := .cells #[.bool x538000_1, u538001] 32 (0, 0)) (kx BK537) k_ hn_))⟩)) (below_size (ky HB))); replace HO_6 := kR HO_6 hb; replace HO_532001 := kV HO_532001 hb; replace HO_538001 := kV HO_538001 hb; replace BK530 := kb BK530 hb; replace BK531 := kb BK531 hb; replace BK532 := kb BK532 hb; replace BK533 := kb BK533 hb; replace BK537 := kb BK537 hb; replace HB := kB HB hb; (try clear hb); (try clear hb2); (try clear hk); (try clear hi); (try clear ho0)) | ((with_reducible refine gate_dst (N := 9) rfl ?_); refine box_event ?hg (N := 9) ?hd (cs := #[.bool false, .slice none 0 0]) (t := 32) ?hr ?_; (case hd => rfl); (case hg => rfl); (case hr => first | (go_simp; done) | (go_simp; rfl)); intro gb564 hg w82 hbox hb; have n0_ := kR HO_6 hb; have n1_ := Aside0.mk (Kd.V_below (Kd.V_elderB (kv HO_532001) gb564 (Nat.le_of_eq hg.symm)) hb); have n2_ := Aside0.mk (Kd.V_below (Kd.V_elderB (kv HO_538001) gb564 (Nat.le_of_eq hg.symm)) hb); have n3_ := Aside0.mk (Kd.V_below (Kd.V_elderB (kv HO563) gb564 (Nat.le_of_eq hg.symm)) hb); have n4_ := kb BK530 hb; have n5_ := kb BK531 hb; have n6_ := kb BK532 hb; have n7_ := kb BK533 hb; have n8_ := kb BK537 hb; have n9_ := kB HB hb; have n10_ := Aside0.mk (hbox); have n11_ := kS HB hg; have n12_ := kS HB hg; have n13_ := kN BK530 hg; have n14_ := kM BK530 hg; have n15_ := kN BK531 hg; have n16_ := kM BK531 hg; have n17_ := kN BK532 hg; have n18_ := kM BK532 hg; have n19_ := kN BK533 hg; have n20_ := kM BK533 hg; have n21_ := kN BK537 hg; have n22_ := kM BK537 hg; clear HO_6; clear HO_532001; clear HO_538001; clear HO563; clear BK530; clear BK531; clear BK532; clear BK533; clear BK537; clear HB; have HO_6 := n0_; have HO_532001 := n1_; have HO_538001 := n2_; have HO563 := n3_; have BK530 := n4_; have BK531 := n5_; have BK532 := n6_; have BK533 := n7_; have BK537 := n8_; have HB := n9_; have BK564 := n10_; have GW564 := n11_; have GE564 := n12_; have NB530_564 := n13_; have NB564_530 := n14_; have NB531_564 := n15_; have NB564_531 := n16_; have NB532_564 := n17_; have NB564_532 := n18_; have NB533_564 := n19_; have NB564_533 := n20_; have NB537_564 := n21_; have NB564_537 := n22_; clear n0_ n1_ n2_ n3_ n4_ n5_ n6_ n7_ n8_ n9_ n10_ n11_ n12_ n13_ n14_ n15_ n16_ n17_ n18_ n19_ n20_ n21_ n22_; clear hb hbox hg; have hnb83 := NB564_530.out; have hnc83 := NB530_564.out; have hnb84 := NB564_531.out; have hnc84 := NB531_564.out; have hnb85 := NB564_532.out; have hnc85 := NB532_564.out; have hnb86 := NB564_533.out; have hnc86 := NB533_564.out; have hnb87 := NB564_537.out; have hnc87 := NB537_564.out; have hcz88_0 : w82.cell? ⟨gb564, 0, none⟩ = some (.bool false) := kc BK564 0; have hcz88_1 : w82.cell? ⟨gb564, 1, none⟩ = some (.slice none 0 0) := kc BK564 1; have hfz88_0 := blk_frozen BK564.out 0; have hfz88_1 := blk_frozen BK564.out 1; obtain ⟨Ao89, co89, eo89⟩ := Kd.V_slice HO563.out; subst eo89))
        (try simp only [Act.put, s1, s2, s3])
        go_cut [59] (fun v59 wc => ∃ (kq : Nat) (x59_73 : Bool), v59 = .bool x59_73 ∧ Aside0 (cobwebref01_Div.j2 kq x59_73 a1_0 l1_1 x538000_1 x538001_1 t560 t561 = some (r1, r2, r3, r4)) ∧ Aside0 (kq ≤ k1) ∧ Aside0 (Kd.V (Kd.int .i64) 3 wc w.heap.size (fun k_ => (P1_1_ k_ ∨ w.heap.size ≤ k_) ∧ k_ ≠ gb530 ∧ k_ ≠ gb531 ∧ k_ ≠ gb532 ∧ k_ ≠ gb533 ∧ k_ ≠ gb537 ∧ k_ ≠ gb564) (.slice A1_1 l1_1.length c1_1) l1_1) ∧ Aside0 (Kd.V (Kd.int .i64) 3 wc w.heap.size (fun k_ => (P1_1_ k_ ∨ w.heap.size ≤ k_) ∧ k_ ≠ gb530 ∧ k_ ≠ gb531 ∧ k_ ≠ gb532 ∧ k_ ≠ gb533 ∧ k_ ≠ gb537 ∧ k_ ≠ gb564) u538001 x538001_1) ∧ Aside0 (Kd.V (Kd.int .i64) 3 wc w.heap.size (fun k_ => (P1_1_ k_ ∨ w.heap.size ≤ k_) ∧ k_ ≠ gb530 ∧ k_ ≠ gb531 ∧ k_ ≠ gb532 ∧ k_ ≠ gb533 ∧ k_ ≠ gb537 ∧ k_ ≠ gb564) (.slice Ao89 t561.length co89) t561) ∧ Aside0 (wc.heap[gb530]? = some (.cells #[.bool a0_0, (.slice A0_1 l0_1.length c0_1)] 32 (0, 0))) ∧ Aside0 (wc.heap[gb531]? = some (.cells #[.bool a1_0, (.slice A1_1 l1_1.length c1_1)] 32 (0, 0))) ∧ Aside0 (wc.heap[gb532]? = some (.cells #[.bool false, (.slice none 0 0)] 32 (0, 0))) ∧ Aside0 (wc.heap[gb533]? = some (.cells #[.bool false, (.slice none 0 0)] 32 (0, 0))) ∧ Aside0 (wc.heap[gb537]? = some (.cells #[.bool x538000_1, u538001] 32 (0, 0))) ∧ Aside0 (wc.heap[gb564]? = some (.cells #[.bool t560, (.slice Ao89 t561.length co89)] 32 (0, 0))) ∧ Aside0 (Below w.heap.size w wc))
        case first =>
          have H := HC74.out; clear HC74
          by_cases c90 : a0_0 = true
          rotate_left
          · replace c90 := Bool.eq_false_iff.mpr c90
            subst c90
            have H1 : (cobwebref01_Div.j2 k1 false a1_0 l1_1 x538000_1 x538001_1 t560 t561) = some (r1, r2, r3, r4) := by rw [if_neg (show ¬ (false = true) by decide)] at H; exact H
            clear H; have H := H1; clear H1
            have H' := Aside0.mk H
            clear H; have hnb103 := NB530_531.out; have hnc103 := NB531_530.out; have hnb104 := NB530_532.out; have hnc104 := NB532_530.out; have hnb105 := NB530_533.out; have hnc105 := NB533_530.out; have hnb106 := NB530_537.out; have hnc106 := NB537_530.out; have hnb107 := NB530_564.out; have hnc107 := NB564_530.out
            have hcz108_0 : w82.cell? ⟨gb530, 0, none⟩ = some (.bool false) := kc BK530 0
            have hcz108_1 : w82.cell? ⟨gb530, 1, none⟩ = some (.slice A0_1 l0_1.length c0_1) := kc BK530 1
            have hfz108_0 := blk_frozen BK530.out 0
            have hfz108_1 := blk_frozen BK530.out 1
            go_wp2
            go_meet
            case rel => exact ⟨_, (false), (by first | rfl | (simp; done) | (simp [*]; done)), H', ⟨by have := HK1.out; first | omega | exact Nat.le_refl _⟩, ⟨by (with_reducible repeat (first | apply Kd.V_alloc | apply Kd.V_drewN | apply Kd.V_drew)); exact Kd.V_mono (Kd.V_far (p := ⟨gb564, 1, none⟩) (Kd.V_far (p := ⟨gb564, 0, none⟩) (Kd.V_mono HO_532001.out (fun k_ hk => (⟨hk, hk.2⟩ : _ ∧ k_ ≠ gb564))) (fun _ hk => hk.2) (.bool t560)) (fun _ hk => hk.2) (.slice Ao89 t561.length co89)) (fun _ hk => ⟨hk.1.1.1, ⟨hk.1.1.2.2.1, ⟨hk.1.1.2.2.2.1, ⟨hk.1.1.2.2.2.2.1, ⟨hk.1.1.2.2.2.2.2.1, ⟨hk.1.1.2.2.2.2.2.2, hk.1.2⟩⟩⟩⟩⟩⟩)⟩, ⟨by (with_reducible repeat (first | apply Kd.V_alloc | apply Kd.V_drewN | apply Kd.V_drew)); exact Kd.V_mono (Kd.V_far (p := ⟨gb564, 1, none⟩) (Kd.V_far (p := ⟨gb564, 0, none⟩) (Kd.V_mono HO_538001.out (fun k_ hk => (⟨hk, hk.2⟩ : _ ∧ k_ ≠ gb564))) (fun _ hk => hk.2) (.bool t560)) (fun _ hk => hk.2) (.slice Ao89 t561.length co89)) (fun _ hk => ⟨hk.1.1.1, ⟨hk.1.1.2.2.1, ⟨hk.1.1.2.2.2.1, ⟨hk.1.1.2.2.2.2.1, ⟨hk.1.1.2.2.2.2.2.1, ⟨hk.1.1.2.2.2.2.2.2, hk.1.2⟩⟩⟩⟩⟩⟩)⟩, ⟨by (with_reducible repeat (first | apply Kd.V_alloc | apply Kd.V_drewN | apply Kd.V_drew)); exact Kd.V_mono (Kd.V_far (p := ⟨gb564, 1, none⟩) (Kd.V_far (p := ⟨gb564, 0, none⟩) (Kd.V_mono HO563.out (fun k_ hk => (⟨hk, hk.2⟩ : _ ∧ k_ ≠ gb564))) (fun _ hk => hk.2) (.bool t560)) (fun _ hk => hk.2) (.slice Ao89 t561.length co89)) (fun _ hk => ⟨hk.1.1.1, ⟨hk.1.1.2.1, ⟨hk.1.1.2.2.1, ⟨hk.1.1.2.2.2.1, ⟨hk.1.1.2.2.2.2.1, ⟨hk.1.1.2.2.2.2.2, hk.1.2⟩⟩⟩⟩⟩⟩)⟩, ⟨kx BK530⟩, ⟨kx BK531⟩, ⟨kx BK532⟩, ⟨kx BK533⟩, ⟨kx BK537⟩, ⟨by (with_reducible repeat (first | refine blk_drewN ?_ _ | refine blk_drew ?_ | refine blk_alloc ?_ _)); refine blk_put (cs := #[.bool t560, .slice none 0 0]) ?_ 1 _ rfl; (with_reducible repeat (first | refine blk_drewN ?_ _ | refine blk_drew ?_ | refine blk_alloc ?_ _)); refine blk_put (cs := #[.bool false, .slice none 0 0]) ?_ 0 _ rfl; (with_reducible repeat (first | refine blk_drewN ?_ _ | refine blk_drew ?_ | refine blk_alloc ?_ _)); exact BK564.out⟩, ⟨ky HB⟩⟩
          subst c90
          have H1 : (cobwebref01_Div.j2 k1 (decide ((x538001_1.length : Int) > 0)) a1_0 l1_1 x538000_1 x538001_1 t560 t561) = some (r1, r2, r3, r4) := by rw [if_pos rfl] at H; exact H
          clear H; have H := H1; clear H1
          have H' := Aside0.mk H
          clear H; have hnb91 := NB530_531.out; have hnc91 := NB531_530.out; have hnb92 := NB530_532.out; have hnc92 := NB532_530.out; have hnb93 := NB530_533.out; have hnc93 := NB533_530.out; have hnb94 := NB530_537.out; have hnc94 := NB537_530.out; have hnb95 := NB530_564.out; have hnc95 := NB564_530.out
          have hcz96_0 : w82.cell? ⟨gb530, 0, none⟩ = some (.bool true) := kc BK530 0
          have hcz96_1 : w82.cell? ⟨gb530, 1, none⟩ = some (.slice A0_1 l0_1.length c0_1) := kc BK530 1
          have hfz96_0 := blk_frozen BK530.out 0
          have hfz96_1 := blk_frozen BK530.out 1
          have hnb97 := NB537_531.out; have hnc97 := NB531_537.out; have hnb98 := NB537_532.out; have hnc98 := NB532_537.out; have hnb99 := NB537_533.out; have hnc99 := NB533_537.out; have hnb100 := NB537_564.out; have hnc100 := NB564_537.out
          have hcz101_0 : w82.cell? ⟨gb537, 0, none⟩ = some (.bool x538000_1) := kc BK537 0
          have hcz101_1 : w82.cell? ⟨gb537, 1, none⟩ = some (u538001) := kc BK537 1
          have hfz101_0 := blk_frozen BK537.out 0
          have hfz101_1 := blk_frozen BK537.out 1
          obtain ⟨Ao102, co102, eo102⟩ := Kd.V_slice HO_538001.out
          subst eo102
          go_wp2
          go_meet
          case rel => exact ⟨_, (decide ((x538001_1.length : Int) > 0)), (by first | rfl | (simp; done) | (simp [*]; done)), H', ⟨by have := HK1.out; first | omega | exact Nat.le_refl _⟩, ⟨by (with_reducible repeat (first | apply Kd.V_alloc | apply Kd.V_drewN | apply Kd.V_drew)); exact Kd.V_mono (Kd.V_far (p := ⟨gb564, 1, none⟩) (Kd.V_far (p := ⟨gb564, 0, none⟩) (Kd.V_mono HO_532001.out (fun k_ hk => (⟨hk, hk.2⟩ : _ ∧ k_ ≠ gb564))) (fun _ hk => hk.2) (.bool t560)) (fun _ hk => hk.2) (.slice Ao89 t561.length co89)) (fun _ hk => ⟨hk.1.1.1, ⟨hk.1.1.2.2.1, ⟨hk.1.1.2.2.2.1, ⟨hk.1.1.2.2.2.2.1, ⟨hk.1.1.2.2.2.2.2.1, ⟨hk.1.1.2.2.2.2.2.2, hk.1.2⟩⟩⟩⟩⟩⟩)⟩, ⟨by (with_reducible repeat (first | apply Kd.V_alloc | apply Kd.V_drewN | apply Kd.V_drew)); exact Kd.V_mono (Kd.V_far (p := ⟨gb564, 1, none⟩) (Kd.V_far (p := ⟨gb564, 0, none⟩) (Kd.V_mono HO_538001.out (fun k_ hk => (⟨hk, hk.2⟩ : _ ∧ k_ ≠ gb564))) (fun _ hk => hk.2) (.bool t560)) (fun _ hk => hk.2) (.slice Ao89 t561.length co89)) (fun _ hk => ⟨hk.1.1.1, ⟨hk.1.1.2.2.1, ⟨hk.1.1.2.2.2.1, ⟨hk.1.1.2.2.2.2.1, ⟨hk.1.1.2.2.2.2.2.1, ⟨hk.1.1.2.2.2.2.2.2, hk.1.2⟩⟩⟩⟩⟩⟩)⟩, ⟨by (with_reducible repeat (first | apply Kd.V_alloc | apply Kd.V_drewN | apply Kd.V_drew)); exact Kd.V_mono (Kd.V_far (p := ⟨gb564, 1, none⟩) (Kd.V_far (p := ⟨gb564, 0, none⟩) (Kd.V_mono HO563.out (fun k_ hk => (⟨hk, hk.2⟩ : _ ∧ k_ ≠ gb564))) (fun _ hk => hk.2) (.bool t560)) (fun _ hk => hk.2) (.slice Ao89 t561.length co89)) (fun _ hk => ⟨hk.1.1.1, ⟨hk.1.1.2.1, ⟨hk.1.1.2.2.1, ⟨hk.1.1.2.2.2.1, ⟨hk.1.1.2.2.2.2.1, ⟨hk.1.1.2.2.2.2.2, hk.1.2⟩⟩⟩⟩⟩⟩)⟩, ⟨kx BK530⟩, ⟨kx BK531⟩, ⟨kx BK532⟩, ⟨kx BK533⟩, ⟨kx BK537⟩, ⟨by (with_reducible repeat (first | refine blk_drewN ?_ _ | refine blk_drew ?_ | refine blk_alloc ?_ _)); refine blk_put (cs := #[.bool t560, .slice none 0 0]) ?_ 1 _ rfl; (with_reducible repeat (first | refine blk_drewN ?_ _ | refine blk_drew ?_ | refine blk_alloc ?_ _)); refine blk_put (cs := #[.bool false, .slice none 0 0]) ?_ 0 _ rfl; (with_reducible repeat (first | refine blk_drewN ?_ _ | refine blk_drew ?_ | refine blk_alloc ?_ _)); exact BK564.out⟩, ⟨ky HB⟩⟩
        case rest =>
          clear HC74; try clear c1; try clear c2; try clear p2; try clear c3; try clear c3b0; try clear c3b1; try clear p3; try clear q3; try clear hx3; try clear hf3; try clear c4; try clear c4b0; try clear c4b1; try clear c5; try clear p5; try clear q5; try clear hx5; try clear c6; try clear p6; try clear c7; try clear c8; try clear c9; try clear c10; try clear c11; try clear c16; try clear c18; try clear c18b0; try clear c19; try clear c19b0; try clear c20; try clear c20b0; try clear c21; try clear c25; try clear c28; try clear c31; try clear c34; try clear c34b0; try clear c37; try clear c37b0; try clear c38; try clear c38b0; try clear p39; try clear q39; try clear hx39; try clear hf39; try clear c40; try clear c41; try clear c42; try clear c43; try clear c45; try clear c46; try clear c47; try clear p53; try clear q53; try clear hx53; try clear p55; try clear q55; try clear hx55; try clear c57; try clear c62; try clear c63; try clear c64; try clear p64; try clear c65; try clear c67; try clear c68; try clear c69; try clear c75; try clear c76; try clear c77; try clear c78; try clear c83; try clear c84; try clear c85; try clear c86; try clear c87; try clear c90; try clear c91; try clear c92; try clear c93; try clear c94; try clear c95; try clear c97; try clear c98; try clear c99; try clear c100; try clear c103; try clear c104; try clear c105; try clear c106; try clear c107; try clear hcz101_0; try clear hcz101_1; try clear hcz108_0; try clear hcz108_1; try clear hcz12_0; try clear hcz12_1; try clear hcz17_0; try clear hcz17_1; try clear hcz44_0; try clear hcz44_1; try clear hcz48_0; try clear hcz48_1; try clear hcz66_0; try clear hcz66_1; try clear hcz70_0; try clear hcz70_1; try clear hcz79_0; try clear hcz79_1; try clear hcz88_0; try clear hcz88_1; try clear hcz96_0; try clear hcz96_1; try clear hfz101_0; try clear hfz101_1; try clear hfz108_0; try clear hfz108_1; try clear hfz12_0; try clear hfz12_1; try clear hfz17_0; try clear hfz17_1; try clear hfz44_0; try clear hfz44_1; try clear hfz48_0; try clear hfz48_1; try clear hfz66_0; try clear hfz66_1; try clear hfz70_0; try clear hfz70_1; try clear hfz79_0; try clear hfz79_1; try clear hfz88_0; try clear hfz88_1; try clear hfz96_0; try clear hfz96_1; try clear hx39_0; try clear hx538_0; try clear hx558_0; try clear p2; try clear p39; try clear p5; try clear p538; try clear p558; try clear p6; try clear q39; try clear q5; try clear q538; try clear q558
          obtain ⟨kq, x59_73, rfl, HA, HJ73, HO_532001, HO_538001, HO_565001, BK530, BK531, BK532, BK533, BK537, BK564, HB⟩ := hcut
          cases kq with
          | zero => exact absurd HA.out (by simp [cobwebref01_Div.j2])
          | succ kj73 =>
            have H := HA.out; clear HA
            simp only [cobwebref01_Div.j2] at H
            by_cases c109 : x59_73 = true
            rotate_left
            · replace c109 := Bool.eq_false_iff.mpr c109
              subst c109
              have H1 : (some (t560, t561, x538000_1, x538001_1)) = some (r1, r2, r3, r4) := by rw [if_neg (show ¬ (false = true) by decide)] at H; exact H
              clear H; have H := H1; clear H1
              simp only [Option.some.injEq, Prod.mk.injEq] at H
              obtain ⟨rfl, rfl, rfl, rfl⟩ := H
              try go_wp2
              replace HO_532001 := Aside0.mk (Kd.V_drew HO_532001.out)
              replace HO_538001 := Aside0.mk (Kd.V_drew HO_538001.out)
              replace HO_565001 := Aside0.mk (Kd.V_drew HO_565001.out)
              replace BK530 := Aside0.mk (blk_drew BK530.out)
              replace BK531 := Aside0.mk (blk_drew BK531.out)
              replace BK532 := Aside0.mk (blk_drew BK532.out)
              replace BK533 := Aside0.mk (blk_drew BK533.out)
              replace BK537 := Aside0.mk (blk_drew BK537.out)
              replace BK564 := Aside0.mk (blk_drew BK564.out)
              replace HB := Aside0.mk (below_drew1 HB.out)
              obtain ⟨Ao132, co132, eo132⟩ := Kd.V_slice HO_538001.out
              (first | subst eo132 | (injection eo132 with f1_ f2_ f3_; have f4_ := f1_.symm; have f5_ := f3_.symm; clear f1_ f2_ f3_; subst f4_; subst f5_))
              refine start_ (n := 4) (S := fun w' => w'.cell? ⟨gb564, 0, none⟩ = some (.bool t560) ∧ w'.cell? ⟨gb564, 1, none⟩ = some (.slice Ao89 t561.length co89) ∧ w'.cell? ⟨gb537, 0, none⟩ = some (.bool x538000_1) ∧ w'.cell? ⟨gb537, 1, none⟩ = some (.slice Ao132 x538001_1.length co132)) (ds := []) #[O, O, O, O] (by kernel_rfl) rfl rfl ⟨kc BK564 0, kc BK564 1, kc BK537 0, kc BK537 1⟩ (fun hHeld => ?_)
              generalize wc.drew = w128 at HO_532001 HO_538001 HO_565001 BK530 BK531 BK532 BK533 BK537 BK564 HB hHeld ⊢
              refine take_ (i := 0) (N := some 67) (v := ?_) (a' := ?_) #[T, O, O, O] rfl rfl (by kernel_rfl) (fun _ _ _ h => h) (Or.inl ⟨by rfl, ?_⟩) hHeld ?_ ?_; rotate_left; focus (rintro w' ⟨s0, s1, s2, s3⟩; go_simp; with_reducible rfl)
              rotate_left; focus (simp only [Act.put, s1, s2, s3, i64_w, i32_w]; rfl)
              refine take_ (i := 1) (N := some 68) (v := ?_) (a' := ?_) #[T, T, O, O] rfl rfl (by kernel_rfl) (fun _ _ _ h => h) (Or.inl ⟨by rfl, ?_⟩) hHeld ?_ ?_; rotate_left; focus (rintro w' ⟨s0, s1, s2, s3⟩; go_simp; with_reducible rfl)
              rotate_left; focus (simp only [Act.put, s1, s2, s3, i64_w, i32_w]; rfl)
              refine one_ (i := 2) (N := none) #[T, T, T, O] rfl rfl (by kernel_rfl) (by decide) (fun K hK => ?_)
              have hs129 : w128.cell? ⟨gb532, 0, none⟩ = some (.bool false) := kc BK532 0
              have hfs129 := blk_frozen BK532.out 0
              have hns129_0 := NB530_532.out; have hns129_1 := NB531_532.out; have hns129_3 := NB533_532.out; have hns129_4 := NB537_532.out; have hns129_5 := NB564_532.out; have hms129_0 := NB532_530.out; have hms129_1 := NB532_531.out; have hms129_3 := NB532_533.out; have hms129_4 := NB532_537.out; have hms129_5 := NB532_564.out
              have hs130 : w128.cell? ⟨gb532, 1, none⟩ = some (.slice none 0 0) := kc BK532 1
              have hfs130 := blk_frozen BK532.out 1
              have hns130_0 := NB530_532.out; have hns130_1 := NB531_532.out; have hns130_3 := NB533_532.out; have hns130_4 := NB537_532.out; have hns130_5 := NB564_532.out; have hms130_0 := NB532_530.out; have hms130_1 := NB532_531.out; have hms130_3 := NB532_533.out; have hms130_4 := NB532_537.out; have hms130_5 := NB532_564.out
              refine skip_ (w1 := ?_) (by rfl) rfl ?_ ?_
              rotate_left
              · go_simp
                rfl
              refine hK.out _ _ ⟨((cell_far (p := ⟨gb532, _, none⟩) NB564_532.out _).trans (((cell_far (p := ⟨gb532, _, none⟩) NB564_532.out _).trans (hHeld.1)))), ((cell_far (p := ⟨gb532, _, none⟩) NB564_532.out _).trans (((cell_far (p := ⟨gb532, _, none⟩) NB564_532.out _).trans (hHeld.2.1)))), ((cell_far (p := ⟨gb532, _, none⟩) NB537_532.out _).trans (((cell_far (p := ⟨gb532, _, none⟩) NB537_532.out _).trans (hHeld.2.2.1)))), ((cell_far (p := ⟨gb532, _, none⟩) NB537_532.out _).trans (((cell_far (p := ⟨gb532, _, none⟩) NB537_532.out _).trans (hHeld.2.2.2))))⟩ (fun hHeld => ?_)
              clear hK K
              refine one_ (i := 3) (N := none) #[T, T, T, T] rfl rfl (by kernel_rfl) (by decide) (fun K hK => ?_)
              have hs131 : w128.cell? ⟨gb533, 0, none⟩ = some (.bool false) := kc BK533 0
              have hfs131 := blk_frozen BK533.out 0
              have hns131_0 := NB530_533.out; have hns131_1 := NB531_533.out; have hns131_2 := NB532_533.out; have hns131_4 := NB537_533.out; have hns131_5 := NB564_533.out; have hms131_0 := NB533_530.out; have hms131_1 := NB533_531.out; have hms131_2 := NB533_532.out; have hms131_4 := NB533_537.out; have hms131_5 := NB533_564.out
              have hs133 : w128.cell? ⟨gb533, 1, none⟩ = some (.slice none 0 0) := kc BK533 1
              have hfs133 := blk_frozen BK533.out 1
              have hns133_0 := NB530_533.out; have hns133_1 := NB531_533.out; have hns133_2 := NB532_533.out; have hns133_4 := NB537_533.out; have hns133_5 := NB564_533.out; have hms133_0 := NB533_530.out; have hms133_1 := NB533_531.out; have hms133_2 := NB533_532.out; have hms133_4 := NB533_537.out; have hms133_5 := NB533_564.out
              refine skip_ (w1 := ?_) (by rfl) rfl ?_ ?_
              rotate_left
              · go_simp
                rfl
              refine hK.out _ _ ⟨((cell_far (p := ⟨gb533, _, none⟩) NB564_533.out _).trans (((cell_far (p := ⟨gb533, _, none⟩) NB564_533.out _).trans (hHeld.1)))), ((cell_far (p := ⟨gb533, _, none⟩) NB564_533.out _).trans (((cell_far (p := ⟨gb533, _, none⟩) NB564_533.out _).trans (hHeld.2.1)))), ((cell_far (p := ⟨gb533, _, none⟩) NB537_533.out _).trans (((cell_far (p := ⟨gb533, _, none⟩) NB537_533.out _).trans (hHeld.2.2.1)))), ((cell_far (p := ⟨gb533, _, none⟩) NB537_533.out _).trans (((cell_far (p := ⟨gb533, _, none⟩) NB537_533.out _).trans (hHeld.2.2.2))))⟩ (fun hHeld => ?_)
              clear hK K
              refine done_ (by kernel_rfl) ?_
              try go_wp2
              refine bodyPost_ret (results_cc rfl _ _ gb532 gb533 32 32 #[.bool t560, .slice Ao89 t561.length co89] #[.bool x538000_1, .slice Ao132 x538001_1.length co132] (0, 0) (0, 0) _ _ rfl (by (with_reducible repeat (first | refine blk_drewN ?_ _ | refine blk_drew ?_ | refine blk_alloc ?_ _)); refine blk_far ?_ NB532_533.out _; (with_reducible repeat (first | refine blk_drewN ?_ _ | refine blk_drew ?_ | refine blk_alloc ?_ _)); refine blk_far ?_ NB532_533.out _; (with_reducible repeat (first | refine blk_drewN ?_ _ | refine blk_drew ?_ | refine blk_alloc ?_ _)); refine blk_put (cs := #[.bool t560, .slice none 0 0]) ?_ 1 _ rfl; (with_reducible repeat (first | refine blk_drewN ?_ _ | refine blk_drew ?_ | refine blk_alloc ?_ _)); refine blk_put (cs := #[.bool false, .slice none 0 0]) ?_ 0 _ rfl; (with_reducible repeat (first | refine blk_drewN ?_ _ | refine blk_drew ?_ | refine blk_alloc ?_ _)); exact BK532.out) Try.underlying32 rfl (by kernel_rfl) rfl (by (with_reducible repeat (first | refine blk_drewN ?_ _ | refine blk_drew ?_ | refine blk_alloc ?_ _)); refine blk_put (cs := #[.bool x538000_1, .slice none 0 0]) ?_ 1 _ rfl; (with_reducible repeat (first | refine blk_drewN ?_ _ | refine blk_drew ?_ | refine blk_alloc ?_ _)); refine blk_put (cs := #[.bool false, .slice none 0 0]) ?_ 0 _ rfl; (with_reducible repeat (first | refine blk_drewN ?_ _ | refine blk_drew ?_ | refine blk_alloc ?_ _)); refine blk_far ?_ NB533_532.out _; (with_reducible repeat (first | refine blk_drewN ?_ _ | refine blk_drew ?_ | refine blk_alloc ?_ _)); refine blk_far ?_ NB533_532.out _; (with_reducible repeat (first | refine blk_drewN ?_ _ | refine blk_drew ?_ | refine blk_alloc ?_ _)); exact BK533.out) Try.underlying32 rfl (by kernel_rfl)) rfl ?_
              exact ⟨_, _, by first | rfl | (simp [errW_none, errW_some] <;> rfl) | (simp [*, errW_none, errW_some] <;> rfl), by (with_reducible repeat (first | apply Kd.V_alloc | apply Kd.V_drewN | apply Kd.V_drew)); exact Kd.V_mono (Kd.V_far (p := ⟨gb533, 1, none⟩) (Kd.V_far (p := ⟨gb533, 0, none⟩) (Kd.V_far (p := ⟨gb532, 1, none⟩) (Kd.V_far (p := ⟨gb532, 0, none⟩) (Kd.V_mono (Kd.V_mono HO_565001.out (fun k_ hk => (⟨hk, hk.2.2.2.1⟩ : _ ∧ k_ ≠ gb532))) (fun k_ hk => (⟨hk, hk.1.2.2.2.2.1⟩ : _ ∧ k_ ≠ gb533))) (fun _ hk => hk.1.2) (.bool t560)) (fun _ hk => hk.1.2) (.slice Ao89 t561.length co89)) (fun _ hk => hk.2) (.bool x538000_1)) (fun _ hk => hk.2) (.slice Ao132 x538001_1.length co132)) (fun _ hk => hk.1.1.1), by (with_reducible repeat (first | apply Kd.V_alloc | apply Kd.V_drewN | apply Kd.V_drew)); exact Kd.V_mono (Kd.V_far (p := ⟨gb533, 1, none⟩) (Kd.V_far (p := ⟨gb533, 0, none⟩) (Kd.V_far (p := ⟨gb532, 1, none⟩) (Kd.V_far (p := ⟨gb532, 0, none⟩) (Kd.V_mono (Kd.V_mono HO_538001.out (fun k_ hk => (⟨hk, hk.2.2.2.1⟩ : _ ∧ k_ ≠ gb532))) (fun k_ hk => (⟨hk, hk.1.2.2.2.2.1⟩ : _ ∧ k_ ≠ gb533))) (fun _ hk => hk.1.2) (.bool t560)) (fun _ hk => hk.1.2) (.slice Ao89 t561.length co89)) (fun _ hk => hk.2) (.bool x538000_1)) (fun _ hk => hk.2) (.slice Ao132 x538001_1.length co132)) (fun _ hk => hk.1.1.1), ky HB⟩
            subst c109
            have H1 : ((cobwebref01_Of.f kj73 (-1)).bind fun bt565 => ((cobwebref01_Add.f kj73 t560 t561 bt565.1 bt565.2).bind fun bt569 => ((cobwebref01_Neg.f kj73 x538000_1 x538001_1).bind fun bt573 => ((cobwebref01_Add.f kj73 a1_0 l1_1 bt573.1 bt573.2).bind fun bt577 => (some (bt569.1, bt569.2, bt577.1, bt577.2)))))) = some (r1, r2, r3, r4) := by rw [if_pos rfl] at H; exact H
            clear H; have H := H1; clear H1
            replace H := Option.bind_eq_some_iff.mp H
            obtain ⟨⟨t565, t566⟩, A1100, H⟩ := H
            replace H : ((cobwebref01_Add.f kj73 t560 t561 t565 t566).bind fun bt569 => ((cobwebref01_Neg.f kj73 x538000_1 x538001_1).bind fun bt573 => ((cobwebref01_Add.f kj73 a1_0 l1_1 bt573.1 bt573.2).bind fun bt577 => (some (bt569.1, bt569.2, bt577.1, bt577.2))))) = some (r1, r2, r3, r4) := H
            have A110 := Aside0.mk A1100
            clear A1100
            replace H := Option.bind_eq_some_iff.mp H
            obtain ⟨⟨t569, t570⟩, A1110, H⟩ := H
            replace H : ((cobwebref01_Neg.f kj73 x538000_1 x538001_1).bind fun bt573 => ((cobwebref01_Add.f kj73 a1_0 l1_1 bt573.1 bt573.2).bind fun bt577 => (some (t569, t570, bt577.1, bt577.2)))) = some (r1, r2, r3, r4) := H
            have A111 := Aside0.mk A1110
            clear A1110
            replace H := Option.bind_eq_some_iff.mp H
            obtain ⟨⟨t573, t574⟩, A1120, H⟩ := H
            replace H : ((cobwebref01_Add.f kj73 a1_0 l1_1 t573 t574).bind fun bt577 => (some (t569, t570, bt577.1, bt577.2))) = some (r1, r2, r3, r4) := H
            have A112 := Aside0.mk A1120
            clear A1120
            replace H := Option.bind_eq_some_iff.mp H
            obtain ⟨⟨t577, t578⟩, A1130, H⟩ := H
            replace H : (some (t569, t570, t577, t578)) = some (r1, r2, r3, r4) := H
            have A113 := Aside0.mk A1130
            clear A1130
            simp only [Option.some.injEq, Prod.mk.injEq] at H
            obtain ⟨rfl, rfl, rfl, rfl⟩ := H
            try go_wp2
            replace HO_532001 := Aside0.mk (Kd.V_drew HO_532001.out)
            replace HO_538001 := Aside0.mk (Kd.V_drew HO_538001.out)
            replace HO_565001 := Aside0.mk (Kd.V_drew HO_565001.out)
            replace BK530 := Aside0.mk (blk_drew BK530.out)
            replace BK531 := Aside0.mk (blk_drew BK531.out)
            replace BK532 := Aside0.mk (blk_drew BK532.out)
            replace BK533 := Aside0.mk (blk_drew BK533.out)
            replace BK537 := Aside0.mk (blk_drew BK537.out)
            replace BK564 := Aside0.mk (blk_drew BK564.out)
            replace HB := Aside0.mk (below_drew1 HB.out)
            refine start_ (n := 9) (S := fun w' => w'.cell? ⟨gb564, 0, none⟩ = some (.bool t560) ∧ w'.cell? ⟨gb564, 1, none⟩ = some (.slice Ao89 t561.length co89) ∧ w'.cell? ⟨gb531, 0, none⟩ = some (.bool a1_0) ∧ w'.cell? ⟨gb531, 1, none⟩ = some (.slice A1_1 l1_1.length c1_1) ∧ w'.cell? ⟨gb537, 0, none⟩ = some (.bool x538000_1) ∧ w'.cell? ⟨gb537, 1, none⟩ = some (u538001)) (ds := []) #[O, O, O, O, O, O, O, O, O] (by kernel_rfl) rfl rfl ⟨kc BK564 0, kc BK564 1, kc BK531 0, kc BK531 1, kc BK537 0, kc BK537 1⟩ (fun hHeld => ?_); refine with_tabW cobwebref01_Div.tab12 cobwebref01_Div.bits12 (fun HT_ HW_ => ?_)
            generalize wc.drew = w114 at HO_532001 HO_538001 HO_565001 BK530 BK531 BK532 BK533 BK537 BK564 HB hHeld ⊢
            refine take_ (i := 0) (N := some 60) (v := ?_) (a' := ?_) #[T, O, O, O, O, O, O, O, O] rfl rfl (take_ofW HT_.out HW_.out (by kernel_rfl)) (fun _ _ _ h => h) (Or.inl ⟨by rfl, ?_⟩) hHeld ?_ ?_; rotate_left; focus (rintro w' ⟨s0, s1, s2, s3, s4, s5⟩; go_simp; with_reducible rfl)
            rotate_left; focus (simp only [Act.put, s1, s2, s3, i64_w, i32_w]; rfl)
            refine take_ (i := 3) (N := some 63) (v := ?_) (a' := ?_) #[T, O, O, T, O, O, O, O, O] rfl rfl (take_ofW HT_.out HW_.out (by kernel_rfl)) (fun _ _ _ h => h) (Or.inl ⟨by rfl, ?_⟩) hHeld ?_ ?_; rotate_left; focus (rintro w' ⟨s0, s1, s2, s3, s4, s5⟩; go_simp; with_reducible rfl)
            rotate_left; focus (simp only [Act.put, s1, s2, s3, i64_w, i32_w]; rfl)
            refine take_ (i := 4) (N := some 64) (v := ?_) (a' := ?_) #[T, O, O, T, T, O, O, O, O] rfl rfl (take_ofW HT_.out HW_.out (by kernel_rfl)) (fun _ _ _ h => h) (Or.inl ⟨by rfl, ?_⟩) hHeld ?_ ?_; rotate_left; focus (rintro w' ⟨s0, s1, s2, s3, s4, s5⟩; go_simp; with_reducible rfl)
            rotate_left; focus (simp only [Act.put, s1, s2, s3, i64_w, i32_w]; rfl)
            refine one_ (i := 1) (N := some 61) #[T, T, O, T, T, O, O, O, O] rfl rfl (one_of HT_.out (by kernel_rfl)) (by decide) (fun K hK => ?_)
            refine goes_ Try.func21 (by kernel_rfl) rfl #[.int .i64 (-1)] (by rfl) rfl rfl (by (try simp only [List.map_toArray, List.map_cons, List.map_nil]); first | done | rfl | (simp only [List.length_drop, List.length_take]; rfl)) ?_
            with_reducible refine (cobwebref01_Of.calls kj73 (-1) t565 t566 _ A110.out).mono ?_
            rintro e w115 ⟨v567, rfl, ho0, hb⟩
            refine ⟨_, rfl, ?_⟩
            have n0_ := Aside0.mk (Kd.V_elder' (kv HO_532001) (Kd.R_base ho0) hb)
            have n1_ := Aside0.mk (Kd.V_elder' (kv HO_538001) (Kd.R_base ho0) hb)
            have n2_ := Aside0.mk (Kd.V_elder' (kv HO_565001) (Kd.R_base ho0) hb)
            have n3_ := Aside0.mk (Kd.R_lower (Kd.R_newM (M := fun k_ => (w.heap.size ≤ k_)) ho0 (below_size (ky HB)) (fun k_ h_ => h_)) (below_size (ky HB)))
            have n4_ := kb BK530 hb
            have n5_ := kb BK531 hb
            have n6_ := kb BK532 hb
            have n7_ := kb BK533 hb
            have n8_ := kb BK537 hb
            have n9_ := kb BK564 hb
            have n10_ := kB HB hb
            clear HO_532001; clear HO_538001; clear HO_565001; clear BK530; clear BK531; clear BK532; clear BK533; clear BK537; clear BK564; clear HB; have HO_532001 := n0_; have HO_538001 := n1_; have HO_565001 := n2_; have HO568 := n3_; have BK530 := n4_; have BK531 := n5_; have BK532 := n6_; have BK533 := n7_; have BK537 := n8_; have BK564 := n9_; have HB := n10_
            clear n0_ n1_ n2_ n3_ n4_ n5_ n6_ n7_ n8_ n9_ n10_
            (try clear hb); (try clear hb2); (try clear hk); (try clear hi); (try clear ho0)
            obtain ⟨Ao116, co116, eo116⟩ := Kd.R_slice HO568.out
            (first | subst eo116 | (injection eo116 with f1_ f2_ f3_; have f4_ := f1_.symm; have f5_ := f3_.symm; clear f1_ f2_ f3_; subst f4_; subst f5_))
            refine hK.out _ _ ⟨kc BK564 0, kc BK564 1, kc BK531 0, kc BK531 1, kc BK537 0, kc BK537 1⟩ (fun hHeld => ?_)
            clear hK K
            refine norm_ (a' := ?_) ?_ ?_; rotate_left; focus (show Act.put _ (some 61) _ = _; simp only [Act.put, s1, s2, s3, i64_w, i32_w]; rfl)
            refine one_ (i := 2) (N := some 62) #[T, T, T, T, T, O, O, O, O] rfl rfl (one_of HT_.out (by kernel_rfl)) (by decide) (fun K hK => ?_)
            refine goes_ Try.func45 (by kernel_rfl) rfl #[.agg #[.bool t560, .slice Ao89 t561.length co89], .agg #[.bool t565, .slice Ao116 t566.length co116]] (by rfl) rfl rfl (by (try simp only [List.map_toArray, List.map_cons, List.map_nil]); first | done | rfl | (simp only [List.length_drop, List.length_take]; rfl)) ?_
            with_reducible refine (cobwebref01_Add.calls kj73 t560 _ _ t561 t565 _ _ t566 t569 t570 _ ?side1 ?side2 ?side3 ?side4 A111.out).mono ?_
            (case side1 => repeat (first | exact (Kd.V_reads' HO_565001.out).2.2 | (with_reducible refine Kd.C_alloc ?_ _) | (with_reducible refine Kd.C_drewN ?_ _) | (with_reducible refine Kd.C_drew ?_)))
            (case side2 => exact (Kd.V_reads' HO_565001.out).2.1)
            (case side3 => repeat (first | exact (Kd.R_reads' HO568.out).2.2 | (with_reducible refine Kd.C_alloc ?_ _) | (with_reducible refine Kd.C_drewN ?_ _) | (with_reducible refine Kd.C_drew ?_)))
            (case side4 => exact (Kd.R_reads' HO568.out).2.1)
            rintro e w117 ⟨v571, rfl, ho0, hb⟩
            refine ⟨_, rfl, ?_⟩
            have HO572 := Aside0.mk (Kd.V_lower (Kd.V_mono (ok' := fun k_ => (P1_1_ k_ ∨ w.heap.size ≤ k_) ∧ some k_ ≠ (.slice Ao116 t566.length co116 : Value).ownBlock ∧ k_ ≠ gb530 ∧ k_ ≠ gb531 ∧ k_ ≠ gb532 ∧ k_ ≠ gb533 ∧ k_ ≠ gb537 ∧ k_ ≠ gb564) ho0 (fun k_ hk_ => ⟨(.inr (Nat.le_trans (below_size (ky HB)) hk_)), (Kd.fresh' (Kd.R_lt (kr HO568)) k_ hk_), (Kd.freshB (g := gb530) (o := .cells #[.bool a0_0, .slice A0_1 l0_1.length c0_1] 32 (0, 0)) (kx BK530) k_ hk_), (Kd.freshB (g := gb531) (o := .cells #[.bool a1_0, .slice A1_1 l1_1.length c1_1] 32 (0, 0)) (kx BK531) k_ hk_), (Kd.freshB (g := gb532) (o := .cells #[.bool false, .slice none 0 0] 32 (0, 0)) (kx BK532) k_ hk_), (Kd.freshB (g := gb533) (o := .cells #[.bool false, .slice none 0 0] 32 (0, 0)) (kx BK533) k_ hk_), (Kd.freshB (g := gb537) (o := .cells #[.bool x538000_1, u538001] 32 (0, 0)) (kx BK537) k_ hk_), (Kd.freshB (g := gb564) (o := .cells #[.bool t560, .slice Ao89 t561.length co89] 32 (0, 0)) (kx BK564) k_ hk_)⟩)) (below_size (ky HB)))
            replace HO_532001 := kV HO_532001 hb
            replace HO_538001 := kV HO_538001 hb
            replace HO_565001 := kV HO_565001 hb
            replace HO568 := kR HO568 hb
            replace BK530 := kb BK530 hb
            replace BK531 := kb BK531 hb
            replace BK532 := kb BK532 hb
            replace BK533 := kb BK533 hb
            replace BK537 := kb BK537 hb
            replace BK564 := kb BK564 hb
            replace HB := kB HB hb
            (try clear hb); (try clear hb2); (try clear hk); (try clear hi); (try clear ho0)
            obtain ⟨Ao118, co118, eo118⟩ := Kd.V_slice HO_538001.out
            (first | subst eo118 | (injection eo118 with f1_ f2_ f3_; have f4_ := f1_.symm; have f5_ := f3_.symm; clear f1_ f2_ f3_; subst f4_; subst f5_))
            refine hK.out _ _ ⟨kc BK564 0, kc BK564 1, kc BK531 0, kc BK531 1, kc BK537 0, kc BK537 1⟩ (fun hHeld => ?_)
            clear hK K
            refine norm_ (a' := ?_) ?_ ?_; rotate_left; focus (show Act.put _ (some 62) _ = _; simp only [Act.put, s1, s2, s3, i64_w, i32_w]; rfl)
            refine one_ (i := 5) (N := some 65) #[T, T, T, T, T, T, O, O, O] rfl rfl (one_of HT_.out (by kernel_rfl)) (by decide) (fun K hK => ?_)
            refine goes_ Try.func31 (by kernel_rfl) rfl #[.agg #[.bool x538000_1, .slice Ao118 x538001_1.length co118]] (by rfl) rfl rfl (by (try simp only [List.map_toArray, List.map_cons, List.map_nil]); first | done | rfl | (simp only [List.length_drop, List.length_take]; rfl)) ?_
            with_reducible refine (cobwebref01_Neg.calls kj73 x538000_1 (fun k_ => (((P1_1_ k_ ∨ w.heap.size ≤ k_) ∧ (k_ ≠ gb530 ∧ (k_ ≠ gb531 ∧ (k_ ≠ gb532 ∧ (k_ ≠ gb533 ∧ (k_ ≠ gb537 ∧ k_ ≠ gb564)))))) ∧ some k_ ≠ (.slice Ao116 t566.length co116 : Value).ownBlock)) _ _ x538001_1 t573 t574 _ ?side1 A112.out).mono ?_
            (case side1 => exact HO_538001.out)
            rintro e w119 ⟨v575, rfl, ho0, hb⟩
            refine ⟨_, rfl, ?_⟩
            have HO576 := Aside0.mk (Kd.V_lower (Kd.V_mono (ok' := fun k_ => (P1_1_ k_ ∨ w.heap.size ≤ k_) ∧ some k_ ≠ (.slice Ao116 t566.length co116 : Value).ownBlock ∧ k_ ≠ gb530 ∧ k_ ≠ gb531 ∧ k_ ≠ gb532 ∧ k_ ≠ gb533 ∧ k_ ≠ gb537 ∧ k_ ≠ gb564) ho0 (fun k_ hk_ => ⟨Or.elim hk_ (fun hs_ => hs_.1.1) (fun hn_ => (.inr (Nat.le_trans (below_size (ky HB)) hn_))), Or.elim hk_ (fun hs_ => hs_.2) (fun hn_ => (Kd.fresh' (Kd.R_lt (kr HO568)) k_ hn_)), Or.elim hk_ (fun hs_ => hs_.1.2.1) (fun hn_ => (Kd.freshB (g := gb530) (o := .cells #[.bool a0_0, .slice A0_1 l0_1.length c0_1] 32 (0, 0)) (kx BK530) k_ hn_)), Or.elim hk_ (fun hs_ => hs_.1.2.2.1) (fun hn_ => (Kd.freshB (g := gb531) (o := .cells #[.bool a1_0, .slice A1_1 l1_1.length c1_1] 32 (0, 0)) (kx BK531) k_ hn_)), Or.elim hk_ (fun hs_ => hs_.1.2.2.2.1) (fun hn_ => (Kd.freshB (g := gb532) (o := .cells #[.bool false, .slice none 0 0] 32 (0, 0)) (kx BK532) k_ hn_)), Or.elim hk_ (fun hs_ => hs_.1.2.2.2.2.1) (fun hn_ => (Kd.freshB (g := gb533) (o := .cells #[.bool false, .slice none 0 0] 32 (0, 0)) (kx BK533) k_ hn_)), Or.elim hk_ (fun hs_ => hs_.1.2.2.2.2.2.1) (fun hn_ => (Kd.freshB (g := gb537) (o := .cells #[.bool x538000_1, .slice Ao118 x538001_1.length co118] 32 (0, 0)) (kx BK537) k_ hn_)), Or.elim hk_ (fun hs_ => hs_.1.2.2.2.2.2.2) (fun hn_ => (Kd.freshB (g := gb564) (o := .cells #[.bool t560, .slice Ao89 t561.length co89] 32 (0, 0)) (kx BK564) k_ hn_))⟩)) (below_size (ky HB)))
            replace HO_532001 := kV HO_532001 hb
            replace HO_538001 := kV HO_538001 hb
            replace HO_565001 := kV HO_565001 hb
            replace HO568 := kR HO568 hb
            replace HO572 := kV HO572 hb
            replace BK530 := kb BK530 hb
            replace BK531 := kb BK531 hb
            replace BK532 := kb BK532 hb
            replace BK533 := kb BK533 hb
            replace BK537 := kb BK537 hb
            replace BK564 := kb BK564 hb
            replace HB := kB HB hb
            (try clear hb); (try clear hb2); (try clear hk); (try clear hi); (try clear ho0)
            obtain ⟨Ao120, co120, eo120⟩ := Kd.V_slice HO576.out
            (first | subst eo120 | (injection eo120 with f1_ f2_ f3_; have f4_ := f1_.symm; have f5_ := f3_.symm; clear f1_ f2_ f3_; subst f4_; subst f5_))
            refine hK.out _ _ ⟨kc BK564 0, kc BK564 1, kc BK531 0, kc BK531 1, kc BK537 0, kc BK537 1⟩ (fun hHeld => ?_)
            clear hK K
            refine norm_ (a' := ?_) ?_ ?_; rotate_left; focus (show Act.put _ (some 65) _ = _; simp only [Act.put, s1, s2, s3, i64_w, i32_w]; rfl)
            refine one_ (i := 6) (N := some 66) #[T, T, T, T, T, T, T, O, O] rfl rfl (one_of HT_.out (by kernel_rfl)) (by decide) (fun K hK => ?_)
            refine goes_ Try.func45 (by kernel_rfl) rfl #[.agg #[.bool a1_0, .slice A1_1 l1_1.length c1_1], .agg #[.bool t573, .slice Ao120 t574.length co120]] (by rfl) rfl rfl (by (try simp only [List.map_toArray, List.map_cons, List.map_nil]); first | done | rfl | (simp only [List.length_drop, List.length_take]; rfl)) ?_
            with_reducible refine (cobwebref01_Add.calls kj73 a1_0 _ _ l1_1 t573 _ _ t574 t577 t578 _ ?side1 ?side2 ?side3 ?side4 A113.out).mono ?_
            (case side1 => repeat (first | exact (Kd.V_reads' HO_532001.out).2.2 | (with_reducible refine Kd.C_alloc ?_ _) | (with_reducible refine Kd.C_drewN ?_ _) | (with_reducible refine Kd.C_drew ?_)))
            (case side2 => exact (Kd.V_reads' HO_532001.out).2.1)
            (case side3 => repeat (first | exact (Kd.V_reads' HO576.out).2.2 | (with_reducible refine Kd.C_alloc ?_ _) | (with_reducible refine Kd.C_drewN ?_ _) | (with_reducible refine Kd.C_drew ?_)))
            (case side4 => exact (Kd.V_reads' HO576.out).2.1)
            rintro e w121 ⟨v579, rfl, ho0, hb⟩
            refine ⟨_, rfl, ?_⟩
            have HO580 := Aside0.mk (Kd.V_lower (Kd.V_mono (ok' := fun k_ => (P1_1_ k_ ∨ w.heap.size ≤ k_) ∧ some k_ ≠ (.slice Ao116 t566.length co116 : Value).ownBlock ∧ k_ ≠ gb530 ∧ k_ ≠ gb531 ∧ k_ ≠ gb532 ∧ k_ ≠ gb533 ∧ k_ ≠ gb537 ∧ k_ ≠ gb564) ho0 (fun k_ hk_ => ⟨(.inr (Nat.le_trans (below_size (ky HB)) hk_)), (Kd.fresh' (Kd.R_lt (kr HO568)) k_ hk_), (Kd.freshB (g := gb530) (o := .cells #[.bool a0_0, .slice A0_1 l0_1.length c0_1] 32 (0, 0)) (kx BK530) k_ hk_), (Kd.freshB (g := gb531) (o := .cells #[.bool a1_0, .slice A1_1 l1_1.length c1_1] 32 (0, 0)) (kx BK531) k_ hk_), (Kd.freshB (g := gb532) (o := .cells #[.bool false, .slice none 0 0] 32 (0, 0)) (kx BK532) k_ hk_), (Kd.freshB (g := gb533) (o := .cells #[.bool false, .slice none 0 0] 32 (0, 0)) (kx BK533) k_ hk_), (Kd.freshB (g := gb537) (o := .cells #[.bool x538000_1, .slice Ao118 x538001_1.length co118] 32 (0, 0)) (kx BK537) k_ hk_), (Kd.freshB (g := gb564) (o := .cells #[.bool t560, .slice Ao89 t561.length co89] 32 (0, 0)) (kx BK564) k_ hk_)⟩)) (below_size (ky HB)))
            replace HO_532001 := kV HO_532001 hb
            replace HO_538001 := kV HO_538001 hb
            replace HO_565001 := kV HO_565001 hb
            replace HO568 := kR HO568 hb
            replace HO572 := kV HO572 hb
            replace HO576 := kV HO576 hb
            replace BK530 := kb BK530 hb
            replace BK531 := kb BK531 hb
            replace BK532 := kb BK532 hb
            replace BK533 := kb BK533 hb
            replace BK537 := kb BK537 hb
            replace BK564 := kb BK564 hb
            replace HB := kB HB hb
            (try clear hb); (try clear hb2); (try clear hk); (try clear hi); (try clear ho0)
            obtain ⟨Ao123, co123, eo123⟩ := Kd.V_slice HO572.out
            (first | subst eo123 | (injection eo123 with f1_ f2_ f3_; have f4_ := f1_.symm; have f5_ := f3_.symm; clear f1_ f2_ f3_; subst f4_; subst f5_))
            obtain ⟨Ao126, co126, eo126⟩ := Kd.V_slice HO580.out
            (first | subst eo126 | (injection eo126 with f1_ f2_ f3_; have f4_ := f1_.symm; have f5_ := f3_.symm; clear f1_ f2_ f3_; subst f4_; subst f5_))
            refine hK.out _ _ ⟨kc BK564 0, kc BK564 1, kc BK531 0, kc BK531 1, kc BK537 0, kc BK537 1⟩ (fun hHeld => ?_)
            clear hK K
            refine norm_ (a' := ?_) ?_ ?_; rotate_left; focus (show Act.put _ (some 66) _ = _; simp only [Act.put, s1, s2, s3, i64_w, i32_w]; rfl)
            refine one_ (i := 7) (N := none) #[T, T, T, T, T, T, T, T, O] rfl rfl (one_of HT_.out (by kernel_rfl)) (by decide) (fun K hK => ?_)
            have hs122 : w121.cell? ⟨gb532, 0, none⟩ = some (.bool false) := kc BK532 0
            have hfs122 := blk_frozen BK532.out 0
            have hns122_0 := NB530_532.out; have hns122_1 := NB531_532.out; have hns122_3 := NB533_532.out; have hns122_4 := NB537_532.out; have hns122_5 := NB564_532.out; have hms122_0 := NB532_530.out; have hms122_1 := NB532_531.out; have hms122_3 := NB532_533.out; have hms122_4 := NB532_537.out; have hms122_5 := NB532_564.out
            have hs124 : w121.cell? ⟨gb532, 1, none⟩ = some (.slice none 0 0) := kc BK532 1
            have hfs124 := blk_frozen BK532.out 1
            have hns124_0 := NB530_532.out; have hns124_1 := NB531_532.out; have hns124_3 := NB533_532.out; have hns124_4 := NB537_532.out; have hns124_5 := NB564_532.out; have hms124_0 := NB532_530.out; have hms124_1 := NB532_531.out; have hms124_3 := NB532_533.out; have hms124_4 := NB532_537.out; have hms124_5 := NB532_564.out
            refine skip_ (w1 := ?_) (by rfl) rfl ?_ ?_
            rotate_left
            · go_simp
              rfl
            refine hK.out _ _ ⟨((cell_far (p := ⟨gb532, _, none⟩) NB564_532.out _).trans (((cell_far (p := ⟨gb532, _, none⟩) NB564_532.out _).trans (hHeld.1)))), ((cell_far (p := ⟨gb532, _, none⟩) NB564_532.out _).trans (((cell_far (p := ⟨gb532, _, none⟩) NB564_532.out _).trans (hHeld.2.1)))), ((cell_far (p := ⟨gb532, _, none⟩) NB531_532.out _).trans (((cell_far (p := ⟨gb532, _, none⟩) NB531_532.out _).trans (hHeld.2.2.1)))), ((cell_far (p := ⟨gb532, _, none⟩) NB531_532.out _).trans (((cell_far (p := ⟨gb532, _, none⟩) NB531_532.out _).trans (hHeld.2.2.2.1)))), ((cell_far (p := ⟨gb532, _, none⟩) NB537_532.out _).trans (((cell_far (p := ⟨gb532, _, none⟩) NB537_532.out _).trans (hHeld.2.2.2.2.1)))), ((cell_far (p := ⟨gb532, _, none⟩) NB537_532.out _).trans (((cell_far (p := ⟨gb532, _, none⟩) NB537_532.out _).trans (hHeld.2.2.2.2.2))))⟩ (fun hHeld => ?_)
            clear hK K
            refine one_ (i := 8) (N := none) #[T, T, T, T, T, T, T, T, T] rfl rfl (one_of HT_.out (by kernel_rfl)) (by decide) (fun K hK => ?_)
            have hs125 : w121.cell? ⟨gb533, 0, none⟩ = some (.bool false) := kc BK533 0
            have hfs125 := blk_frozen BK533.out 0
            have hns125_0 := NB530_533.out; have hns125_1 := NB531_533.out; have hns125_2 := NB532_533.out; have hns125_4 := NB537_533.out; have hns125_5 := NB564_533.out; have hms125_0 := NB533_530.out; have hms125_1 := NB533_531.out; have hms125_2 := NB533_532.out; have hms125_4 := NB533_537.out; have hms125_5 := NB533_564.out
            have hs127 : w121.cell? ⟨gb533, 1, none⟩ = some (.slice none 0 0) := kc BK533 1
            have hfs127 := blk_frozen BK533.out 1
            have hns127_0 := NB530_533.out; have hns127_1 := NB531_533.out; have hns127_2 := NB532_533.out; have hns127_4 := NB537_533.out; have hns127_5 := NB564_533.out; have hms127_0 := NB533_530.out; have hms127_1 := NB533_531.out; have hms127_2 := NB533_532.out; have hms127_4 := NB533_537.out; have hms127_5 := NB533_564.out
            refine skip_ (w1 := ?_) (by rfl) rfl ?_ ?_
            rotate_left
            · go_simp
              rfl
            refine hK.out _ _ ⟨((cell_far (p := ⟨gb533, _, none⟩) NB564_533.out _).trans (((cell_far (p := ⟨gb533, _, none⟩) NB564_533.out _).trans (hHeld.1)))), ((cell_far (p := ⟨gb533, _, none⟩) NB564_533.out _).trans (((cell_far (p := ⟨gb533, _, none⟩) NB564_533.out _).trans (hHeld.2.1)))), ((cell_far (p := ⟨gb533, _, none⟩) NB531_533.out _).trans (((cell_far (p := ⟨gb533, _, none⟩) NB531_533.out _).trans (hHeld.2.2.1)))), ((cell_far (p := ⟨gb533, _, none⟩) NB531_533.out _).trans (((cell_far (p := ⟨gb533, _, none⟩) NB531_533.out _).trans (hHeld.2.2.2.1)))), ((cell_far (p := ⟨gb533, _, none⟩) NB537_533.out _).trans (((cell_far (p := ⟨gb533, _, none⟩) NB537_533.out _).trans (hHeld.2.2.2.2.1)))), ((cell_far (p := ⟨gb533, _, none⟩) NB537_533.out _).trans (((cell_far (p := ⟨gb533, _, none⟩) NB537_533.out _).trans (hHeld.2.2.2.2.2))))⟩ (fun hHeld => ?_)
            clear hK K
            refine done_ (done_of HT_.out (by kernel_rfl)) ?_
            try go_wp2
            refine bodyPost_ret (results_cc rfl _ _ gb532 gb533 32 32 #[.bool t569, .slice Ao123 t570.length co123] #[.bool t577, .slice Ao126 t578.length co126] (0, 0) (0, 0) _ _ rfl (by (with_reducible repeat (first | refine blk_drewN ?_ _ | refine blk_drew ?_ | refine blk_alloc ?_ _)); refine blk_far ?_ NB532_533.out _; (with_reducible repeat (first | refine blk_drewN ?_ _ | refine blk_drew ?_ | refine blk_alloc ?_ _)); refine blk_far ?_ NB532_533.out _; (with_reducible repeat (first | refine blk_drewN ?_ _ | refine blk_drew ?_ | refine blk_alloc ?_ _)); refine blk_put (cs := #[.bool t569, .slice none 0 0]) ?_ 1 _ rfl; (with_reducible repeat (first | refine blk_drewN ?_ _ | refine blk_drew ?_ | refine blk_alloc ?_ _)); refine blk_put (cs := #[.bool false, .slice none 0 0]) ?_ 0 _ rfl; (with_reducible repeat (first | refine blk_drewN ?_ _ | refine blk_drew ?_ | refine blk_alloc ?_ _)); exact BK532.out) Try.underlying32 rfl (by kernel_rfl) rfl (by (with_reducible repeat (first | refine blk_drewN ?_ _ | refine blk_drew ?_ | refine blk_alloc ?_ _)); refine blk_put (cs := #[.bool t577, .slice none 0 0]) ?_ 1 _ rfl; (with_reducible repeat (first | refine blk_drewN ?_ _ | refine blk_drew ?_ | refine blk_alloc ?_ _)); refine blk_put (cs := #[.bool false, .slice none 0 0]) ?_ 0 _ rfl; (with_reducible repeat (first | refine blk_drewN ?_ _ | refine blk_drew ?_ | refine blk_alloc ?_ _)); refine blk_far ?_ NB533_532.out _; (with_reducible repeat (first | refine blk_drewN ?_ _ | refine blk_drew ?_ | refine blk_alloc ?_ _)); refine blk_far ?_ NB533_532.out _; (with_reducible repeat (first | refine blk_drewN ?_ _ | refine blk_drew ?_ | refine blk_alloc ?_ _)); exact BK533.out) Try.underlying32 rfl (by kernel_rfl)) rfl ?_
            exact ⟨_, _, by first | rfl | (simp [errW_none, errW_some] <;> rfl) | (simp [*, errW_none, errW_some] <;> rfl), by (with_reducible repeat (first | apply Kd.V_alloc | apply Kd.V_drewN | apply Kd.V_drew)); exact Kd.V_mono (Kd.V_far (p := ⟨gb533, 1, none⟩) (Kd.V_far (p := ⟨gb533, 0, none⟩) (Kd.V_far (p := ⟨gb532, 1, none⟩) (Kd.V_far (p := ⟨gb532, 0, none⟩) (Kd.V_mono (Kd.V_mono HO572.out (fun k_ hk => (⟨hk, hk.2.2.2.2.1⟩ : _ ∧ k_ ≠ gb532))) (fun k_ hk => (⟨hk, hk.1.2.2.2.2.2.1⟩ : _ ∧ k_ ≠ gb533))) (fun _ hk => hk.1.2) (.bool t569)) (fun _ hk => hk.1.2) (.slice Ao123 t570.length co123)) (fun _ hk => hk.2) (.bool t577)) (fun _ hk => hk.2) (.slice Ao126 t578.length co126)) (fun _ hk => hk.1.1.1), by (with_reducible repeat (first | apply Kd.V_alloc | apply Kd.V_drewN | apply Kd.V_drew)); exact Kd.V_mono (Kd.V_far (p := ⟨gb533, 1, none⟩) (Kd.V_far (p := ⟨gb533, 0, none⟩) (Kd.V_far (p := ⟨gb532, 1, none⟩) (Kd.V_far (p := ⟨gb532, 0, none⟩) (Kd.V_mono (Kd.V_mono HO580.out (fun k_ hk => (⟨hk, hk.2.2.2.2.1⟩ : _ ∧ k_ ≠ gb532))) (fun k_ hk => (⟨hk, hk.1.2.2.2.2.2.1⟩ : _ ∧ k_ ≠ gb533))) (fun _ hk => hk.1.2) (.bool t569)) (fun _ hk => hk.1.2) (.slice Ao123 t570.length co123)) (fun _ hk => hk.2) (.bool t577)) (fun _ hk => hk.2) (.slice Ao126 t578.length co126)) (fun _ hk => hk.1.1.1), ky HB⟩
      rw [if_pos c18] at H
      have c18b0 : decide (0 ≤ x8_1) = true := decide_eq_true c18
      clear c18
      by_cases c19 : 0 ≤ x8_1
      rotate_left
      · rw [if_neg c19] at H
        exact absurd H (by simp)
      rw [if_pos c19] at H
      have c19b0 : decide (0 ≤ x8_1) = true := decide_eq_true c19
      clear c19
      by_cases c20 : x8_1 < (l0_1.length : Int)
      rotate_left
      · rw [if_neg c20] at H
        exact absurd H (by simp)
      rw [if_pos c20] at H
      have c20b0 : decide (x8_1 < (l0_1.length : Int)) = true := decide_eq_true c20
      clear c20
      obtain ⟨y539, hy539⟩ : ∃ y_ : List Int, y_ = (([rd l0_1 x8_1] : List Int)) := ⟨_, rfl⟩
      replace H : (if y539.length + x538001_1.length < 17592186044416 then ((cobwebref01_trim.f k1 false (y539 ++ x538001_1)).bind fun bt545 => (cobwebref01_Div.l1 k1 x6_1 x8_1 a0_0 l0_1 a1_0 l1_1 bt545.1 bt545.2)) else (none)) = some (r1, r2, r3, r4) := by first | (rw [hy539]; with_reducible exact H) | (have H2_ := (Option.bind_some _ _).symm.trans H; rw [hy539]; with_reducible exact H2_) | (have H2_ := (Option.bind_some _ _).symm.trans H; with_reducible exact H2_) | with_reducible exact H | (rw [hy539]; exact H) | exact H
      have Ny539 := Aside0.mk hy539
      clear hy539
      by_cases c21 : y539.length + x538001_1.length < 17592186044416
      rotate_left
      · rw [if_neg c21] at H
        exact absurd H (by simp)
      rw [if_pos c21] at H
      have LMc21 := Aside0.mk c21
      clear c21
      obtain ⟨y542, hy542⟩ : ∃ y_ : List Int, y_ = (y539 ++ x538001_1) := ⟨_, rfl⟩
      replace H : ((cobwebref01_trim.f k1 false y542).bind fun bt545 => (cobwebref01_Div.l1 k1 x6_1 x8_1 a0_0 l0_1 a1_0 l1_1 bt545.1 bt545.2)) = some (r1, r2, r3, r4) := by first | (rw [hy542]; with_reducible exact H) | (have H2_ := (Option.bind_some _ _).symm.trans H; rw [hy542]; with_reducible exact H2_) | (have H2_ := (Option.bind_some _ _).symm.trans H; with_reducible exact H2_) | with_reducible exact H | (rw [hy542]; exact H) | exact H
      have Ny542 := Aside0.mk hy542
      clear hy542
      replace H := Option.bind_eq_some_iff.mp H
      obtain ⟨⟨t545, t546⟩, A220, H⟩ := H
      replace H : (cobwebref01_Div.l1 k1 x6_1 x8_1 a0_0 l0_1 a1_0 l1_1 t545 t546) = some (r1, r2, r3, r4) := H
      have A22 := Aside0.mk A220
      clear A220
      have H' := Aside0.mk H
      clear H
      try go_wp2
      replace HO_6 := Aside0.mk (Kd.R_drew HO_6.out)
      replace HO_532001 := Aside0.mk (Kd.V_drew HO_532001.out)
      replace HO_538001 := Aside0.mk (Kd.V_drew HO_538001.out)
      replace BK530 := Aside0.mk (blk_drew BK530.out)
      replace BK531 := Aside0.mk (blk_drew BK531.out)
      replace BK532 := Aside0.mk (blk_drew BK532.out)
      replace BK533 := Aside0.mk (blk_drew BK533.out)
      replace BK537 := Aside0.mk (blk_drew BK537.out)
      replace HB := Aside0.mk (below_drew1 HB.out)
      have p538 : 0 ≤ (x8_1 : Int) := of_decide_eq_true (by first | (with_reducible assumption) | assumption)
      have q538 : x8_1 < (l0_1.length : Int) := of_decide_eq_true (by first | (with_reducible assumption) | assumption)
      obtain ⟨ad538, e538, hx538_0⟩ := Kd.at_int HR0_1.out x8_1 p538 q538
      have hw538_0 := hx538_0
      cases e538
      replace hx538_0 := (HB.out.cell (World.block_lt_of_cell? w _ hx538_0)).trans hx538_0
      replace p538 := eq_true p538
      replace q538 := eq_true q538
      refine start_ (n := 12) (S := fun w' => w'.cell? ⟨gb530, 0, none⟩ = some (.bool a0_0) ∧ w'.cell? ⟨gb530, 1, none⟩ = some (.slice (some ad538) l0_1.length c0_1) ∧ w'.cell? ⟨gb537, 0, none⟩ = some (.bool x538000_1) ∧ w'.cell? ⟨gb537, 1, none⟩ = some (u538001) ∧ w'.cell? (ad538.add (x8_1).toNat) = some (.int .i64 (rd l0_1 x8_1))) (ds := [11]) #[O, O, O, O, O, O, O, O, O, O, O, O] (by kernel_rfl) rfl rfl ⟨kc BK530 0, kc BK530 1, kc BK537 0, kc BK537 1, ((HB.out.cell (World.block_lt_of_cell? w _ hw538_0)).trans hw538_0)⟩ (fun hHeld => ?_); refine with_tabW cobwebref01_Div.tab6 cobwebref01_Div.bits6 (fun HT_ HW_ => ?_)
      generalize wr.drew = w23 at HO_6 HO_532001 HO_538001 BK530 BK531 BK532 BK533 BK537 HB hx538_0 hHeld ⊢
      refine pure_ (i := 0) (N := some 22) (v := ?_) (a' := ?_) #[T, O, O, O, O, O, O, O, O, O, O, O] rfl rfl (any_of HT_.out (by kernel_rfl)) (fun _ _ _ h => h) (Or.inl ⟨by rfl, ?_⟩) ?_ ?_; rotate_left; focus (intro w'; go_simp; with_reducible rfl)
      rotate_left; focus (simp only [Act.put, s1, s2, s3, i64_w, i32_w]; rfl)
      refine pure_ (i := 2) (N := some 24) (v := ?_) (a' := ?_) #[T, O, T, O, O, O, O, O, O, O, O, O] rfl rfl (any_of HT_.out (by kernel_rfl)) (fun _ _ _ h => h) (Or.inl ⟨by rfl, ?_⟩) ?_ ?_; rotate_left; focus (intro w'; go_simp; with_reducible rfl)
      rotate_left; focus (simp only [Act.put, s1, s2, s3, i64_w, i32_w]; rfl)
      refine pure_ (i := 6) (N := some 28) (v := ?_) (a' := ?_) #[T, O, T, O, O, O, T, O, O, O, O, O] rfl rfl (any_of HT_.out (by kernel_rfl)) (fun _ _ _ h => h) (Or.inl ⟨by rfl, ?_⟩) ?_ ?_; rotate_left; focus (intro w'; go_simp; with_reducible rfl)
      rotate_left; focus (simp only [Act.put, s1, s2, s3, i64_w, i32_w]; rfl)
      refine take_ (i := 1) (N := some 23) (v := ?_) (a' := ?_) #[T, T, T, O, O, O, T, O, O, O, O, O] rfl rfl (take_ofW HT_.out HW_.out (by kernel_rfl)) (fun _ _ _ h => h) (Or.inl ⟨by rfl, ?_⟩) hHeld ?_ ?_; rotate_left; focus (rintro w' ⟨s0, s1, s2, s3, s4⟩; go_simp; with_reducible rfl)
      rotate_left; focus (simp only [Act.put, s1, s2, s3, i64_w, i32_w]; rfl)
      refine pure_ (i := 3) (N := some 25) (v := ?_) (a' := ?_) #[T, T, T, T, O, O, T, O, O, O, O, O] rfl rfl (any_of HT_.out (by kernel_rfl)) (fun _ _ _ h => h) (Or.inl ⟨by rfl, ?_⟩) ?_ ?_; rotate_left; focus (intro w'; go_simp; with_reducible rfl)
      rotate_left; focus (simp only [Act.put, s1, s2, s3, i64_w, i32_w]; rfl)
      refine take_ (i := 4) (N := some 26) (v := ?_) (a' := ?_) #[T, T, T, T, T, O, T, O, O, O, O, O] rfl rfl (take_ofW HT_.out HW_.out (by kernel_rfl)) (fun _ _ _ h => h) (Or.inl ⟨by rfl, ?_⟩) hHeld ?_ ?_; rotate_left; focus (rintro w' ⟨s0, s1, s2, s3, s4⟩; go_simp; with_reducible rfl)
      rotate_left; focus (simp only [Act.put, s1, s2, s3, i64_w, i32_w]; rfl)
      refine take_ (i := 7) (N := some 29) (v := ?_) (a' := ?_) #[T, T, T, T, T, O, T, T, O, O, O, O] rfl rfl (take_ofW HT_.out HW_.out (by kernel_rfl)) (fun _ _ _ h => h) (Or.inl ⟨by rfl, ?_⟩) hHeld ?_ ?_; rotate_left; focus (rintro w' ⟨s0, s1, s2, s3, s4⟩; go_simp; with_reducible rfl)
      rotate_left; focus (simp only [Act.put, s1, s2, s3, i64_w, i32_w]; rfl)
      refine one_ (i := 5) (N := some 27) #[T, T, T, T, T, T, T, T, O, O, O, O] rfl rfl (one_of HT_.out (by kernel_rfl)) (by decide) (fun K hK => ?_)
      refine Kd.R_lit_step (Kd.int .i64) _ 3 ?hg (N := 27) ?hd (xs := ([rd l0_1 x8_1] : List Int)) (inner := [.int .i64 (rd l0_1 x8_1)]) (ok := fun _ => True) (okp := fun _ => True) ?hr ?hp (fun _ hk => hk) trivial (Below.refl _ _) (Nat.le_refl _) (by simp) ?_; (case hd => rfl); (case hg => rfl); (case hr => first | (go_simp; done) | (go_simp; rfl)); (case hp => exact (Reps.one (show Kd.M (Kd.int .i64) _ _ _ (rd l0_1 x8_1) [.int .i64 (rd l0_1 x8_1)] from rfl) (Reps.none _ _)))
      intro v540 w24 ho25 hb hg_ hnew_
      clear hg_ hnew_
      (first | rw [← Ny539.out] at ho25 | (simp only [Int.reduceToNat] at ho25; rw [← Ny539.out] at ho25))
      have n0_ := Aside0.mk (Kd.R_elder' (kr HO_6) (Kd.R_base ho25) hb)
      have n1_ := Aside0.mk (Kd.V_elder' (kv HO_532001) (Kd.R_base ho25) hb)
      have n2_ := Aside0.mk (Kd.V_elder' (kv HO_538001) (Kd.R_base ho25) hb)
      have n3_ := Aside0.mk (Kd.R_lower (Kd.R_new' (Kd.R_newM (M := fun k_ => (w.heap.size ≤ k_)) ho25 (below_size (ky HB)) (fun k_ h_ => h_)) (Kd.R_lt (kr HO_6))) (below_size (ky HB)))
      have n4_ := kb BK530 hb
      have n5_ := kb BK531 hb
      have n6_ := kb BK532 hb
      have n7_ := kb BK533 hb
      have n8_ := kb BK537 hb
      have n9_ := kB HB hb
      clear HO_6; clear HO_532001; clear HO_538001; clear BK530; clear BK531; clear BK532; clear BK533; clear BK537; clear HB; have HO_6 := n0_; have HO_532001 := n1_; have HO_538001 := n2_; have HO541 := n3_; have BK530 := n4_; have BK531 := n5_; have BK532 := n6_; have BK533 := n7_; have BK537 := n8_; have HB := n9_
      clear n0_ n1_ n2_ n3_ n4_ n5_ n6_ n7_ n8_ n9_
      clear hb ho25
      obtain ⟨Ao27, co27, eo27⟩ := Kd.V_slice HO_538001.out
      (first | subst eo27 | (injection eo27 with f1_ f2_ f3_; have f4_ := f1_.symm; have f5_ := f3_.symm; clear f1_ f2_ f3_; subst f4_; subst f5_))
      refine hK.out _ _ ⟨kc BK530 0, kc BK530 1, kc BK537 0, kc BK537 1, ((HB.out.cell (World.block_lt_of_cell? w _ hw538_0)).trans hw538_0)⟩ (fun hHeld => ?_)
      clear hK K
      refine norm_ (a' := ?_) ?_ ?_; rotate_left; focus (show Act.put _ (some 27) _ = _; simp only [Act.put, s1, s2, s3, i64_w, i32_w]; rfl)
      refine one_ (i := 8) (N := some 30) #[T, T, T, T, T, T, T, T, T, O, O, O] rfl rfl (one_of HT_.out (by kernel_rfl)) (by decide) (fun K hK => ?_)
      refine Kd.R_append_rows_step (Kd.int .i64) (w0 := w) w.heap.size (by rfl) (.tmp 27) (.tmp 29) 30 3 (.int .i64 0) 8 rfl Try.underlying30 info3 rfl (by decide) (by omega) v540 y539 x538001_1 _ _ _ (fun k_ => (w.heap.size ≤ k_) ∧ some k_ ≠ (v535 : Value).ownBlock) (fun _ => False) rfl rfl ?aO ?aR (fun _ _ h => h) (fun _ h => h.elim) ?aF ?aB ?aS ?aL ?_
      (case aR => repeat (first | exact (Kd.V_reads' HO_538001.out).2.2 | (with_reducible refine Kd.C_alloc ?_ _) | (with_reducible refine Kd.C_drewN ?_ _) | (with_reducible refine Kd.C_drew ?_)))
      (case aB => exact (ky HB))
      (case aF => exact (fun k_ hk => ⟨(Nat.le_trans (below_size (ky HB)) hk), Kd.fresh' (Kd.R_lt (kr HO_6)) k_ hk⟩))
      (case aO => exact (by (with_reducible repeat (first | apply Kd.R_alloc | apply Kd.R_drewN | apply Kd.R_drew)); exact Kd.R_mono HO541.out (fun _ hk => ⟨hk.1.1, hk.2⟩)))
      (case aS => exact (below_size (ky HB)))
      (case aL => have := LMc21.out; omega)
      intro v543 w26 ho hb hg hat
      rw [← Ny542.out] at ho
      have n0_ := Aside0.mk (Kd.R_after (ok := (fun k_ => (w.heap.size ≤ k_))) (kr HO_6) hg hat)
      have n1_ := Aside0.mk (Kd.V_afterv (ok := (fun k_ => (P1_1_ k_ ∨ w.heap.size ≤ k_) ∧ some k_ ≠ (v535 : Value).ownBlock ∧ k_ ≠ gb530 ∧ k_ ≠ gb531 ∧ k_ ≠ gb532 ∧ k_ ≠ gb533 ∧ k_ ≠ gb537)) (kv HO_532001) hg hat)
      have n2_ := Aside0.mk (Kd.V_afterv (ok := (fun k_ => (P1_1_ k_ ∨ w.heap.size ≤ k_) ∧ some k_ ≠ (v535 : Value).ownBlock ∧ k_ ≠ gb530 ∧ k_ ≠ gb531 ∧ k_ ≠ gb532 ∧ k_ ≠ gb533 ∧ k_ ≠ gb537)) (kv HO_538001) hg hat)
      have n3_ := Aside0.mk (blk_grown (g := gb530) (o := .cells #[.bool a0_0, .slice (some ad538) l0_1.length c0_1] 32 (0, 0)) (kx BK530) hg (Kd.R_ne HO541.out BK530.out (by decide)))
      have n4_ := Aside0.mk (blk_grown (g := gb531) (o := .cells #[.bool a1_0, .slice A1_1 l1_1.length c1_1] 32 (0, 0)) (kx BK531) hg (Kd.R_ne HO541.out BK531.out (by decide)))
      have n5_ := Aside0.mk (blk_grown (g := gb532) (o := .cells #[.bool false, .slice none 0 0] 32 (0, 0)) (kx BK532) hg (Kd.R_ne HO541.out BK532.out (by decide)))
      have n6_ := Aside0.mk (blk_grown (g := gb533) (o := .cells #[.bool false, .slice none 0 0] 32 (0, 0)) (kx BK533) hg (Kd.R_ne HO541.out BK533.out (by decide)))
      have n7_ := Aside0.mk (blk_grown (g := gb537) (o := .cells #[.bool x538000_1, .slice Ao27 x538001_1.length co27] 32 (0, 0)) (kx BK537) hg (Kd.R_ne HO541.out BK537.out (by decide)))
      have n8_ := Aside0.mk (hb)
      have n9_ := Aside0.mk (ho)
      clear HO_6; clear HO_532001; clear HO_538001; clear BK530; clear BK531; clear BK532; clear BK533; clear BK537; clear HB; clear HO541; have HO_6 := n0_; have HO_532001 := n1_; have HO_538001 := n2_; have BK530 := n3_; have BK531 := n4_; have BK532 := n5_; have BK533 := n6_; have BK537 := n7_; have HB := n8_; have HO544 := n9_
      clear n0_ n1_ n2_ n3_ n4_ n5_ n6_ n7_ n8_ n9_
      clear ho hb hg hat
      obtain ⟨Ao28, co28, eo28⟩ := Kd.R_slice HO544.out
      (first | subst eo28 | (injection eo28 with f1_ f2_ f3_; have f4_ := f1_.symm; have f5_ := f3_.symm; clear f1_ f2_ f3_; subst f4_; subst f5_))
      refine hK.out _ _ ⟨kc BK530 0, kc BK530 1, kc BK537 0, kc BK537 1, ((HB.out.cell (World.block_lt_of_cell? w _ hw538_0)).trans hw538_0)⟩ (fun hHeld => ?_)
      clear hK K
      refine norm_ (a' := ?_) ?_ ?_; rotate_left; focus (show Act.put _ (some 30) _ = _; simp only [Act.put, s1, s2, s3, i64_w, i32_w]; rfl)
      refine pure_ (i := 9) (N := some 31) (v := ?_) (a' := ?_) #[T, T, T, T, T, T, T, T, T, T, O, O] rfl rfl (any_of HT_.out (by kernel_rfl)) (fun _ _ _ h => h) (Or.inl ⟨by rfl, ?_⟩) ?_ ?_; rotate_left; focus (intro w'; go_simp; with_reducible rfl)
      rotate_left; focus (simp only [Act.put, s1, s2, s3, i64_w, i32_w]; rfl)
      refine one_ (i := 10) (N := some 32) #[T, T, T, T, T, T, T, T, T, T, T, O] rfl rfl (one_of HT_.out (by kernel_rfl)) (by decide) (fun K hK => ?_)
      refine goes_ Try.func57 (by kernel_rfl) rfl #[.agg #[.bool false, .slice Ao28 y542.length co28]] (by rfl) rfl rfl (by (try simp only [List.map_toArray, List.map_cons, List.map_nil]); first | done | rfl | (simp only [List.length_drop, List.length_take]; rfl)) ?_
      with_reducible refine (cobwebref01_trim.calls k1 false (fun k_ => some k_ = (.slice Ao28 y542.length co28 : Value).ownBlock) _ _ y542 t545 t546 _ ?side1 A22.out).mono ?_
      (case side1 => exact Kd.R_V (Kd.R_tight rfl (Kd.R_types (Kd.R_types (Kd.R_types (Kd.R_types (Kd.R_types (HO544.out) BK530.out (by decide)) BK531.out (by decide)) BK532.out (by decide)) BK533.out (by decide)) BK537.out (by decide))))
      rintro e w29 ⟨v547, rfl, ho0, hb⟩
      refine ⟨_, rfl, ?_⟩
      have HO548 := Aside0.mk (Kd.V_lower (Kd.V_mono (ok' := fun k_ => (P1_1_ k_ ∨ w.heap.size ≤ k_) ∧ some k_ ≠ (v535 : Value).ownBlock ∧ k_ ≠ gb530 ∧ k_ ≠ gb531 ∧ k_ ≠ gb532 ∧ k_ ≠ gb533 ∧ k_ ≠ gb537) ho0 (fun k_ hk_ => ⟨Or.elim hk_ (fun hs_ => (.inr (((Kd.R_types (Kd.R_types (Kd.R_types (Kd.R_types (Kd.R_types (HO544.out) BK530.out (by decide)) BK531.out (by decide)) BK532.out (by decide)) BK533.out (by decide)) BK537.out (by decide)).1 k_ hs_.symm).1.1.1.1.1.1))) (fun hn_ => (.inr (Nat.le_trans (below_size (ky HB)) hn_))), Or.elim hk_ (fun hs_ => ((Kd.R_types (Kd.R_types (Kd.R_types (Kd.R_types (Kd.R_types (HO544.out) BK530.out (by decide)) BK531.out (by decide)) BK532.out (by decide)) BK533.out (by decide)) BK537.out (by decide)).1 k_ hs_.symm).1.1.1.1.1.2) (fun hn_ => (Kd.fresh' (Kd.R_lt (kr HO_6)) k_ hn_)), Or.elim hk_ (fun hs_ => ((Kd.R_types (Kd.R_types (Kd.R_types (Kd.R_types (Kd.R_types (HO544.out) BK530.out (by decide)) BK531.out (by decide)) BK532.out (by decide)) BK533.out (by decide)) BK537.out (by decide)).1 k_ hs_.symm).1.1.1.1.2) (fun hn_ => (Kd.freshB (g := gb530) (o := .cells #[.bool a0_0, .slice (some ad538) l0_1.length c0_1] 32 (0, 0)) (kx BK530) k_ hn_)), Or.elim hk_ (fun hs_ => ((Kd.R_types (Kd.R_types (Kd.R_types (Kd.R_types (Kd.R_types (HO544.out) BK530.out (by decide)) BK531.out (by decide)) BK532.out (by decide)) BK533.out (by decide)) BK537.out (by decide)).1 k_ hs_.symm).1.1.1.2) (fun hn_ => (Kd.freshB (g := gb531) (o := .cells #[.bool a1_0, .slice A1_1 l1_1.length c1_1] 32 (0, 0)) (kx BK531) k_ hn_)), Or.elim hk_ (fun hs_ => ((Kd.R_types (Kd.R_types (Kd.R_types (Kd.R_types (Kd.R_types (HO544.out) BK530.out (by decide)) BK531.out (by decide)) BK532.out (by decide)) BK533.out (by decide)) BK537.out (by decide)).1 k_ hs_.symm).1.1.2) (fun hn_ => (Kd.freshB (g := gb532) (o := .cells #[.bool false, .slice none 0 0] 32 (0, 0)) (kx BK532) k_ hn_)), Or.elim hk_ (fun hs_ => ((Kd.R_types (Kd.R_types (Kd.R_types (Kd.R_types (Kd.R_types (HO544.out) BK530.out (by decide)) BK531.out (by decide)) BK532.out (by decide)) BK533.out (by decide)) BK537.out (by decide)).1 k_ hs_.symm).1.2) (fun hn_ => (Kd.freshB (g := gb533) (o := .cells #[.bool false, .slice none 0 0] 32 (0, 0)) (kx BK533) k_ hn_)), Or.elim hk_ (fun hs_ => ((Kd.R_types (Kd.R_types (Kd.R_types (Kd.R_types (Kd.R_types (HO544.out) BK530.out (by decide)) BK531.out (by decide)) BK532.out (by decide)) BK533.out (by decide)) BK537.out (by decide)).1 k_ hs_.symm).2) (fun hn_ => (Kd.freshB (g := gb537) (o := .cells #[.bool x538000_1, .slice Ao27 x538001_1.length co27] 32 (0, 0)) (kx BK537) k_ hn_))⟩)) (below_size (ky HB)))
      replace HO_6 := kR HO_6 hb
      replace HO_532001 := kV HO_532001 hb
      replace HO_538001 := kV HO_538001 hb
      replace HO544 := kR HO544 hb
      replace BK530 := kb BK530 hb
      replace BK531 := kb BK531 hb
      replace BK532 := kb BK532 hb
      replace BK533 := kb BK533 hb
      replace BK537 := kb BK537 hb
      replace HB := kB HB hb
      (try clear hb); (try clear hb2); (try clear hk); (try clear hi); (try clear ho0)
      obtain ⟨Ao31, co31, eo31⟩ := Kd.V_slice HO548.out
      (first | subst eo31 | (injection eo31 with f1_ f2_ f3_; have f4_ := f1_.symm; have f5_ := f3_.symm; clear f1_ f2_ f3_; subst f4_; subst f5_))
      refine hK.out _ _ ⟨kc BK530 0, kc BK530 1, kc BK537 0, kc BK537 1, ((HB.out.cell (World.block_lt_of_cell? w _ hw538_0)).trans hw538_0)⟩ (fun hHeld => ?_)
      clear hK K
      refine norm_ (a' := ?_) ?_ ?_; rotate_left; focus (show Act.put _ (some 32) _ = _; simp only [Act.put, s1, s2, s3, i64_w, i32_w]; rfl)
      refine last_ (i := 11) (N := none) #[T, T, T, T, T, T, T, T, T, T, T, T] rfl rfl (one_of HT_.out (by kernel_rfl)) (by decide) (fun K hK => ?_)
      have hs30 : w29.cell? ⟨gb537, 0, none⟩ = some (.bool x538000_1) := kc BK537 0
      have hfs30 := blk_frozen BK537.out 0
      have hns30_0 := NB530_537.out; have hns30_1 := NB531_537.out; have hns30_2 := NB532_537.out; have hns30_3 := NB533_537.out; have hms30_0 := NB537_530.out; have hms30_1 := NB537_531.out; have hms30_2 := NB537_532.out; have hms30_3 := NB537_533.out
      have hs32 : w29.cell? ⟨gb537, 1, none⟩ = some (.slice Ao27 x538001_1.length co27) := kc BK537 1
      have hfs32 := blk_frozen BK537.out 1
      have hns32_0 := NB530_537.out; have hns32_1 := NB531_537.out; have hns32_2 := NB532_537.out; have hns32_3 := NB533_537.out; have hms32_0 := NB537_530.out; have hms32_1 := NB537_531.out; have hms32_2 := NB537_532.out; have hms32_3 := NB537_533.out
      refine skip_ (w1 := ?_) (by rfl) rfl ?_ ?_
      rotate_left
      · go_simp
        rfl
      refine hK.out _ _ ?_
      clear hK K
      refine done_ (done_of HT_.out (by kernel_rfl)) ?_
      try go_wp2
      go_loopg [] k1 (fun kq w' => ∃ (x6_2 : List Int) (x538000_2 : Bool) (x538001_2 : List Int) (u538001 : Value), Aside0 (cobwebref01_Div.l1 kq x6_2 x8_1 a0_0 l0_1 a1_0 l1_1 x538000_2 x538001_2 = some (r1, r2, r3, r4)) ∧ Aside0 (kq ≤ k1) ∧ Aside0 (Kd.R (Kd.int .i64) 3 w' w.heap.size (fun k_ => (w.heap.size ≤ k_)) v535 x6_2) ∧ Aside0 (Kd.V (Kd.int .i64) 3 w' w.heap.size (fun k_ => (P1_1_ k_ ∨ w.heap.size ≤ k_) ∧ some k_ ≠ (v535 : Value).ownBlock ∧ k_ ≠ gb530 ∧ k_ ≠ gb531 ∧ k_ ≠ gb532 ∧ k_ ≠ gb533 ∧ k_ ≠ gb537) (.slice A1_1 l1_1.length c1_1) l1_1) ∧ Aside0 (Kd.V (Kd.int .i64) 3 w' w.heap.size (fun k_ => (P1_1_ k_ ∨ w.heap.size ≤ k_) ∧ some k_ ≠ (v535 : Value).ownBlock ∧ k_ ≠ gb530 ∧ k_ ≠ gb531 ∧ k_ ≠ gb532 ∧ k_ ≠ gb533 ∧ k_ ≠ gb537) u538001 x538001_2) ∧ Aside0 (w'.heap[gb530]? = some (.cells #[.bool a0_0, (.slice (some ad538) l0_1.length c0_1)] 32 (0, 0))) ∧ Aside0 (w'.heap[gb531]? = some (.cells #[.bool a1_0, (.slice A1_1 l1_1.length c1_1)] 32 (0, 0))) ∧ Aside0 (w'.heap[gb532]? = some (.cells #[.bool false, (.slice none 0 0)] 32 (0, 0))) ∧ Aside0 (w'.heap[gb533]? = some (.cells #[.bool false, (.slice none 0 0)] 32 (0, 0))) ∧ Aside0 (w'.heap[gb537]? = some (.cells #[.bool x538000_2, u538001] 32 (0, 0))) ∧ Aside0 (Below w.heap.size w w'))
      case atStart => exact ⟨(x6_1), (t545), (t546), (.slice Ao31 t546.length co31), H', ⟨Nat.le_refl _⟩, ⟨by (with_reducible repeat (first | apply Kd.R_alloc | apply Kd.R_drewN | apply Kd.R_drew)); exact Kd.R_mono (Kd.R_far (p := ⟨gb537, 1, none⟩) (Kd.R_far (p := ⟨gb537, 0, none⟩) (Kd.R_types HO_6.out BK537.out (by decide)) (fun _ hk => hk.2) (.bool t545)) (fun _ hk => hk.2) (.slice Ao31 t546.length co31)) (fun _ hk => hk.1.1)⟩, ⟨by (with_reducible repeat (first | apply Kd.V_alloc | apply Kd.V_drewN | apply Kd.V_drew)); exact Kd.V_mono (Kd.V_far (p := ⟨gb537, 1, none⟩) (Kd.V_far (p := ⟨gb537, 0, none⟩) (Kd.V_mono HO_532001.out (fun k_ hk => (⟨hk, hk.1.2.2.2.2.2.2⟩ : _ ∧ k_ ≠ gb537))) (fun _ hk => hk.2) (.bool t545)) (fun _ hk => hk.2) (.slice Ao31 t546.length co31)) (fun _ hk => ⟨hk.1.1.1, ⟨hk.1.1.2.1, ⟨hk.1.1.2.2.1, ⟨hk.1.1.2.2.2.1, ⟨hk.1.1.2.2.2.2.1, ⟨hk.1.1.2.2.2.2.2.1, hk.1.1.2.2.2.2.2.2⟩⟩⟩⟩⟩⟩)⟩, ⟨by (with_reducible repeat (first | apply Kd.V_alloc | apply Kd.V_drewN | apply Kd.V_drew)); exact Kd.V_mono (Kd.V_far (p := ⟨gb537, 1, none⟩) (Kd.V_far (p := ⟨gb537, 0, none⟩) (Kd.V_mono HO548.out (fun k_ hk => (⟨hk, hk.2.2.2.2.2.2⟩ : _ ∧ k_ ≠ gb537))) (fun _ hk => hk.2) (.bool t545)) (fun _ hk => hk.2) (.slice Ao31 t546.length co31)) (fun _ hk => ⟨hk.1.1, ⟨hk.1.2.1, ⟨hk.1.2.2.1, ⟨hk.1.2.2.2.1, ⟨hk.1.2.2.2.2.1, ⟨hk.1.2.2.2.2.2.1, hk.1.2.2.2.2.2.2⟩⟩⟩⟩⟩⟩)⟩, ⟨kx BK530⟩, ⟨kx BK531⟩, ⟨kx BK532⟩, ⟨kx BK533⟩, ⟨by (with_reducible repeat (first | refine blk_drewN ?_ _ | refine blk_drew ?_ | refine blk_alloc ?_ _)); refine blk_put (cs := #[.bool t545, .slice Ao27 x538001_1.length co27]) ?_ 1 _ rfl; (with_reducible repeat (first | refine blk_drewN ?_ _ | refine blk_drew ?_ | refine blk_alloc ?_ _)); refine blk_put (cs := #[.bool x538000_1, .slice Ao27 x538001_1.length co27]) ?_ 0 _ rfl; (with_reducible repeat (first | refine blk_drewN ?_ _ | refine blk_drew ?_ | refine blk_alloc ?_ _)); exact BK537.out⟩, ⟨ky HB⟩⟩
      case round =>
        clear H'
        try clear c1; try clear c2; try clear p2; try clear c3; try clear c3b0; try clear c3b1; try clear c4; try clear c4b0; try clear c4b1; try clear c5; try clear p5; try clear q5; try clear hx5; try clear p6; try clear c9; try clear c10; try clear c11; try clear c16; try clear c18; try clear c18b0; try clear c19; try clear c19b0; try clear c20; try clear c20b0; try clear c21; try clear c28; try clear hcz12_0; try clear hcz12_1; try clear hcz17_0; try clear hcz17_1; try clear hfz12_0; try clear hfz12_1; try clear hfz17_0; try clear hfz17_1; try clear hx538_0; try clear p2; try clear p538; try clear p6; try clear q538
        obtain ⟨x6_2, x538000_2, x538001_2, u538001, HA, HK2, HO_6, HO_532001, HO_538001, BK530, BK531, BK532, BK533, BK537, HB⟩ := hrel
        cases gk with
        | zero => exact absurd HA.out (by simp [cobwebref01_Div.l1])
        | succ k2 =>
          have H := HA.out; clear HA
          simp only [cobwebref01_Div.l1] at H
          replace H := Option.bind_eq_some_iff.mp H
          obtain ⟨t549, A330, H⟩ := H
          replace H : (if t549 ≥ 0 then ((cobwebref01_Neg.f k2 a1_0 l1_1).bind fun bt550 => ((cobwebref01_Add.f k2 x538000_2 x538001_2 bt550.1 bt550.2).bind fun bt554 => (if 0 ≤ x8_1 then (if x8_1 < (x6_2.length : Int) then (cobwebref01_Div.l1 k2 (x6_2.set (x8_1 : Int).toNat (wrap64 ((rd x6_2 x8_1) + 1))) x8_1 a0_0 l0_1 a1_0 l1_1 bt554.1 bt554.2) else (none)) else (none)))) else (cobwebref01_Div.l0 k2 x6_2 (wrap64 (x8_1 - 1)) a0_0 l0_1 a1_0 l1_1 x538000_2 x538001_2)) = some (r1, r2, r3, r4) := H
          have A33 := Aside0.mk A330
          clear A330
          by_cases c34 : t549 ≥ 0
          rotate_left
          · rw [if_neg c34] at H
            have c34b0 : decide (0 ≤ t549) = false := decide_eq_false c34
            clear c34
            have H' := Aside0.mk H
            clear H; have hnb62 := NB537_530.out; have hnc62 := NB530_537.out; have hnb63 := NB537_531.out; have hnc63 := NB531_537.out; have hnb64 := NB537_532.out; have hnc64 := NB532_537.out; have hnb65 := NB537_533.out; have hnc65 := NB533_537.out
            have hcz66_0 : wr.cell? ⟨gb537, 0, none⟩ = some (.bool x538000_2) := kc BK537 0
            have hcz66_1 : wr.cell? ⟨gb537, 1, none⟩ = some (u538001) := kc BK537 1
            have hfz66_0 := blk_frozen BK537.out 0
            have hfz66_1 := blk_frozen BK537.out 1
            have hnb67 := NB531_530.out; have hnc67 := NB530_531.out; have hnb68 := NB531_532.out; have hnc68 := NB532_531.out; have hnb69 := NB531_533.out; have hnc69 := NB533_531.out
            have hcz70_0 : wr.cell? ⟨gb531, 0, none⟩ = some (.bool a1_0) := kc BK531 0
            have hcz70_1 : wr.cell? ⟨gb531, 1, none⟩ = some (.slice A1_1 l1_1.length c1_1) := kc BK531 1
            have hfz70_0 := blk_frozen BK531.out 0
            have hfz70_1 := blk_frozen BK531.out 1
            obtain ⟨Ao71, co71, eo71⟩ := Kd.V_slice HO_538001.out
            subst eo71
            go_wp2_with (first | ((with_reducible refine gate_callee (f := 25) rfl ?_); refine goesL_ (some 35) rfl rfl Try.func25 (by kernel_rfl) rfl #[.agg #[.bool x538000_2, .slice Ao71 x538001_2.length co71], .agg #[.bool a1_0, .slice A1_1 l1_1.length c1_1]] rfl (by (try simp only [List.map_toArray, List.map_cons, List.map_nil]); first | done | rfl | (simp only [List.length_drop, List.length_take]; rfl)) ?_; (with_reducible refine (cobwebref01_Cmp.calls k2 x538000_2 _ _ x538001_2 a1_0 _ _ l1_1 t549 _ ?side1 ?side2 ?side3 ?side4 A33.out).mono ?_); (case side1 => repeat (first | exact (Kd.V_reads' HO_538001.out).2.2 | (with_reducible refine Kd.C_alloc ?_ _) | (with_reducible refine Kd.C_drewN ?_ _) | (with_reducible refine Kd.C_drew ?_))); (case side2 => exact (Kd.V_reads' HO_538001.out).2.1); (case side3 => repeat (first | exact (Kd.V_reads' HO_532001.out).2.2 | (with_reducible refine Kd.C_alloc ?_ _) | (with_reducible refine Kd.C_drewN ?_ _) | (with_reducible refine Kd.C_drew ?_))); (case side4 => exact (Kd.V_reads' HO_532001.out).2.1); rintro e w72 ⟨rfl, hb⟩; refine ⟨_, rfl, ?_⟩; replace HO_6 := kR HO_6 hb; replace HO_532001 := kV HO_532001 hb; replace HO_538001 := kV HO_538001 hb; replace BK530 := kb BK530 hb; replace BK531 := kb BK531 hb; replace BK532 := kb BK532 hb; replace BK533 := kb BK533 hb; replace BK537 := kb BK537 hb; replace HB := kB HB hb; (try clear hb); (try clear hb2); (try clear hk); (try clear hi)))
            go_roundg k2
            case measure => have := HK1.out; have := HK2.out; omega
            case rel => exact ⟨(x6_2), (wrap64 (x8_1 - 1)), (x538000_2), (x538001_2), (.slice Ao71 x538001_2.length co71), (by first | rfl | (simp; done) | (simp [*]; done)), H', ⟨by have := HK1.out; have := HK2.out; omega⟩, ⟨by (with_reducible repeat (first | apply Kd.R_alloc | apply Kd.R_drewN | apply Kd.R_drew)); exact HO_6.out⟩, ⟨by (with_reducible repeat (first | apply Kd.V_alloc | apply Kd.V_drewN | apply Kd.V_drew)); exact HO_532001.out⟩, ⟨by (with_reducible repeat (first | apply Kd.V_alloc | apply Kd.V_drewN | apply Kd.V_drew)); exact HO_538001.out⟩, ⟨kx BK530⟩, ⟨kx BK531⟩, ⟨kx BK532⟩, ⟨kx BK533⟩, ⟨kx BK537⟩, ⟨ky HB⟩⟩
          rw [if_pos c34] at H
          have c34b0 : decide (0 ≤ t549) = true := decide_eq_true c34
          clear c34
          replace H := Option.bind_eq_some_iff.mp H
          obtain ⟨⟨t550, t551⟩, A350, H⟩ := H
          replace H : ((cobwebref01_Add.f k2 x538000_2 x538001_2 t550 t551).bind fun bt554 => (if 0 ≤ x8_1 then (if x8_1 < (x6_2.length : Int) then (cobwebref01_Div.l1 k2 (x6_2.set (x8_1 : Int).toNat (wrap64 ((rd x6_2 x8_1) + 1))) x8_1 a0_0 l0_1 a1_0 l1_1 bt554.1 bt554.2) else (none)) else (none))) = some (r1, r2, r3, r4) := H
          have A35 := Aside0.mk A350
          clear A350
          replace H := Option.bind_eq_some_iff.mp H
          obtain ⟨⟨t554, t555⟩, A360, H⟩ := H
          replace H : (if 0 ≤ x8_1 then (if x8_1 < (x6_2.length : Int) then (cobwebref01_Div.l1 k2 (x6_2.set (x8_1 : Int).toNat (wrap64 ((rd x6_2 x8_1) + 1))) x8_1 a0_0 l0_1 a1_0 l1_1 t554 t555) else (none)) else (none)) = some (r1, r2, r3, r4) := H
          have A36 := Aside0.mk A360
          clear A360
          by_cases c37 : 0 ≤ x8_1
          rotate_left
          · rw [if_neg c37] at H
            exact absurd H (by simp)
          rw [if_pos c37] at H
          have c37b0 : decide (0 ≤ x8_1) = true := decide_eq_true c37
          clear c37
          by_cases c38 : x8_1 < (x6_2.length : Int)
          rotate_left
          · rw [if_neg c38] at H
            exact absurd H (by simp)
          rw [if_pos c38] at H
          have c38b0 : decide (x8_1 < (x6_2.length : Int)) = true := decide_eq_true c38
          clear c38
          obtain ⟨y559, hy559⟩ : ∃ y_ : List Int, y_ = (x6_2.set (x8_1 : Int).toNat (wrap64 ((rd x6_2 x8_1) + 1))) := ⟨_, rfl⟩
          replace H : (cobwebref01_Div.l1 k2 y559 x8_1 a0_0 l0_1 a1_0 l1_1 t554 t555) = some (r1, r2, r3, r4) := by first | (rw [hy559]; with_reducible exact H) | (have H2_ := (Option.bind_some _ _).symm.trans H; rw [hy559]; with_reducible exact H2_) | (have H2_ := (Option.bind_some _ _).symm.trans H; with_reducible exact H2_) | with_reducible exact H | (rw [hy559]; exact H) | exact H
          have Ny559 := Aside0.mk hy559
          clear hy559
          have H' := Aside0.mk H
          clear H; have hnb40 := NB537_530.out; have hnc40 := NB530_537.out; have hnb41 := NB537_531.out; have hnc41 := NB531_537.out; have hnb42 := NB537_532.out; have hnc42 := NB532_537.out; have hnb43 := NB537_533.out; have hnc43 := NB533_537.out
          have hcz44_0 : wr.cell? ⟨gb537, 0, none⟩ = some (.bool x538000_2) := kc BK537 0
          have hcz44_1 : wr.cell? ⟨gb537, 1, none⟩ = some (u538001) := kc BK537 1
          have hfz44_0 := blk_frozen BK537.out 0
          have hfz44_1 := blk_frozen BK537.out 1
          have hnb45 := NB531_530.out; have hnc45 := NB530_531.out; have hnb46 := NB531_532.out; have hnc46 := NB532_531.out; have hnb47 := NB531_533.out; have hnc47 := NB533_531.out
          have hcz48_0 : wr.cell? ⟨gb531, 0, none⟩ = some (.bool a1_0) := kc BK531 0
          have hcz48_1 : wr.cell? ⟨gb531, 1, none⟩ = some (.slice A1_1 l1_1.length c1_1) := kc BK531 1
          have hfz48_0 := blk_frozen BK531.out 0
          have hfz48_1 := blk_frozen BK531.out 1
          obtain ⟨Ao49, co49, eo49⟩ := Kd.V_slice HO_538001.out
          subst eo49
          try go_wp2_with (first | ((with_reducible refine gate_callee (f := 25) rfl ?_); refine goesL_ (some 35) rfl rfl Try.func25 (by kernel_rfl) rfl #[.agg #[.bool x538000_2, .slice Ao49 x538001_2.length co49], .agg #[.bool a1_0, .slice A1_1 l1_1.length c1_1]] rfl (by (try simp only [List.map_toArray, List.map_cons, List.map_nil]); first | done | rfl | (simp only [List.length_drop, List.length_take]; rfl)) ?_; (with_reducible refine (cobwebref01_Cmp.calls k2 x538000_2 _ _ x538001_2 a1_0 _ _ l1_1 t549 _ ?side1 ?side2 ?side3 ?side4 A33.out).mono ?_); (case side1 => repeat (first | exact (Kd.V_reads' HO_538001.out).2.2 | (with_reducible refine Kd.C_alloc ?_ _) | (with_reducible refine Kd.C_drewN ?_ _) | (with_reducible refine Kd.C_drew ?_))); (case side2 => exact (Kd.V_reads' HO_538001.out).2.1); (case side3 => repeat (first | exact (Kd.V_reads' HO_532001.out).2.2 | (with_reducible refine Kd.C_alloc ?_ _) | (with_reducible refine Kd.C_drewN ?_ _) | (with_reducible refine Kd.C_drew ?_))); (case side4 => exact (Kd.V_reads' HO_532001.out).2.1); rintro e w50 ⟨rfl, hb⟩; refine ⟨_, rfl, ?_⟩; replace HO_6 := kR HO_6 hb; replace HO_532001 := kV HO_532001 hb; replace HO_538001 := kV HO_538001 hb; replace BK530 := kb BK530 hb; replace BK531 := kb BK531 hb; replace BK532 := kb BK532 hb; replace BK533 := kb BK533 hb; replace BK537 := kb BK537 hb; replace HB := kB HB hb; (try clear hb); (try clear hb2); (try clear hk); (try clear hi)))
          replace HO_6 := Aside0.mk (Kd.R_drew HO_6.out)
          replace HO_532001 := Aside0.mk (Kd.V_drew HO_532001.out)
          replace HO_538001 := Aside0.mk (Kd.V_drew HO_538001.out)
          replace BK530 := Aside0.mk (blk_drew BK530.out)
          replace BK531 := Aside0.mk (blk_drew BK531.out)
          replace BK532 := Aside0.mk (blk_drew BK532.out)
          replace BK533 := Aside0.mk (blk_drew BK533.out)
          replace BK537 := Aside0.mk (blk_drew BK537.out)
          replace HB := Aside0.mk (below_drew1 HB.out)
          refine start_ (n := 5) (S := fun w' => w'.cell? ⟨gb537, 0, none⟩ = some (.bool x538000_2) ∧ w'.cell? ⟨gb537, 1, none⟩ = some (.slice Ao49 x538001_2.length co49) ∧ w'.cell? ⟨gb531, 0, none⟩ = some (.bool a1_0) ∧ w'.cell? ⟨gb531, 1, none⟩ = some (.slice A1_1 l1_1.length c1_1)) (ds := [4]) #[O, O, O, O, O] (by kernel_rfl) rfl rfl ⟨kc BK537 0, kc BK537 1, kc BK531 0, kc BK531 1⟩ (fun hHeld => ?_)
          generalize w50.drew = w51 at HO_6 HO_532001 HO_538001 BK530 BK531 BK532 BK533 BK537 HB hHeld ⊢
          refine take_ (i := 0) (N := some 37) (v := ?_) (a' := ?_) #[T, O, O, O, O] rfl rfl (by kernel_rfl) (fun _ _ _ h => h) (Or.inl ⟨by rfl, ?_⟩) hHeld ?_ ?_; rotate_left; focus (rintro w' ⟨s0, s1, s2, s3⟩; go_simp; with_reducible rfl)
          rotate_left; focus (simp only [Act.put, s1, s2, s3, i64_w, i32_w]; rfl)
          refine take_ (i := 1) (N := some 38) (v := ?_) (a' := ?_) #[T, T, O, O, O] rfl rfl (by kernel_rfl) (fun _ _ _ h => h) (Or.inl ⟨by rfl, ?_⟩) hHeld ?_ ?_; rotate_left; focus (rintro w' ⟨s0, s1, s2, s3⟩; go_simp; with_reducible rfl)
          rotate_left; focus (simp only [Act.put, s1, s2, s3, i64_w, i32_w]; rfl)
          refine one_ (i := 2) (N := some 39) #[T, T, T, O, O] rfl rfl (by kernel_rfl) (by decide) (fun K hK => ?_)
          refine goes_ Try.func31 (by kernel_rfl) rfl #[.agg #[.bool a1_0, .slice A1_1 l1_1.length c1_1]] (by rfl) rfl rfl (by (try simp only [List.map_toArray, List.map_cons, List.map_nil]); first | done | rfl | (simp only [List.length_drop, List.length_take]; rfl)) ?_
          with_reducible refine (cobwebref01_Neg.calls k2 a1_0 (fun k_ => ((P1_1_ k_ ∨ w.heap.size ≤ k_) ∧ (some k_ ≠ (v535 : Value).ownBlock ∧ (k_ ≠ gb530 ∧ (k_ ≠ gb531 ∧ (k_ ≠ gb532 ∧ (k_ ≠ gb533 ∧ k_ ≠ gb537))))))) _ _ l1_1 t550 t551 _ ?side1 A35.out).mono ?_
          (case side1 => exact HO_532001.out)
          rintro e w52 ⟨v552, rfl, ho0, hb⟩
          refine ⟨_, rfl, ?_⟩
          have HO553 := Aside0.mk (Kd.V_lower (Kd.V_mono (ok' := fun k_ => (P1_1_ k_ ∨ w.heap.size ≤ k_) ∧ some k_ ≠ (v535 : Value).ownBlock ∧ k_ ≠ gb530 ∧ k_ ≠ gb531 ∧ k_ ≠ gb532 ∧ k_ ≠ gb533 ∧ k_ ≠ gb537) ho0 (fun k_ hk_ => ⟨Or.elim hk_ (fun hs_ => hs_.1) (fun hn_ => (.inr (Nat.le_trans (below_size (ky HB)) hn_))), Or.elim hk_ (fun hs_ => hs_.2.1) (fun hn_ => (Kd.fresh' (Kd.R_lt (kr HO_6)) k_ hn_)), Or.elim hk_ (fun hs_ => hs_.2.2.1) (fun hn_ => (Kd.freshB (g := gb530) (o := .cells #[.bool a0_0, .slice (some ad538) l0_1.length c0_1] 32 (0, 0)) (kx BK530) k_ hn_)), Or.elim hk_ (fun hs_ => hs_.2.2.2.1) (fun hn_ => (Kd.freshB (g := gb531) (o := .cells #[.bool a1_0, .slice A1_1 l1_1.length c1_1] 32 (0, 0)) (kx BK531) k_ hn_)), Or.elim hk_ (fun hs_ => hs_.2.2.2.2.1) (fun hn_ => (Kd.freshB (g := gb532) (o := .cells #[.bool false, .slice none 0 0] 32 (0, 0)) (kx BK532) k_ hn_)), Or.elim hk_ (fun hs_ => hs_.2.2.2.2.2.1) (fun hn_ => (Kd.freshB (g := gb533) (o := .cells #[.bool false, .slice none 0 0] 32 (0, 0)) (kx BK533) k_ hn_)), Or.elim hk_ (fun hs_ => hs_.2.2.2.2.2.2) (fun hn_ => (Kd.freshB (g := gb537) (o := .cells #[.bool x538000_2, .slice Ao49 x538001_2.length co49] 32 (0, 0)) (kx BK537) k_ hn_))⟩)) (below_size (ky HB)))
          replace HO_6 := kR HO_6 hb
          replace HO_532001 := kV HO_532001 hb
          replace HO_538001 := kV HO_538001 hb
          replace BK530 := kb BK530 hb
          replace BK531 := kb BK531 hb
          replace BK532 := kb BK532 hb
          replace BK533 := kb BK533 hb
          replace BK537 := kb BK537 hb
          replace HB := kB HB hb
          (try clear hb); (try clear hb2); (try clear hk); (try clear hi); (try clear ho0)
          obtain ⟨Ao53, co53, eo53⟩ := Kd.V_slice HO553.out
          (first | subst eo53 | (injection eo53 with f1_ f2_ f3_; have f4_ := f1_.symm; have f5_ := f3_.symm; clear f1_ f2_ f3_; subst f4_; subst f5_))
          refine hK.out _ _ ⟨kc BK537 0, kc BK537 1, kc BK531 0, kc BK531 1⟩ (fun hHeld => ?_)
          clear hK K
          refine norm_ (a' := ?_) ?_ ?_; rotate_left; focus (show Act.put _ (some 39) _ = _; simp only [Act.put, s1, s2, s3, i64_w, i32_w]; rfl)
          refine one_ (i := 3) (N := some 40) #[T, T, T, T, O] rfl rfl (by kernel_rfl) (by decide) (fun K hK => ?_)
          refine goes_ Try.func45 (by kernel_rfl) rfl #[.agg #[.bool x538000_2, .slice Ao49 x538001_2.length co49], .agg #[.bool t550, .slice Ao53 t551.length co53]] (by rfl) rfl rfl (by (try simp only [List.map_toArray, List.map_cons, List.map_nil]); first | done | rfl | (simp only [List.length_drop, List.length_take]; rfl)) ?_
          with_reducible refine (cobwebref01_Add.calls k2 x538000_2 _ _ x538001_2 t550 _ _ t551 t554 t555 _ ?side1 ?side2 ?side3 ?side4 A36.out).mono ?_
          (case side1 => repeat (first | exact (Kd.V_reads' HO_538001.out).2.2 | (with_reducible refine Kd.C_alloc ?_ _) | (with_reducible refine Kd.C_drewN ?_ _) | (with_reducible refine Kd.C_drew ?_)))
          (case side2 => exact (Kd.V_reads' HO_538001.out).2.1)
          (case side3 => repeat (first | exact (Kd.V_reads' HO553.out).2.2 | (with_reducible refine Kd.C_alloc ?_ _) | (with_reducible refine Kd.C_drewN ?_ _) | (with_reducible refine Kd.C_drew ?_)))
          (case side4 => exact (Kd.V_reads' HO553.out).2.1)
          rintro e w54 ⟨v556, rfl, ho0, hb⟩
          refine ⟨_, rfl, ?_⟩
          have HO557 := Aside0.mk (Kd.V_lower (Kd.V_mono (ok' := fun k_ => (P1_1_ k_ ∨ w.heap.size ≤ k_) ∧ some k_ ≠ (v535 : Value).ownBlock ∧ k_ ≠ gb530 ∧ k_ ≠ gb531 ∧ k_ ≠ gb532 ∧ k_ ≠ gb533 ∧ k_ ≠ gb537) ho0 (fun k_ hk_ => ⟨(.inr (Nat.le_trans (below_size (ky HB)) hk_)), (Kd.fresh' (Kd.R_lt (kr HO_6)) k_ hk_), (Kd.freshB (g := gb530) (o := .cells #[.bool a0_0, .slice (some ad538) l0_1.length c0_1] 32 (0, 0)) (kx BK530) k_ hk_), (Kd.freshB (g := gb531) (o := .cells #[.bool a1_0, .slice A1_1 l1_1.length c1_1] 32 (0, 0)) (kx BK531) k_ hk_), (Kd.freshB (g := gb532) (o := .cells #[.bool false, .slice none 0 0] 32 (0, 0)) (kx BK532) k_ hk_), (Kd.freshB (g := gb533) (o := .cells #[.bool false, .slice none 0 0] 32 (0, 0)) (kx BK533) k_ hk_), (Kd.freshB (g := gb537) (o := .cells #[.bool x538000_2, .slice Ao49 x538001_2.length co49] 32 (0, 0)) (kx BK537) k_ hk_)⟩)) (below_size (ky HB)))
          replace HO_6 := kR HO_6 hb
          replace HO_532001 := kV HO_532001 hb
          replace HO_538001 := kV HO_538001 hb
          replace HO553 := kV HO553 hb
          replace BK530 := kb BK530 hb
          replace BK531 := kb BK531 hb
          replace BK532 := kb BK532 hb
          replace BK533 := kb BK533 hb
          replace BK537 := kb BK537 hb
          replace HB := kB HB hb
          (try clear hb); (try clear hb2); (try clear hk); (try clear hi); (try clear ho0)
          obtain ⟨Ao56, co56, eo56⟩ := Kd.V_slice HO557.out
          (first | subst eo56 | (injection eo56 with f1_ f2_ f3_; have f4_ := f1_.symm; have f5_ := f3_.symm; clear f1_ f2_ f3_; subst f4_; subst f5_))
          refine hK.out _ _ ⟨kc BK537 0, kc BK537 1, kc BK531 0, kc BK531 1⟩ (fun hHeld => ?_)
          clear hK K
          refine norm_ (a' := ?_) ?_ ?_; rotate_left; focus (show Act.put _ (some 40) _ = _; simp only [Act.put, s1, s2, s3, i64_w, i32_w]; rfl)
          refine last_ (i := 4) (N := none) #[T, T, T, T, T] rfl rfl (by kernel_rfl) (by decide) (fun K hK => ?_)
          have hs55 : w54.cell? ⟨gb537, 0, none⟩ = some (.bool x538000_2) := kc BK537 0
          have hfs55 := blk_frozen BK537.out 0
          have hns55_0 := NB530_537.out; have hns55_1 := NB531_537.out; have hns55_2 := NB532_537.out; have hns55_3 := NB533_537.out; have hms55_0 := NB537_530.out; have hms55_1 := NB537_531.out; have hms55_2 := NB537_532.out; have hms55_3 := NB537_533.out
          have hs57 : w54.cell? ⟨gb537, 1, none⟩ = some (.slice Ao49 x538001_2.length co49) := kc BK537 1
          have hfs57 := blk_frozen BK537.out 1
          have hns57_0 := NB530_537.out; have hns57_1 := NB531_537.out; have hns57_2 := NB532_537.out; have hns57_3 := NB533_537.out; have hms57_0 := NB537_530.out; have hms57_1 := NB537_531.out; have hms57_2 := NB537_532.out; have hms57_3 := NB537_533.out
          refine skip_ (w1 := ?_) (by rfl) rfl ?_ ?_
          rotate_left
          · go_simp
            rfl
          refine hK.out _ _ ?_
          clear hK K
          refine done_ (by kernel_rfl) ?_
          have n0_ : Aside0 (Kd.R (Kd.int .i64) 3 ((w54.setCell ⟨gb537, 0, none⟩ (.bool t554)).setCell ⟨gb537, 1, none⟩ (.slice Ao56 t555.length co56)) w.heap.size (fun k_ => (w.heap.size ≤ k_)) v535 x6_2) := ⟨by (with_reducible repeat (first | apply Kd.R_alloc | apply Kd.R_drewN | apply Kd.R_drew)); exact Kd.R_mono (Kd.R_far (p := ⟨gb537, 1, none⟩) (Kd.R_far (p := ⟨gb537, 0, none⟩) (Kd.R_types HO_6.out BK537.out (by decide)) (fun _ hk => hk.2) (.bool t554)) (fun _ hk => hk.2) (.slice Ao56 t555.length co56)) (fun _ hk => hk.1)⟩
          have n1_ : Aside0 (Kd.V (Kd.int .i64) 3 ((w54.setCell ⟨gb537, 0, none⟩ (.bool t554)).setCell ⟨gb537, 1, none⟩ (.slice Ao56 t555.length co56)) w.heap.size (fun k_ => (P1_1_ k_ ∨ w.heap.size ≤ k_) ∧ some k_ ≠ (v535 : Value).ownBlock ∧ k_ ≠ gb530 ∧ k_ ≠ gb531 ∧ k_ ≠ gb532 ∧ k_ ≠ gb533 ∧ k_ ≠ gb537) (.slice A1_1 l1_1.length c1_1) l1_1) := ⟨by (with_reducible repeat (first | apply Kd.V_alloc | apply Kd.V_drewN | apply Kd.V_drew)); exact Kd.V_mono (Kd.V_far (p := ⟨gb537, 1, none⟩) (Kd.V_far (p := ⟨gb537, 0, none⟩) (Kd.V_mono HO_532001.out (fun k_ hk => (⟨hk, hk.2.2.2.2.2.2⟩ : _ ∧ k_ ≠ gb537))) (fun _ hk => hk.2) (.bool t554)) (fun _ hk => hk.2) (.slice Ao56 t555.length co56)) (fun _ hk => ⟨hk.1.1, ⟨hk.1.2.1, ⟨hk.1.2.2.1, ⟨hk.1.2.2.2.1, ⟨hk.1.2.2.2.2.1, ⟨hk.1.2.2.2.2.2.1, hk.1.2.2.2.2.2.2⟩⟩⟩⟩⟩⟩)⟩
          have n2_ : Aside0 (Kd.V (Kd.int .i64) 3 ((w54.setCell ⟨gb537, 0, none⟩ (.bool t554)).setCell ⟨gb537, 1, none⟩ (.slice Ao56 t555.length co56)) w.heap.size (fun k_ => (P1_1_ k_ ∨ w.heap.size ≤ k_) ∧ some k_ ≠ (v535 : Value).ownBlock ∧ k_ ≠ gb530 ∧ k_ ≠ gb531 ∧ k_ ≠ gb532 ∧ k_ ≠ gb533 ∧ k_ ≠ gb537) (.slice Ao49 x538001_2.length co49) x538001_2) := ⟨by (with_reducible repeat (first | apply Kd.V_alloc | apply Kd.V_drewN | apply Kd.V_drew)); exact Kd.V_mono (Kd.V_far (p := ⟨gb537, 1, none⟩) (Kd.V_far (p := ⟨gb537, 0, none⟩) (Kd.V_mono HO_538001.out (fun k_ hk => (⟨hk, hk.2.2.2.2.2.2⟩ : _ ∧ k_ ≠ gb537))) (fun _ hk => hk.2) (.bool t554)) (fun _ hk => hk.2) (.slice Ao56 t555.length co56)) (fun _ hk => ⟨hk.1.1, ⟨hk.1.2.1, ⟨hk.1.2.2.1, ⟨hk.1.2.2.2.1, ⟨hk.1.2.2.2.2.1, ⟨hk.1.2.2.2.2.2.1, hk.1.2.2.2.2.2.2⟩⟩⟩⟩⟩⟩)⟩
          have n3_ : Aside0 (Kd.V (Kd.int .i64) 3 ((w54.setCell ⟨gb537, 0, none⟩ (.bool t554)).setCell ⟨gb537, 1, none⟩ (.slice Ao56 t555.length co56)) w.heap.size (fun k_ => (P1_1_ k_ ∨ w.heap.size ≤ k_) ∧ some k_ ≠ (v535 : Value).ownBlock ∧ k_ ≠ gb530 ∧ k_ ≠ gb531 ∧ k_ ≠ gb532 ∧ k_ ≠ gb533 ∧ k_ ≠ gb537) (.slice Ao53 t551.length co53) t551) := ⟨by (with_reducible repeat (first | apply Kd.V_alloc | apply Kd.V_drewN | apply Kd.V_drew)); exact Kd.V_mono (Kd.V_far (p := ⟨gb537, 1, none⟩) (Kd.V_far (p := ⟨gb537, 0, none⟩) (Kd.V_mono HO553.out (fun k_ hk => (⟨hk, hk.2.2.2.2.2.2⟩ : _ ∧ k_ ≠ gb537))) (fun _ hk => hk.2) (.bool t554)) (fun _ hk => hk.2) (.slice Ao56 t555.length co56)) (fun _ hk => ⟨hk.1.1, ⟨hk.1.2.1, ⟨hk.1.2.2.1, ⟨hk.1.2.2.2.1, ⟨hk.1.2.2.2.2.1, ⟨hk.1.2.2.2.2.2.1, hk.1.2.2.2.2.2.2⟩⟩⟩⟩⟩⟩)⟩
          have n4_ : Aside0 (Kd.V (Kd.int .i64) 3 ((w54.setCell ⟨gb537, 0, none⟩ (.bool t554)).setCell ⟨gb537, 1, none⟩ (.slice Ao56 t555.length co56)) w.heap.size (fun k_ => (P1_1_ k_ ∨ w.heap.size ≤ k_) ∧ some k_ ≠ (v535 : Value).ownBlock ∧ k_ ≠ gb530 ∧ k_ ≠ gb531 ∧ k_ ≠ gb532 ∧ k_ ≠ gb533 ∧ k_ ≠ gb537) (.slice Ao56 t555.length co56) t555) := ⟨by (with_reducible repeat (first | apply Kd.V_alloc | apply Kd.V_drewN | apply Kd.V_drew)); exact Kd.V_mono (Kd.V_far (p := ⟨gb537, 1, none⟩) (Kd.V_far (p := ⟨gb537, 0, none⟩) (Kd.V_mono HO557.out (fun k_ hk => (⟨hk, hk.2.2.2.2.2.2⟩ : _ ∧ k_ ≠ gb537))) (fun _ hk => hk.2) (.bool t554)) (fun _ hk => hk.2) (.slice Ao56 t555.length co56)) (fun _ hk => ⟨hk.1.1, ⟨hk.1.2.1, ⟨hk.1.2.2.1, ⟨hk.1.2.2.2.1, ⟨hk.1.2.2.2.2.1, ⟨hk.1.2.2.2.2.2.1, hk.1.2.2.2.2.2.2⟩⟩⟩⟩⟩⟩)⟩
          have n5_ : Aside0 (((w54.setCell ⟨gb537, 0, none⟩ (.bool t554)).setCell ⟨gb537, 1, none⟩ (.slice Ao56 t555.length co56)).heap[gb530]? = some (.cells #[.bool a0_0, .slice (some ad538) l0_1.length c0_1] 32 (0, 0))) := ⟨kx BK530⟩
          have n6_ : Aside0 (((w54.setCell ⟨gb537, 0, none⟩ (.bool t554)).setCell ⟨gb537, 1, none⟩ (.slice Ao56 t555.length co56)).heap[gb531]? = some (.cells #[.bool a1_0, .slice A1_1 l1_1.length c1_1] 32 (0, 0))) := ⟨kx BK531⟩
          have n7_ : Aside0 (((w54.setCell ⟨gb537, 0, none⟩ (.bool t554)).setCell ⟨gb537, 1, none⟩ (.slice Ao56 t555.length co56)).heap[gb532]? = some (.cells #[.bool false, .slice none 0 0] 32 (0, 0))) := ⟨kx BK532⟩
          have n8_ : Aside0 (((w54.setCell ⟨gb537, 0, none⟩ (.bool t554)).setCell ⟨gb537, 1, none⟩ (.slice Ao56 t555.length co56)).heap[gb533]? = some (.cells #[.bool false, .slice none 0 0] 32 (0, 0))) := ⟨kx BK533⟩
          have n9_ : Aside0 (((w54.setCell ⟨gb537, 0, none⟩ (.bool t554)).setCell ⟨gb537, 1, none⟩ (.slice Ao56 t555.length co56)).heap[gb537]? = some (.cells #[.bool t554, .slice Ao56 t555.length co56] 32 (0, 0))) := ⟨by (with_reducible repeat (first | refine blk_drewN ?_ _ | refine blk_drew ?_ | refine blk_alloc ?_ _)); refine blk_put (cs := #[.bool t554, .slice Ao49 x538001_2.length co49]) ?_ 1 _ rfl; (with_reducible repeat (first | refine blk_drewN ?_ _ | refine blk_drew ?_ | refine blk_alloc ?_ _)); refine blk_put (cs := #[.bool x538000_2, .slice Ao49 x538001_2.length co49]) ?_ 0 _ rfl; (with_reducible repeat (first | refine blk_drewN ?_ _ | refine blk_drew ?_ | refine blk_alloc ?_ _)); exact BK537.out⟩
          have n10_ : Aside0 (Below w.heap.size w ((w54.setCell ⟨gb537, 0, none⟩ (.bool t554)).setCell ⟨gb537, 1, none⟩ (.slice Ao56 t555.length co56))) := ⟨ky HB⟩
          (try clear HO_6); (try clear HO_532001); (try clear HO_538001); (try clear HO553); (try clear HO557); (try clear BK530); (try clear BK531); (try clear BK532); (try clear BK533); (try clear BK537); (try clear HB)
          generalize ((w54.setCell ⟨gb537, 0, none⟩ (.bool t554)).setCell ⟨gb537, 1, none⟩ (.slice Ao56 t555.length co56)) = w58 at n0_ n1_ n2_ n3_ n4_ n5_ n6_ n7_ n8_ n9_ n10_ ⊢
          have HO_6 := n0_; have HO_532001 := n1_; have HO_538001 := n2_; have HO553 := n3_; have HO557 := n4_; have BK530 := n5_; have BK531 := n6_; have BK532 := n7_; have BK533 := n8_; have BK537 := n9_; have HB := n10_
          clear n0_ n1_ n2_ n3_ n4_ n5_ n6_ n7_ n8_ n9_ n10_
          obtain ⟨Ao59, co59, eo59⟩ := Kd.R_slice HO_6.out
          subst eo59
          have p558 : 0 ≤ (x8_1 : Int) := of_decide_eq_true (by first | (with_reducible assumption) | assumption)
          have q558 : x8_1 < (x6_2.length : Int) := of_decide_eq_true (by first | (with_reducible assumption) | assumption)
          obtain ⟨ad558, e558, hx558_0⟩ := Kd.at_int (Kd.R_reads' HO_6.out).2.2 x8_1 p558 q558
          cases e558
          replace p558 := eq_true p558
          replace q558 := eq_true q558
          have p39 : 0 ≤ (x8_1 : Int) := of_decide_eq_true (by first | (with_reducible assumption) | assumption)
          have q39 : (x8_1 : Int) < ((x6_2.length : Int) : Int) := of_decide_eq_true (by first | (with_reducible assumption) | assumption)
          obtain ⟨go39, co39, eo39, gb39, gl39, cl39, HG39⟩ := Kd.R_form HO_6.out (by omega)
          (first | cases eo39 | (injection eo39 with ea_ en_ ec_; (first | subst ea_ | (injection ea_ with ea_; subst ea_)); subst ec_; clear en_))
          have GB39 := Aside0.mk gb39
          have GG39 := Aside0.mk HG39
          clear gb39 gl39 HG39
          (first | simp only [add_plain] at hx558_0 | skip)
          obtain ⟨hx39_0, hf39_0⟩ := Kd.R_celln 0 HO_6.out (x8_1 : Int) p39 q39
          replace p39 := eq_true p39
          replace q39 := eq_true q39
          obtain ⟨hy60_, hz60_⟩ := Kd.R_celln 0 HO_6.out (x8_1 : Int) (of_decide_eq_true (by first | (with_reducible assumption) | assumption)) (of_decide_eq_true (by first | (with_reducible assumption) | assumption))
          have HP60 := Kd.R_putg HO_6.out (x8_1 : Int) (wrap64 ((rd x6_2 x8_1) + 1))
          try go_wp2_with (first | ((with_reducible refine gate_store (t := 3) (p := 46) rfl ?_); refine store_event (t := 3) (p := 46) (v := ?vo_w61) (w1 := (w58.setCell ⟨go39, (x8_1 : Int).toNat, none⟩ (.int .i64 (wrap64 ((rd x6_2 x8_1) + 1))))) ?hg ?ho ?hn ?hr ?_; (case ho => rfl); (case hg => rfl); (case hn => rfl); (case hr => first | (go_simp; done) | (go_simp; rfl)); intro w61 hw; have hg : w58.grownBy w61 (some go39) := (by rw [hw]; exact HP60.2); have hp_ : Kd.R (Kd.int .i64) 3 w61 w.heap.size (fun k_ => (w.heap.size ≤ k_)) (.slice (some ⟨go39, 0, none⟩) x6_2.length co59) y559 := (by rw [hw, Ny559.out]; exact HP60.1); clear HP60; have n0_ := Aside0.mk (hp_); have n1_ := Aside0.mk (Kd.V_afterv (v := (.slice (some ⟨go39, 0, none⟩) x6_2.length co59)) (v1 := (.slice (some ⟨go39, 0, none⟩) x6_2.length co59)) (ok := (fun k_ => (P1_1_ k_ ∨ w.heap.size ≤ k_) ∧ k_ ≠ gb530 ∧ k_ ≠ gb531 ∧ k_ ≠ gb532 ∧ k_ ≠ gb533 ∧ k_ ≠ gb537)) (by (with_reducible repeat (first | apply Kd.V_alloc | apply Kd.V_drewN | apply Kd.V_drew)); exact Kd.V_mono HO_532001.out (fun _ hk => ⟨⟨hk.1, ⟨hk.2.2.1, ⟨hk.2.2.2.1, ⟨hk.2.2.2.2.1, ⟨hk.2.2.2.2.2.1, hk.2.2.2.2.2.2⟩⟩⟩⟩⟩, hk.2.1⟩)) hg (.inl rfl)); have n2_ := Aside0.mk (Kd.V_afterv (v := (.slice (some ⟨go39, 0, none⟩) x6_2.length co59)) (v1 := (.slice (some ⟨go39, 0, none⟩) x6_2.length co59)) (ok := (fun k_ => (P1_1_ k_ ∨ w.heap.size ≤ k_) ∧ k_ ≠ gb530 ∧ k_ ≠ gb531 ∧ k_ ≠ gb532 ∧ k_ ≠ gb533 ∧ k_ ≠ gb537)) (by (with_reducible repeat (first | apply Kd.V_alloc | apply Kd.V_drewN | apply Kd.V_drew)); exact Kd.V_mono HO_538001.out (fun _ hk => ⟨⟨hk.1, ⟨hk.2.2.1, ⟨hk.2.2.2.1, ⟨hk.2.2.2.2.1, ⟨hk.2.2.2.2.2.1, hk.2.2.2.2.2.2⟩⟩⟩⟩⟩, hk.2.1⟩)) hg (.inl rfl)); have n3_ := Aside0.mk (blk_grown (g := gb530) (o := .cells #[.bool a0_0, .slice (some ad538) l0_1.length c0_1] 32 (0, 0)) (kx BK530) hg (Kd.R_ne HO_6.out BK530.out (by decide))); have n4_ := Aside0.mk (blk_grown (g := gb531) (o := .cells #[.bool a1_0, .slice A1_1 l1_1.length c1_1] 32 (0, 0)) (kx BK531) hg (Kd.R_ne HO_6.out BK531.out (by decide))); have n5_ := Aside0.mk (blk_grown (g := gb532) (o := .cells #[.bool false, .slice none 0 0] 32 (0, 0)) (kx BK532) hg (Kd.R_ne HO_6.out BK532.out (by decide))); have n6_ := Aside0.mk (blk_grown (g := gb533) (o := .cells #[.bool false, .slice none 0 0] 32 (0, 0)) (kx BK533) hg (Kd.R_ne HO_6.out BK533.out (by decide))); have n7_ := Aside0.mk (blk_grown (g := gb537) (o := .cells #[.bool t554, .slice Ao56 t555.length co56] 32 (0, 0)) (kx BK537) hg (Kd.R_ne HO_6.out BK537.out (by decide))); have n8_ := Aside0.mk (Kd.V_afterv (v := (.slice (some ⟨go39, 0, none⟩) x6_2.length co59)) (v1 := (.slice (some ⟨go39, 0, none⟩) x6_2.length co59)) (ok := (fun k_ => (P1_1_ k_ ∨ w.heap.size ≤ k_) ∧ k_ ≠ gb530 ∧ k_ ≠ gb531 ∧ k_ ≠ gb532 ∧ k_ ≠ gb533 ∧ k_ ≠ gb537)) (by (with_reducible repeat (first | apply Kd.V_alloc | apply Kd.V_drewN | apply Kd.V_drew)); exact Kd.V_mono HO553.out (fun _ hk => ⟨⟨hk.1, ⟨hk.2.2.1, ⟨hk.2.2.2.1, ⟨hk.2.2.2.2.1, ⟨hk.2.2.2.2.2.1, hk.2.2.2.2.2.2⟩⟩⟩⟩⟩, hk.2.1⟩)) hg (.inl rfl)); have n9_ := Aside0.mk (Kd.V_afterv (v := (.slice (some ⟨go39, 0, none⟩) x6_2.length co59)) (v1 := (.slice (some ⟨go39, 0, none⟩) x6_2.length co59)) (ok := (fun k_ => (P1_1_ k_ ∨ w.heap.size ≤ k_) ∧ k_ ≠ gb530 ∧ k_ ≠ gb531 ∧ k_ ≠ gb532 ∧ k_ ≠ gb533 ∧ k_ ≠ gb537)) (by (with_reducible repeat (first | apply Kd.V_alloc | apply Kd.V_drewN | apply Kd.V_drew)); exact Kd.V_mono HO557.out (fun _ hk => ⟨⟨hk.1, ⟨hk.2.2.1, ⟨hk.2.2.2.1, ⟨hk.2.2.2.2.1, ⟨hk.2.2.2.2.2.1, hk.2.2.2.2.2.2⟩⟩⟩⟩⟩, hk.2.1⟩)) hg (.inl rfl)); have n10_ := Aside0.mk ((by rw [hw]; exact below_set (HB.out) GB39.out : Below w.heap.size w w61)); clear HO_6; clear HO_532001; clear HO_538001; clear BK530; clear BK531; clear BK532; clear BK533; clear BK537; clear HO553; clear HO557; clear HB; have HO_6 := n0_; have HO_532001 := n1_; have HO_538001 := n2_; have BK530 := n3_; have BK531 := n4_; have BK532 := n5_; have BK533 := n6_; have BK537 := n7_; have HO553 := n8_; have HO557 := n9_; have HB := n10_; clear n0_ n1_ n2_ n3_ n4_ n5_ n6_ n7_ n8_ n9_ n10_; clear hg hw hp_))
          go_roundg k2
          case measure => have := HK1.out; have := HK2.out; omega
          case rel => exact ⟨(y559), (t554), (t555), (.slice Ao56 t555.length co56), H', ⟨by have := HK1.out; have := HK2.out; omega⟩, ⟨by (with_reducible repeat (first | apply Kd.R_alloc | apply Kd.R_drewN | apply Kd.R_drew)); exact HO_6.out⟩, ⟨by (with_reducible repeat (first | apply Kd.V_alloc | apply Kd.V_drewN | apply Kd.V_drew)); exact Kd.V_mono HO_532001.out (fun _ hk => ⟨hk.1.1, ⟨hk.2, ⟨hk.1.2.1, ⟨hk.1.2.2.1, ⟨hk.1.2.2.2.1, ⟨hk.1.2.2.2.2.1, hk.1.2.2.2.2.2⟩⟩⟩⟩⟩⟩)⟩, ⟨by (with_reducible repeat (first | apply Kd.V_alloc | apply Kd.V_drewN | apply Kd.V_drew)); exact Kd.V_mono HO557.out (fun _ hk => ⟨hk.1.1, ⟨hk.2, ⟨hk.1.2.1, ⟨hk.1.2.2.1, ⟨hk.1.2.2.2.1, ⟨hk.1.2.2.2.2.1, hk.1.2.2.2.2.2⟩⟩⟩⟩⟩⟩)⟩, ⟨kx BK530⟩, ⟨kx BK531⟩, ⟨kx BK532⟩, ⟨kx BK533⟩, ⟨kx BK537⟩, ⟨ky HB⟩⟩
end Go.Proofs.Ytpjbniihdndlmaa.Q
