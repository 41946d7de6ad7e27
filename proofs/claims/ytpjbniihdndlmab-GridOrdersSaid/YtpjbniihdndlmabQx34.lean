-- Printed by wip/pp.sh (a session's own turning of the kit's print) for this seat.
import Derived.Test.YtpjbniihdndlmabQx0
import Derived.Test.YtpjbniihdndlmabQx26
import Derived.Test.YtpjbniihdndlmabQx33
namespace Go.Proofs.Ytpjbniihdndlmab.Q
open Go.RowKit Go.Proofs.YtpjbniihdndlmabW.PrintWords Go.Proofs.YtpjbniihdndlmabW.PrintLast Go.Proofs.YtpjbniihdndlmabW.PrintMore
open Go.Proofs.Ytpjbniihdndlmab.H
attribute [local go_sem] hq_add64 hq_sub64 hq_not64 add64c_nn sub64c_nn sub64c_le
attribute [local go_sem] max2_int min2_int max_two min_two max_three min_three max_four min_four   -- for this text's walks alone
set_option linter.unusedVariables false
set_option linter.unusedSimpArgs false

/-! ### cobweblaw03_GridOrders: function 12 -/
mutual
def cobweblaw03_GridOrders.j0 : Nat → Int → Int → Int → Int → Int → Int → Int → Option (Bool)
 | 0, _, _, _, _, _, _, _ => none
 | k + 1, x8, x1024000, x1024001, x1025000, x1025001, x1026000, x1026001 => (cobweblaw03_GridOrders_1.f x1025000 x1025001 x1024000 x1024001).bind fun t1027 => (if t1027 = true then (cobweblaw03_GridOrders.j1 k 1 x1024000 x1024001 x1025000 x1025001 x1026000 x1026001) else (cobweblaw03_GridOrders.j1 k x8 x1024000 x1024001 x1025000 x1025001 x1026000 x1026001))
def cobweblaw03_GridOrders.j1 : Nat → Int → Int → Int → Int → Int → Int → Int → Option (Bool)
 | 0, _, _, _, _, _, _, _ => none
 | k + 1, x8, x1024000, x1024001, x1025000, x1025001, x1026000, x1026001 => (grid_Cmp.f k x1024000 x1024001 x1025000 x1025001).bind fun t1028 => ((grid_Cmp.f k x1025000 x1025001 x1026000 x1026001).bind fun t1029 => ((grid_Cmp.f k x1024000 x1024001 x1026000 x1026001).bind fun t1030 => ((cobweblaw03_alive.f k).bind fun t1031 => (if t1031 = true then (if t1028 = x8 then ((grid_Cmp.f k x1025000 x1025001 x1024000 x1024001).bind fun t1032 => (if t1032 = (wrap64 (-x8)) then (if t1028 > 0 then (some true) else (if t1029 > 0 then (some true) else (some (decide (t1030 ≤ 0))))) else (none))) else (none)) else (none)))))
end
def cobweblaw03_GridOrders.f (k : Nat) (a0_0 : Int) (a0_1 : Int) (a1_0 : Int) (a1_1 : Int) (a2_0 : Int) (a2_1 : Int) : Option (Bool) := (cobweblaw03_GridOrders_1.f a0_0 a0_1 a1_0 a1_1).bind fun t1026 => (if t1026 = true then (cobweblaw03_GridOrders.j0 k (-1) a0_0 a0_1 a1_0 a1_1 a2_0 a2_1) else (cobweblaw03_GridOrders.j0 k 0 a0_0 a0_1 a1_0 a1_1 a2_0 a2_1))
theorem cobweblaw03_GridOrders.mono_l : ∀ k, (∀ y0 y1 y2 y3 y4 y5 y6, LeO (cobweblaw03_GridOrders.j0 k y0 y1 y2 y3 y4 y5 y6) (cobweblaw03_GridOrders.j0 (k + 1) y0 y1 y2 y3 y4 y5 y6)) ∧ (∀ y0 y1 y2 y3 y4 y5 y6, LeO (cobweblaw03_GridOrders.j1 k y0 y1 y2 y3 y4 y5 y6) (cobweblaw03_GridOrders.j1 (k + 1) y0 y1 y2 y3 y4 y5 y6))
 | 0 => ⟨fun _ _ _ _ _ _ _ r h => by simp [cobweblaw03_GridOrders.j0] at h, fun _ _ _ _ _ _ _ r h => by simp [cobweblaw03_GridOrders.j1] at h⟩
 | k + 1 => by
  obtain ⟨ih0, ih1⟩ := cobweblaw03_GridOrders.mono_l k; refine ⟨?_, ?_⟩
  ·intro y0 y1 y2 y3 y4 y5 y6
   unfold cobweblaw03_GridOrders.j0
   repeat' first
   | (with_reducible exact ih0 _ _ _ _ _ _ _)
   | (with_reducible exact ih1 _ _ _ _ _ _ _)
   | (with_reducible exact cobweblaw03_alive.mono _)
   | (with_reducible exact grid_Cmp.mono _ _ _ _ _)
   | (with_reducible exact LeO.refl _)
   | (with_reducible exact LeO.none _)
   | (with_reducible refine LeO.ite ?_ ?_)
   | (with_reducible refine LeO.bind ?_ (fun _ => ?_))
   | exact ih0 _ _ _ _ _ _ _
   | exact ih1 _ _ _ _ _ _ _
   | exact cobweblaw03_alive.mono _
   | exact grid_Cmp.mono _ _ _ _ _
   | exact LeO.none _
   | refine LeO.ite ?_ ?_
   | refine LeO.bind ?_ (fun _ => ?_)
  ·intro y0 y1 y2 y3 y4 y5 y6
   unfold cobweblaw03_GridOrders.j1
   repeat' first
   | (with_reducible exact ih0 _ _ _ _ _ _ _)
   | (with_reducible exact ih1 _ _ _ _ _ _ _)
   | (with_reducible exact cobweblaw03_alive.mono _)
   | (with_reducible exact grid_Cmp.mono _ _ _ _ _)
   | (with_reducible exact LeO.refl _)
   | (with_reducible exact LeO.none _)
   | (with_reducible refine LeO.ite ?_ ?_)
   | (with_reducible refine LeO.bind ?_ (fun _ => ?_))
   | exact ih0 _ _ _ _ _ _ _
   | exact ih1 _ _ _ _ _ _ _
   | exact cobweblaw03_alive.mono _
   | exact grid_Cmp.mono _ _ _ _ _
   | exact LeO.none _
   | refine LeO.ite ?_ ?_
   | refine LeO.bind ?_ (fun _ => ?_)
theorem cobweblaw03_GridOrders.mono : ∀ a0 a1 a2 a3 a4 a5 k, LeO (cobweblaw03_GridOrders.f k a0 a1 a2 a3 a4 a5) (cobweblaw03_GridOrders.f (k + 1) a0 a1 a2 a3 a4 a5) := by
 intro a0 a1 a2 a3 a4 a5 k; obtain ⟨ih0, ih1⟩ := cobweblaw03_GridOrders.mono_l k
 unfold cobweblaw03_GridOrders.f
 repeat' first
   | (with_reducible exact ih0 _ _ _ _ _ _ _)
   | (with_reducible exact ih1 _ _ _ _ _ _ _)
   | (with_reducible exact cobweblaw03_alive.mono _)
   | (with_reducible exact grid_Cmp.mono _ _ _ _ _)
   | (with_reducible exact LeO.refl _)
   | (with_reducible exact LeO.none _)
   | (with_reducible refine LeO.ite ?_ ?_)
   | (with_reducible refine LeO.bind ?_ (fun _ => ?_))
   | exact ih0 _ _ _ _ _ _ _
   | exact ih1 _ _ _ _ _ _ _
   | exact cobweblaw03_alive.mono _
   | exact grid_Cmp.mono _ _ _ _ _
   | exact LeO.none _
   | refine LeO.ite ?_ ?_
   | refine LeO.bind ?_ (fun _ => ?_)
def cobweblaw03_GridOrders.T7 : Bool × List (List Nat × List Nat) := (true, [([], []), ([], []), ([0, 1], [0, 1]), ([], []), ([], []), ([3, 4, 2], [3, 4]), ([], []), ([], []), ([6, 7, 5], [6, 7]), ([2, 8, 0, 1, 2], [2]), ([5, 9, 0, 1, 2, 3, 4, 5, 9], [5]), ([8, 10, 0, 1, 2, 3, 4, 5, 6, 7, 8, 9, 10], [8])])
def cobweblaw03_GridOrders.B7 : List Nat := [0, 0, 3, 0, 0, 31, 0, 0, 255, 511, 1023, 2047]
theorem cobweblaw03_GridOrders.tab7 : rtab .any (opsOf Try.f12 7) = cobweblaw03_GridOrders.T7 := by kernel_rfl
theorem cobweblaw03_GridOrders.bits7 : waitsOk cobweblaw03_GridOrders.T7.2 cobweblaw03_GridOrders.B7 = true := by kernel_rfl
set_option maxHeartbeats 8000000 in
set_option maxRecDepth 100000 in
theorem cobweblaw03_GridOrders.calls (k : Nat) (a0_0 : Int) (a0_1 : Int) (a1_0 : Int) (a1_1 : Int) (a2_0 : Int) (a2_1 : Int) (r : Bool) (w : World) (h : cobweblaw03_GridOrders.f k a0_0 a0_1 a1_0 a1_1 a2_0 a2_1 = some r) :
  Calls Try.prog 12 #[.agg #[.int .i64 a0_0, .int .i64 a0_1], .agg #[.int .i64 a1_0, .int .i64 a1_1], .agg #[.int .i64 a2_0, .int .i64 a2_1]] w fun e w' => e = .returned (.bool r) ∧ Below w.heap.size w w' := by
 have hu60 := Try.underlying60; have HB := Aside0.mk (Below.refl w.heap.size w); have H : ((cobweblaw03_GridOrders_1.f a0_0 a0_1 a1_0 a1_1).bind fun t1026 => (if t1026 = true then (cobweblaw03_GridOrders.j0 k (-1) a0_0 a0_1 a1_0 a1_1 a2_0 a2_1) else (cobweblaw03_GridOrders.j0 k 0 a0_0 a0_1 a1_0 a1_1 a2_0 a2_1))) = some r := h; clear h; replace H := Option.bind_eq_some_iff.mp H; obtain ⟨t1026, A40, H⟩ := H; replace H : (if t1026 = true then (cobweblaw03_GridOrders.j0 k (-1) a0_0 a0_1 a1_0 a1_1 a2_0 a2_1) else (cobweblaw03_GridOrders.j0 k 0 a0_0 a0_1 a1_0 a1_1 a2_0 a2_1)) = some r := H; have A4 := Aside0.mk A40; clear A40; have HC5 := Aside0.mk H; clear H
 go_enter Try.func12, Try.ntmps12
 go_upto_if 15 with (first | ((with_reducible refine gate_dst (N := 3) rfl ?_); refine box_event ?hg (N := 3) ?hd (cs := #[.int .i64 a0_0, .int .i64 a0_1]) (t := 60) ?hr ?_; (case hd => rfl); (case hg => rfl); (case hr => first | (go_simp; done) | (go_simp; rfl)); intro gb1023 hg w6 hbox hb; have BK1023 := Aside0.mk (hbox); have GW1023 := kS HB hg; have GE1023 := kS HB hg; replace HB := kB HB hb; clear hb hbox hg) | ((with_reducible refine gate_dst (N := 4) rfl ?_); refine box_event ?hg (N := 4) ?hd (cs := #[.int .i64 a1_0, .int .i64 a1_1]) (t := 60) ?hr ?_; (case hd => rfl); (case hg => rfl); (case hr => first | (go_simp; done) | (go_simp; rfl)); intro gb1024 hg w7 hbox hb; have BK1024 := Aside0.mk (hbox); have GW1024 := kS HB hg; have GE1024 := kS HB hg; have NB1023_1024 := kN BK1023 hg; have NB1024_1023 := kM BK1023 hg; replace BK1023 := kb BK1023 hb; replace HB := kB HB hb; clear hb hbox hg) | ((with_reducible refine gate_dst (N := 5) rfl ?_); refine box_event ?hg (N := 5) ?hd (cs := #[.int .i64 a2_0, .int .i64 a2_1]) (t := 60) ?hr ?_; (case hd => rfl); (case hg => rfl); (case hr => first | (go_simp; done) | (go_simp; rfl)); intro gb1025 hg w8 hbox hb; have BK1025 := Aside0.mk (hbox); have GW1025 := kS HB hg; have GE1025 := kS HB hg; have NB1023_1025 := kN BK1023 hg; have NB1025_1023 := kM BK1023 hg; have NB1024_1025 := kN BK1024 hg; have NB1025_1024 := kM BK1024 hg; replace BK1023 := kb BK1023 hb; replace BK1024 := kb BK1024 hb; replace HB := kB HB hb; clear hb hbox hg; have hnb9 := NB1023_1024.out; have hnc9 := NB1024_1023.out; have hnb10 := NB1023_1025.out; have hnc10 := NB1025_1023.out; have hcz11_0 : w8.cell? ⟨gb1023, 0, none⟩ = some (.int .i64 a0_0) := kc BK1023 0; have hcz11_1 : w8.cell? ⟨gb1023, 1, none⟩ = some (.int .i64 a0_1) := kc BK1023 1; have hfz11_0 := blk_frozen BK1023.out 0; have hfz11_1 := blk_frozen BK1023.out 1; have hnb12 := NB1024_1025.out; have hnc12 := NB1025_1024.out; have hcz13_0 : w8.cell? ⟨gb1024, 0, none⟩ = some (.int .i64 a1_0) := kc BK1024 0; have hcz13_1 : w8.cell? ⟨gb1024, 1, none⟩ = some (.int .i64 a1_1) := kc BK1024 1; have hfz13_0 := blk_frozen BK1024.out 0; have hfz13_1 := blk_frozen BK1024.out 1) | ((with_reducible refine gate_cv (f := 47) rfl rfl ?_); refine goesLv (some 15) rfl rfl (t := 12) rfl Try.func47 (by kernel_rfl) rfl #[.agg #[.int .i64 a0_0, .int .i64 a0_1], .agg #[.int .i64 a1_0, .int .i64 a1_1]] rfl (by (try simp only [zm, zc, zn]); first | done | rfl | (simp only [zd, zt]; rfl)) ?_; (with_reducible refine (cobweblaw03_GridOrders_1.calls a0_0 a0_1 a1_0 a1_1 t1026 _ A4.out).mono ?_); rintro e w14 ⟨rfl, hb⟩; refine ⟨_, rfl, ?_⟩; replace BK1023 := kb BK1023 hb; replace BK1024 := kb BK1024 hb; replace BK1025 := kb BK1025 hb; replace HB := kB HB hb; (try clear hb); (try clear hb2); (try clear hk); (try clear hi)))
 (try simp only [Act.put, s1, s2, s3])
 go_cut [8] (fun v8 wc => ∃ (kq : Nat) (x8_4 : Int), v8 = .int .i64 x8_4 ∧ Aside0 (cobweblaw03_GridOrders.j0 kq x8_4 a0_0 a0_1 a1_0 a1_1 a2_0 a2_1 = some r) ∧ Aside0 (kq ≤ k) ∧ Aside0 (wc.heap[gb1023]? = some (.cells #[.int .i64 a0_0, .int .i64 a0_1] 60 (0, 0))) ∧ Aside0 (wc.heap[gb1024]? = some (.cells #[.int .i64 a1_0, .int .i64 a1_1] 60 (0, 0))) ∧ Aside0 (wc.heap[gb1025]? = some (.cells #[.int .i64 a2_0, .int .i64 a2_1] 60 (0, 0))) ∧ Aside0 (Below w.heap.size w wc))
 case first =>
  have H := HC5.out; clear HC5
  by_cases c15 : t1026 = true
  ·subst c15
   have H1 : (cobweblaw03_GridOrders.j0 k (-1) a0_0 a0_1 a1_0 a1_1 a2_0 a2_1) = some r := by rw [if_pos rfl] at H; exact H
   clear H; have H := H1; clear H1; have H' := Aside0.mk H; clear H
   go_wp2
   go_meet
   case rel => exact ⟨_, ((-1)), (by first | rfl | (simp; done) | (simp [*]; done)), H', ⟨by first | omega | exact Nat.le_refl _⟩, ⟨kx BK1023⟩, ⟨kx BK1024⟩, ⟨kx BK1025⟩, ⟨ky HB⟩⟩
  replace c15 := Bool.eq_false_iff.mpr c15; subst c15
  have H1 : (cobweblaw03_GridOrders.j0 k 0 a0_0 a0_1 a1_0 a1_1 a2_0 a2_1) = some r := by rw [if_neg (show ¬ (false = true) by decide)] at H; exact H
  clear H; have H := H1; clear H1; have H' := Aside0.mk H; clear H
  go_wp2
  go_meet
  case rel => exact ⟨_, (0), (by first | rfl | (simp; done) | (simp [*]; done)), H', ⟨by first | omega | exact Nat.le_refl _⟩, ⟨kx BK1023⟩, ⟨kx BK1024⟩, ⟨kx BK1025⟩, ⟨ky HB⟩⟩
 case rest =>
  clear HC5; try clear c1; try clear p2; try clear c4; try clear c9; try clear c10; try clear c12; try clear c15; try clear hcz11_0; try clear hcz11_1; try clear hcz13_0; try clear hcz13_1; try clear hfz11_0; try clear hfz11_1; try clear hfz13_0; try clear hfz13_1
  obtain ⟨kq, x8_4, rfl, HA, HJ4, BK1023, BK1024, BK1025, HB⟩ := hcut
  cases kq with
  | zero => exact absurd HA.out (by simp [cobweblaw03_GridOrders.j0])
  | succ kj4 =>
   have H := HA.out; clear HA
   simp only [cobweblaw03_GridOrders.j0] at H
   replace H := Option.bind_eq_some_iff.mp H; obtain ⟨t1027, A160, H⟩ := H; replace H : (if t1027 = true then (cobweblaw03_GridOrders.j1 kj4 1 a0_0 a0_1 a1_0 a1_1 a2_0 a2_1) else (cobweblaw03_GridOrders.j1 kj4 x8_4 a0_0 a0_1 a1_0 a1_1 a2_0 a2_1)) = some r := H; have A16 := Aside0.mk A160; clear A160; have HC17 := Aside0.mk H; clear H; have hnb18 := NB1024_1023.out; have hnc18 := NB1023_1024.out; have hnb19 := NB1024_1025.out; have hnc19 := NB1025_1024.out; obtain ⟨hcz20_0, hcz20_1⟩ := kc2 BK1024; obtain ⟨hfz20_0, hfz20_1⟩ := kf2 BK1024; have hnb21 := NB1023_1025.out; have hnc21 := NB1025_1023.out; obtain ⟨hcz22_0, hcz22_1⟩ := kc2 BK1023; obtain ⟨hfz22_0, hfz22_1⟩ := kf2 BK1023
   go_upto_if 19 with (first | ((with_reducible refine gate_cv (f := 47) rfl rfl ?_); refine goesLv (some 19) rfl rfl (t := 16) rfl Try.func47 (by kernel_rfl) rfl #[.agg #[.int .i64 a1_0, .int .i64 a1_1], .agg #[.int .i64 a0_0, .int .i64 a0_1]] rfl (by (try simp only [zm, zc, zn]); first | done | rfl | (simp only [zd, zt]; rfl)) ?_; (with_reducible refine (cobweblaw03_GridOrders_1.calls a1_0 a1_1 a0_0 a0_1 t1027 _ A16.out).mono ?_); rintro e w23 ⟨rfl, hb⟩; refine ⟨_, rfl, ?_⟩; replace BK1023 := kb BK1023 hb; replace BK1024 := kb BK1024 hb; replace BK1025 := kb BK1025 hb; replace HB := kB HB hb; (try clear hb); (try clear hb2); (try clear hk); (try clear hi)))
   (try simp only [Act.put, s1, s2, s3])
   go_cut [8] (fun v8 wc => ∃ (kq : Nat) (x8_16 : Int), v8 = .int .i64 x8_16 ∧ Aside0 (cobweblaw03_GridOrders.j1 kq x8_16 a0_0 a0_1 a1_0 a1_1 a2_0 a2_1 = some r) ∧ Aside0 (kq ≤ kj4) ∧ Aside0 (wc.heap[gb1023]? = some (.cells #[.int .i64 a0_0, .int .i64 a0_1] 60 (0, 0))) ∧ Aside0 (wc.heap[gb1024]? = some (.cells #[.int .i64 a1_0, .int .i64 a1_1] 60 (0, 0))) ∧ Aside0 (wc.heap[gb1025]? = some (.cells #[.int .i64 a2_0, .int .i64 a2_1] 60 (0, 0))) ∧ Aside0 (Below w.heap.size w wc))
   case first =>
    have H := HC17.out; clear HC17
    by_cases c24 : t1027 = true
    ·subst c24
     have H1 : (cobweblaw03_GridOrders.j1 kj4 1 a0_0 a0_1 a1_0 a1_1 a2_0 a2_1) = some r := by rw [if_pos rfl] at H; exact H
     clear H; have H := H1; clear H1; have H' := Aside0.mk H; clear H
     go_wp2
     go_meet
     case rel => exact ⟨_, (1), (by first | rfl | (simp; done) | (simp [*]; done)), H', ⟨by have := HJ4.out; first | omega | exact Nat.le_refl _⟩, ⟨kx BK1023⟩, ⟨kx BK1024⟩, ⟨kx BK1025⟩, ⟨ky HB⟩⟩
    replace c24 := Bool.eq_false_iff.mpr c24; subst c24
    have H1 : (cobweblaw03_GridOrders.j1 kj4 x8_4 a0_0 a0_1 a1_0 a1_1 a2_0 a2_1) = some r := by rw [if_neg (show ¬ (false = true) by decide)] at H; exact H
    clear H; have H := H1; clear H1; have H' := Aside0.mk H; clear H
    go_wp2
    go_meet
    case rel => exact ⟨_, (x8_4), (by first | rfl | (simp; done) | (simp [*]; done)), H', ⟨by have := HJ4.out; first | omega | exact Nat.le_refl _⟩, ⟨kx BK1023⟩, ⟨kx BK1024⟩, ⟨kx BK1025⟩, ⟨ky HB⟩⟩
   case rest =>
    clear HC17; try clear c1; try clear c2; try clear p2; try clear c4; try clear c9; try clear c10; try clear c12; try clear c15; try clear c18; try clear c19; try clear c21; try clear c24; try clear hcz11_0; try clear hcz11_1; try clear hcz13_0; try clear hcz13_1; try clear hcz20_0; try clear hcz20_1; try clear hcz22_0; try clear hcz22_1; try clear hfz11_0; try clear hfz11_1; try clear hfz13_0; try clear hfz13_1; try clear hfz20_0; try clear hfz20_1; try clear hfz22_0; try clear hfz22_1; try clear p2
    obtain ⟨kq, x8_16, rfl, HA, HJ16, BK1023, BK1024, BK1025, HB⟩ := hcut
    cases kq with
    | zero => exact absurd HA.out (by simp [cobweblaw03_GridOrders.j1])
    | succ kj16 =>
     have H := HA.out; clear HA
     simp only [cobweblaw03_GridOrders.j1] at H
     replace H := Option.bind_eq_some_iff.mp H; obtain ⟨t1028, A250, H⟩ := H; replace H : ((grid_Cmp.f kj16 a1_0 a1_1 a2_0 a2_1).bind fun t1029 => ((grid_Cmp.f kj16 a0_0 a0_1 a2_0 a2_1).bind fun t1030 => ((cobweblaw03_alive.f kj16).bind fun t1031 => (if t1031 = true then (if t1028 = x8_16 then ((grid_Cmp.f kj16 a1_0 a1_1 a0_0 a0_1).bind fun t1032 => (if t1032 = (wrap64 (-x8_16)) then (if t1028 > 0 then (some true) else (if t1029 > 0 then (some true) else (some (decide (t1030 ≤ 0))))) else (none))) else (none)) else (none))))) = some r := H; have A25 := Aside0.mk A250; clear A250; replace H := Option.bind_eq_some_iff.mp H; obtain ⟨t1029, A260, H⟩ := H; replace H : ((grid_Cmp.f kj16 a0_0 a0_1 a2_0 a2_1).bind fun t1030 => ((cobweblaw03_alive.f kj16).bind fun t1031 => (if t1031 = true then (if t1028 = x8_16 then ((grid_Cmp.f kj16 a1_0 a1_1 a0_0 a0_1).bind fun t1032 => (if t1032 = (wrap64 (-x8_16)) then (if t1028 > 0 then (some true) else (if t1029 > 0 then (some true) else (some (decide (t1030 ≤ 0))))) else (none))) else (none)) else (none)))) = some r := H; have A26 := Aside0.mk A260; clear A260; replace H := Option.bind_eq_some_iff.mp H; obtain ⟨t1030, A270, H⟩ := H; replace H : ((cobweblaw03_alive.f kj16).bind fun t1031 => (if t1031 = true then (if t1028 = x8_16 then ((grid_Cmp.f kj16 a1_0 a1_1 a0_0 a0_1).bind fun t1032 => (if t1032 = (wrap64 (-x8_16)) then (if t1028 > 0 then (some true) else (if t1029 > 0 then (some true) else (some (decide (t1030 ≤ 0))))) else (none))) else (none)) else (none))) = some r := H; have A27 := Aside0.mk A270; clear A270; replace H := Option.bind_eq_some_iff.mp H; obtain ⟨t1031, A280, H⟩ := H; replace H : (if t1031 = true then (if t1028 = x8_16 then ((grid_Cmp.f kj16 a1_0 a1_1 a0_0 a0_1).bind fun t1032 => (if t1032 = (wrap64 (-x8_16)) then (if t1028 > 0 then (some true) else (if t1029 > 0 then (some true) else (some (decide (t1030 ≤ 0))))) else (none))) else (none)) else (none)) = some r := H; have A28 := Aside0.mk A280; clear A280
     by_cases c29 : t1031 = true
     rotate_left
     ·replace c29 := Bool.eq_false_iff.mpr c29; subst c29
      have H1 : (none) = some r := by rw [if_neg (show ¬ (false = true) by decide)] at H; exact H
      clear H; have H := H1; clear H1; exact absurd H (by simp)

     subst c29
     have H1 : (if t1028 = x8_16 then ((grid_Cmp.f kj16 a1_0 a1_1 a0_0 a0_1).bind fun t1032 => (if t1032 = (wrap64 (-x8_16)) then (if t1028 > 0 then (some true) else (if t1029 > 0 then (some true) else (some (decide (t1030 ≤ 0))))) else (none))) else (none)) = some r := by rw [if_pos rfl] at H; exact H
     clear H; have H := H1; clear H1
     by_cases c30 : t1028 = x8_16
     rotate_left
     ·rw [if_neg c30] at H
      exact absurd H (by simp)
     rw [if_pos c30] at H
     have c30b0 : (t1028 == x8_16) = true := beq_iff_eq.mpr c30; have c30b1 : (t1028 != x8_16) = false := bne_eq_false_iff_eq.mpr c30; clear c30; replace H := Option.bind_eq_some_iff.mp H; obtain ⟨t1032, A310, H⟩ := H; replace H : (if t1032 = (wrap64 (-x8_16)) then (if t1028 > 0 then (some true) else (if t1029 > 0 then (some true) else (some (decide (t1030 ≤ 0))))) else (none)) = some r := H; have A31 := Aside0.mk A310; clear A310
     by_cases c32 : t1032 = (wrap64 (-x8_16))
     rotate_left
     ·rw [if_neg c32] at H
      exact absurd H (by simp)
     rw [if_pos c32] at H
     have c32b0 : (t1032 == (wrap64 (-x8_16))) = true := beq_iff_eq.mpr c32; have c32b1 : (t1032 != (wrap64 (-x8_16))) = false := bne_eq_false_iff_eq.mpr c32; clear c32
     by_cases c33 : t1028 > 0
     ·rw [if_pos c33] at H
      have c33b0 : decide (0 < t1028) = true := decide_eq_true c33; clear c33; obtain rfl := Option.some.inj H
      try go_wp2
      replace BK1023 := Aside0.mk (blk_drew BK1023.out); replace BK1024 := Aside0.mk (blk_drew BK1024.out); replace BK1025 := Aside0.mk (blk_drew BK1025.out); replace HB := Aside0.mk (below_drew1 HB.out); refine start_ (n := 12) (S := fun w' => w'.cell? ⟨gb1023, 0, none⟩ = some (.int .i64 a0_0) ∧ w'.cell? ⟨gb1023, 1, none⟩ = some (.int .i64 a0_1) ∧ w'.cell? ⟨gb1024, 0, none⟩ = some (.int .i64 a1_0) ∧ w'.cell? ⟨gb1024, 1, none⟩ = some (.int .i64 a1_1) ∧ w'.cell? ⟨gb1025, 0, none⟩ = some (.int .i64 a2_0) ∧ w'.cell? ⟨gb1025, 1, none⟩ = some (.int .i64 a2_1)) (ds := []) #[O, O, O, O, O, O, O, O, O, O, O, O] (by kernel_rfl) rfl rfl ⟨kc BK1023 0, kc BK1023 1, kc BK1024 0, kc BK1024 1, kc BK1025 0, kc BK1025 1⟩ (fun hHeld => ?_); refine with_tabW cobweblaw03_GridOrders.tab7 cobweblaw03_GridOrders.bits7 (fun HT_ HW_ => ?_)
      generalize wc.drew = w34 at BK1023 BK1024 BK1025 HB hHeld ⊢
      refine take_ (i := 0) (N := some 20) (v := ?_) (a' := ?_) #[T, O, O, O, O, O, O, O, O, O, O, O] rfl rfl (take_ofW HT_.out HW_.out (by kernel_rfl)) (fun _ _ _ h => h) (Or.inl ⟨by rfl, ?_⟩) hHeld ?_ ?_; rotate_left; focus (rintro w' ⟨s0, s1, s2, s3, s4, s5⟩; go_simp; with_reducible rfl)
      rotate_left; focus (simp only [Act.put, s1, s2, s3, i64_w, i32_w]; rfl)
      refine take_ (i := 1) (N := some 21) (v := ?_) (a' := ?_) #[T, T, O, O, O, O, O, O, O, O, O, O] rfl rfl (take_ofW HT_.out HW_.out (by kernel_rfl)) (fun _ _ _ h => h) (Or.inl ⟨by rfl, ?_⟩) hHeld ?_ ?_; rotate_left; focus (rintro w' ⟨s0, s1, s2, s3, s4, s5⟩; go_simp; with_reducible rfl)
      rotate_left; focus (simp only [Act.put, s1, s2, s3, i64_w, i32_w]; rfl)
      refine take_ (i := 3) (N := some 23) (v := ?_) (a' := ?_) #[T, T, O, T, O, O, O, O, O, O, O, O] rfl rfl (take_ofW HT_.out HW_.out (by kernel_rfl)) (fun _ _ _ h => h) (Or.inl ⟨by rfl, ?_⟩) hHeld ?_ ?_; rotate_left; focus (rintro w' ⟨s0, s1, s2, s3, s4, s5⟩; go_simp; with_reducible rfl)
      rotate_left; focus (simp only [Act.put, s1, s2, s3, i64_w, i32_w]; rfl)
      refine take_ (i := 4) (N := some 24) (v := ?_) (a' := ?_) #[T, T, O, T, T, O, O, O, O, O, O, O] rfl rfl (take_ofW HT_.out HW_.out (by kernel_rfl)) (fun _ _ _ h => h) (Or.inl ⟨by rfl, ?_⟩) hHeld ?_ ?_; rotate_left; focus (rintro w' ⟨s0, s1, s2, s3, s4, s5⟩; go_simp; with_reducible rfl)
      rotate_left; focus (simp only [Act.put, s1, s2, s3, i64_w, i32_w]; rfl)
      refine take_ (i := 6) (N := some 26) (v := ?_) (a' := ?_) #[T, T, O, T, T, O, T, O, O, O, O, O] rfl rfl (take_ofW HT_.out HW_.out (by kernel_rfl)) (fun _ _ _ h => h) (Or.inl ⟨by rfl, ?_⟩) hHeld ?_ ?_; rotate_left; focus (rintro w' ⟨s0, s1, s2, s3, s4, s5⟩; go_simp; with_reducible rfl)
      rotate_left; focus (simp only [Act.put, s1, s2, s3, i64_w, i32_w]; rfl)
      refine take_ (i := 7) (N := some 27) (v := ?_) (a' := ?_) #[T, T, O, T, T, O, T, T, O, O, O, O] rfl rfl (take_ofW HT_.out HW_.out (by kernel_rfl)) (fun _ _ _ h => h) (Or.inl ⟨by rfl, ?_⟩) hHeld ?_ ?_; rotate_left; focus (rintro w' ⟨s0, s1, s2, s3, s4, s5⟩; go_simp; with_reducible rfl)
      rotate_left; focus (simp only [Act.put, s1, s2, s3, i64_w, i32_w]; rfl)
      refine one_ (i := 2) (N := some 22) #[T, T, T, T, T, O, T, T, O, O, O, O] rfl rfl (one_of HT_.out (by kernel_rfl)) (by decide) (fun K hK => ?_); refine goes_ Try.func48 (by kernel_rfl) rfl #[.agg #[.int .i64 a0_0, .int .i64 a0_1], .agg #[.int .i64 a1_0, .int .i64 a1_1]] (by rfl) rfl rfl (by (try simp only [zm, zc, zn]); first | done | rfl | (simp only [zd, zt]; rfl)) ?_
      with_reducible refine (grid_Cmp.calls kj16 a0_0 a0_1 a1_0 a1_1 t1028 _ A25.out).mono ?_
      rintro e w35 ⟨rfl, hb⟩; refine ⟨_, rfl, ?_⟩; replace BK1023 := kb BK1023 hb; replace BK1024 := kb BK1024 hb; replace BK1025 := kb BK1025 hb; replace HB := kB HB hb
      (try clear hb); (try clear hb2); (try clear hk); (try clear hi)
      refine hK.out _ _ ⟨kc BK1023 0, kc BK1023 1, kc BK1024 0, kc BK1024 1, kc BK1025 0, kc BK1025 1⟩ (fun hHeld => ?_); clear hK K
      refine norm_ (a' := ?_) ?_ ?_; rotate_left; focus (show Act.put _ (some 22) _ = _; simp only [Act.put, s1, s2, s3, i64_w, i32_w]; rfl)
      refine one_ (i := 5) (N := some 25) #[T, T, T, T, T, T, T, T, O, O, O, O] rfl rfl (one_of HT_.out (by kernel_rfl)) (by decide) (fun K hK => ?_); refine goes_ Try.func48 (by kernel_rfl) rfl #[.agg #[.int .i64 a1_0, .int .i64 a1_1], .agg #[.int .i64 a2_0, .int .i64 a2_1]] (by rfl) rfl rfl (by (try simp only [zm, zc, zn]); first | done | rfl | (simp only [zd, zt]; rfl)) ?_
      with_reducible refine (grid_Cmp.calls kj16 a1_0 a1_1 a2_0 a2_1 t1029 _ A26.out).mono ?_
      rintro e w36 ⟨rfl, hb⟩; refine ⟨_, rfl, ?_⟩; replace BK1023 := kb BK1023 hb; replace BK1024 := kb BK1024 hb; replace BK1025 := kb BK1025 hb; replace HB := kB HB hb
      (try clear hb); (try clear hb2); (try clear hk); (try clear hi)
      refine hK.out _ _ ⟨kc BK1023 0, kc BK1023 1, kc BK1024 0, kc BK1024 1, kc BK1025 0, kc BK1025 1⟩ (fun hHeld => ?_); clear hK K
      refine norm_ (a' := ?_) ?_ ?_; rotate_left; focus (show Act.put _ (some 25) _ = _; simp only [Act.put, s1, s2, s3, i64_w, i32_w]; rfl)
      refine one_ (i := 8) (N := some 28) #[T, T, T, T, T, T, T, T, T, O, O, O] rfl rfl (one_of HT_.out (by kernel_rfl)) (by decide) (fun K hK => ?_); refine goes_ Try.func48 (by kernel_rfl) rfl #[.agg #[.int .i64 a0_0, .int .i64 a0_1], .agg #[.int .i64 a2_0, .int .i64 a2_1]] (by rfl) rfl rfl (by (try simp only [zm, zc, zn]); first | done | rfl | (simp only [zd, zt]; rfl)) ?_
      with_reducible refine (grid_Cmp.calls kj16 a0_0 a0_1 a2_0 a2_1 t1030 _ A27.out).mono ?_
      rintro e w37 ⟨rfl, hb⟩; refine ⟨_, rfl, ?_⟩; replace BK1023 := kb BK1023 hb; replace BK1024 := kb BK1024 hb; replace BK1025 := kb BK1025 hb; replace HB := kB HB hb
      (try clear hb); (try clear hb2); (try clear hk); (try clear hi)
      refine hK.out _ _ ⟨kc BK1023 0, kc BK1023 1, kc BK1024 0, kc BK1024 1, kc BK1025 0, kc BK1025 1⟩ (fun hHeld => ?_); clear hK K
      refine norm_ (a' := ?_) ?_ ?_; rotate_left; focus (show Act.put _ (some 28) _ = _; simp only [Act.put, s1, s2, s3, i64_w, i32_w]; rfl)
      refine pure_ (i := 9) (N := some 9) (v := ?_) (a' := ?_) #[T, T, T, T, T, T, T, T, T, T, O, O] rfl rfl (any_of HT_.out (by kernel_rfl)) (fun _ _ _ h => h) (Or.inl ⟨by rfl, ?_⟩) ?_ ?_; rotate_left; focus (intro w'; go_simp; with_reducible rfl)
      rotate_left; focus (simp only [Act.put, s1, s2, s3, i64_w, i32_w]; rfl)
      refine pure_ (i := 10) (N := some 10) (v := ?_) (a' := ?_) #[T, T, T, T, T, T, T, T, T, T, T, O] rfl rfl (any_of HT_.out (by kernel_rfl)) (fun _ _ _ h => h) (Or.inl ⟨by rfl, ?_⟩) ?_ ?_; rotate_left; focus (intro w'; go_simp; with_reducible rfl)
      rotate_left; focus (simp only [Act.put, s1, s2, s3, i64_w, i32_w]; rfl)
      refine pure_ (i := 11) (N := some 11) (v := ?_) (a' := ?_) #[T, T, T, T, T, T, T, T, T, T, T, T] rfl rfl (any_of HT_.out (by kernel_rfl)) (fun _ _ _ h => h) (Or.inl ⟨by rfl, ?_⟩) ?_ ?_; rotate_left; focus (intro w'; go_simp; with_reducible rfl)
      rotate_left; focus (simp only [Act.put, s1, s2, s3, i64_w, i32_w]; rfl)
      refine done_ (done_of HT_.out (by kernel_rfl)) ?_
      try go_wp2_with (first | ((with_reducible refine gate_callee (f := 38) rfl ?_); refine goesL_ (some 29) rfl rfl Try.func38 (by kernel_rfl) rfl #[] rfl (by (try simp only [zm, zc, zn]); first | done | rfl | (simp only [zd, zt]; rfl)) ?_; (with_reducible refine (cobweblaw03_alive.calls kj16  true _ A28.out).mono ?_); rintro e w38 ⟨rfl, hb⟩; refine ⟨_, rfl, ?_⟩; replace BK1023 := kb BK1023 hb; replace BK1024 := kb BK1024 hb; replace BK1025 := kb BK1025 hb; replace HB := kB HB hb; (try clear hb); (try clear hb2); (try clear hk); (try clear hi); have hnb39 := NB1024_1023.out; have hnc39 := NB1023_1024.out; have hnb40 := NB1024_1025.out; have hnc40 := NB1025_1024.out; have hcz41_0 : w38.cell? ⟨gb1024, 0, none⟩ = some (.int .i64 a1_0) := kc BK1024 0; have hcz41_1 : w38.cell? ⟨gb1024, 1, none⟩ = some (.int .i64 a1_1) := kc BK1024 1; have hfz41_0 := blk_frozen BK1024.out 0; have hfz41_1 := blk_frozen BK1024.out 1; have hnb42 := NB1023_1025.out; have hnc42 := NB1025_1023.out; have hcz43_0 : w38.cell? ⟨gb1023, 0, none⟩ = some (.int .i64 a0_0) := kc BK1023 0; have hcz43_1 : w38.cell? ⟨gb1023, 1, none⟩ = some (.int .i64 a0_1) := kc BK1023 1; have hfz43_0 := blk_frozen BK1023.out 0; have hfz43_1 := blk_frozen BK1023.out 1) | (go_at_call 48; (with_reducible refine (grid_Cmp.calls kj16 a1_0 a1_1 a0_0 a0_1 t1032 _ A31.out).mono ?_); rintro e w44 ⟨rfl, hb⟩; replace BK1023 := kb BK1023 hb; replace BK1024 := kb BK1024 hb; replace BK1025 := kb BK1025 hb; replace HB := kB HB hb; (try clear hb); (try clear hb2); (try clear hk); (try clear hi)))
      go_ret
      exact ⟨by first | rfl | (simp [errW_none, errW_some] <;> rfl) | (simp [*, errW_none, errW_some] <;> rfl), ky HB⟩
     rw [if_neg c33] at H
     have c33b0 : decide (0 < t1028) = false := decide_eq_false c33; clear c33
     by_cases c45 : t1029 > 0
     ·rw [if_pos c45] at H
      have c45b0 : decide (0 < t1029) = true := decide_eq_true c45; clear c45; obtain rfl := Option.some.inj H
      try go_wp2
      replace BK1023 := Aside0.mk (blk_drew BK1023.out); replace BK1024 := Aside0.mk (blk_drew BK1024.out); replace BK1025 := Aside0.mk (blk_drew BK1025.out); replace HB := Aside0.mk (below_drew1 HB.out); refine start_ (n := 12) (S := fun w' => w'.cell? ⟨gb1023, 0, none⟩ = some (.int .i64 a0_0) ∧ w'.cell? ⟨gb1023, 1, none⟩ = some (.int .i64 a0_1) ∧ w'.cell? ⟨gb1024, 0, none⟩ = some (.int .i64 a1_0) ∧ w'.cell? ⟨gb1024, 1, none⟩ = some (.int .i64 a1_1) ∧ w'.cell? ⟨gb1025, 0, none⟩ = some (.int .i64 a2_0) ∧ w'.cell? ⟨gb1025, 1, none⟩ = some (.int .i64 a2_1)) (ds := []) #[O, O, O, O, O, O, O, O, O, O, O, O] (by kernel_rfl) rfl rfl ⟨kc BK1023 0, kc BK1023 1, kc BK1024 0, kc BK1024 1, kc BK1025 0, kc BK1025 1⟩ (fun hHeld => ?_); refine with_tabW cobweblaw03_GridOrders.tab7 cobweblaw03_GridOrders.bits7 (fun HT_ HW_ => ?_)
      generalize wc.drew = w46 at BK1023 BK1024 BK1025 HB hHeld ⊢
      refine take_ (i := 0) (N := some 20) (v := ?_) (a' := ?_) #[T, O, O, O, O, O, O, O, O, O, O, O] rfl rfl (take_ofW HT_.out HW_.out (by kernel_rfl)) (fun _ _ _ h => h) (Or.inl ⟨by rfl, ?_⟩) hHeld ?_ ?_; rotate_left; focus (rintro w' ⟨s0, s1, s2, s3, s4, s5⟩; go_simp; with_reducible rfl)
      rotate_left; focus (simp only [Act.put, s1, s2, s3, i64_w, i32_w]; rfl)
      refine take_ (i := 1) (N := some 21) (v := ?_) (a' := ?_) #[T, T, O, O, O, O, O, O, O, O, O, O] rfl rfl (take_ofW HT_.out HW_.out (by kernel_rfl)) (fun _ _ _ h => h) (Or.inl ⟨by rfl, ?_⟩) hHeld ?_ ?_; rotate_left; focus (rintro w' ⟨s0, s1, s2, s3, s4, s5⟩; go_simp; with_reducible rfl)
      rotate_left; focus (simp only [Act.put, s1, s2, s3, i64_w, i32_w]; rfl)
      refine take_ (i := 3) (N := some 23) (v := ?_) (a' := ?_) #[T, T, O, T, O, O, O, O, O, O, O, O] rfl rfl (take_ofW HT_.out HW_.out (by kernel_rfl)) (fun _ _ _ h => h) (Or.inl ⟨by rfl, ?_⟩) hHeld ?_ ?_; rotate_left; focus (rintro w' ⟨s0, s1, s2, s3, s4, s5⟩; go_simp; with_reducible rfl)
      rotate_left; focus (simp only [Act.put, s1, s2, s3, i64_w, i32_w]; rfl)
      refine take_ (i := 4) (N := some 24) (v := ?_) (a' := ?_) #[T, T, O, T, T, O, O, O, O, O, O, O] rfl rfl (take_ofW HT_.out HW_.out (by kernel_rfl)) (fun _ _ _ h => h) (Or.inl ⟨by rfl, ?_⟩) hHeld ?_ ?_; rotate_left; focus (rintro w' ⟨s0, s1, s2, s3, s4, s5⟩; go_simp; with_reducible rfl)
      rotate_left; focus (simp only [Act.put, s1, s2, s3, i64_w, i32_w]; rfl)
      refine take_ (i := 6) (N := some 26) (v := ?_) (a' := ?_) #[T, T, O, T, T, O, T, O, O, O, O, O] rfl rfl (take_ofW HT_.out HW_.out (by kernel_rfl)) (fun _ _ _ h => h) (Or.inl ⟨by rfl, ?_⟩) hHeld ?_ ?_; rotate_left; focus (rintro w' ⟨s0, s1, s2, s3, s4, s5⟩; go_simp; with_reducible rfl)
      rotate_left; focus (simp only [Act.put, s1, s2, s3, i64_w, i32_w]; rfl)
      refine take_ (i := 7) (N := some 27) (v := ?_) (a' := ?_) #[T, T, O, T, T, O, T, T, O, O, O, O] rfl rfl (take_ofW HT_.out HW_.out (by kernel_rfl)) (fun _ _ _ h => h) (Or.inl ⟨by rfl, ?_⟩) hHeld ?_ ?_; rotate_left; focus (rintro w' ⟨s0, s1, s2, s3, s4, s5⟩; go_simp; with_reducible rfl)
      rotate_left; focus (simp only [Act.put, s1, s2, s3, i64_w, i32_w]; rfl)
      refine one_ (i := 2) (N := some 22) #[T, T, T, T, T, O, T, T, O, O, O, O] rfl rfl (one_of HT_.out (by kernel_rfl)) (by decide) (fun K hK => ?_); refine goes_ Try.func48 (by kernel_rfl) rfl #[.agg #[.int .i64 a0_0, .int .i64 a0_1], .agg #[.int .i64 a1_0, .int .i64 a1_1]] (by rfl) rfl rfl (by (try simp only [zm, zc, zn]); first | done | rfl | (simp only [zd, zt]; rfl)) ?_
      with_reducible refine (grid_Cmp.calls kj16 a0_0 a0_1 a1_0 a1_1 t1028 _ A25.out).mono ?_
      rintro e w47 ⟨rfl, hb⟩; refine ⟨_, rfl, ?_⟩; replace BK1023 := kb BK1023 hb; replace BK1024 := kb BK1024 hb; replace BK1025 := kb BK1025 hb; replace HB := kB HB hb
      (try clear hb); (try clear hb2); (try clear hk); (try clear hi)
      refine hK.out _ _ ⟨kc BK1023 0, kc BK1023 1, kc BK1024 0, kc BK1024 1, kc BK1025 0, kc BK1025 1⟩ (fun hHeld => ?_); clear hK K
      refine norm_ (a' := ?_) ?_ ?_; rotate_left; focus (show Act.put _ (some 22) _ = _; simp only [Act.put, s1, s2, s3, i64_w, i32_w]; rfl)
      refine one_ (i := 5) (N := some 25) #[T, T, T, T, T, T, T, T, O, O, O, O] rfl rfl (one_of HT_.out (by kernel_rfl)) (by decide) (fun K hK => ?_); refine goes_ Try.func48 (by kernel_rfl) rfl #[.agg #[.int .i64 a1_0, .int .i64 a1_1], .agg #[.int .i64 a2_0, .int .i64 a2_1]] (by rfl) rfl rfl (by (try simp only [zm, zc, zn]); first | done | rfl | (simp only [zd, zt]; rfl)) ?_
      with_reducible refine (grid_Cmp.calls kj16 a1_0 a1_1 a2_0 a2_1 t1029 _ A26.out).mono ?_
      rintro e w48 ⟨rfl, hb⟩; refine ⟨_, rfl, ?_⟩; replace BK1023 := kb BK1023 hb; replace BK1024 := kb BK1024 hb; replace BK1025 := kb BK1025 hb; replace HB := kB HB hb
      (try clear hb); (try clear hb2); (try clear hk); (try clear hi)
      refine hK.out _ _ ⟨kc BK1023 0, kc BK1023 1, kc BK1024 0, kc BK1024 1, kc BK1025 0, kc BK1025 1⟩ (fun hHeld => ?_); clear hK K
      refine norm_ (a' := ?_) ?_ ?_; rotate_left; focus (show Act.put _ (some 25) _ = _; simp only [Act.put, s1, s2, s3, i64_w, i32_w]; rfl)
      refine one_ (i := 8) (N := some 28) #[T, T, T, T, T, T, T, T, T, O, O, O] rfl rfl (one_of HT_.out (by kernel_rfl)) (by decide) (fun K hK => ?_); refine goes_ Try.func48 (by kernel_rfl) rfl #[.agg #[.int .i64 a0_0, .int .i64 a0_1], .agg #[.int .i64 a2_0, .int .i64 a2_1]] (by rfl) rfl rfl (by (try simp only [zm, zc, zn]); first | done | rfl | (simp only [zd, zt]; rfl)) ?_
      with_reducible refine (grid_Cmp.calls kj16 a0_0 a0_1 a2_0 a2_1 t1030 _ A27.out).mono ?_
      rintro e w49 ⟨rfl, hb⟩; refine ⟨_, rfl, ?_⟩; replace BK1023 := kb BK1023 hb; replace BK1024 := kb BK1024 hb; replace BK1025 := kb BK1025 hb; replace HB := kB HB hb
      (try clear hb); (try clear hb2); (try clear hk); (try clear hi)
      refine hK.out _ _ ⟨kc BK1023 0, kc BK1023 1, kc BK1024 0, kc BK1024 1, kc BK1025 0, kc BK1025 1⟩ (fun hHeld => ?_); clear hK K
      refine norm_ (a' := ?_) ?_ ?_; rotate_left; focus (show Act.put _ (some 28) _ = _; simp only [Act.put, s1, s2, s3, i64_w, i32_w]; rfl)
      refine pure_ (i := 9) (N := some 9) (v := ?_) (a' := ?_) #[T, T, T, T, T, T, T, T, T, T, O, O] rfl rfl (any_of HT_.out (by kernel_rfl)) (fun _ _ _ h => h) (Or.inl ⟨by rfl, ?_⟩) ?_ ?_; rotate_left; focus (intro w'; go_simp; with_reducible rfl)
      rotate_left; focus (simp only [Act.put, s1, s2, s3, i64_w, i32_w]; rfl)
      refine pure_ (i := 10) (N := some 10) (v := ?_) (a' := ?_) #[T, T, T, T, T, T, T, T, T, T, T, O] rfl rfl (any_of HT_.out (by kernel_rfl)) (fun _ _ _ h => h) (Or.inl ⟨by rfl, ?_⟩) ?_ ?_; rotate_left; focus (intro w'; go_simp; with_reducible rfl)
      rotate_left; focus (simp only [Act.put, s1, s2, s3, i64_w, i32_w]; rfl)
      refine pure_ (i := 11) (N := some 11) (v := ?_) (a' := ?_) #[T, T, T, T, T, T, T, T, T, T, T, T] rfl rfl (any_of HT_.out (by kernel_rfl)) (fun _ _ _ h => h) (Or.inl ⟨by rfl, ?_⟩) ?_ ?_; rotate_left; focus (intro w'; go_simp; with_reducible rfl)
      rotate_left; focus (simp only [Act.put, s1, s2, s3, i64_w, i32_w]; rfl)
      refine done_ (done_of HT_.out (by kernel_rfl)) ?_
      try go_wp2_with (first | ((with_reducible refine gate_callee (f := 38) rfl ?_); refine goesL_ (some 29) rfl rfl Try.func38 (by kernel_rfl) rfl #[] rfl (by (try simp only [zm, zc, zn]); first | done | rfl | (simp only [zd, zt]; rfl)) ?_; (with_reducible refine (cobweblaw03_alive.calls kj16  true _ A28.out).mono ?_); rintro e w50 ⟨rfl, hb⟩; refine ⟨_, rfl, ?_⟩; replace BK1023 := kb BK1023 hb; replace BK1024 := kb BK1024 hb; replace BK1025 := kb BK1025 hb; replace HB := kB HB hb; (try clear hb); (try clear hb2); (try clear hk); (try clear hi); have hnb51 := NB1024_1023.out; have hnc51 := NB1023_1024.out; have hnb52 := NB1024_1025.out; have hnc52 := NB1025_1024.out; have hcz53_0 : w50.cell? ⟨gb1024, 0, none⟩ = some (.int .i64 a1_0) := kc BK1024 0; have hcz53_1 : w50.cell? ⟨gb1024, 1, none⟩ = some (.int .i64 a1_1) := kc BK1024 1; have hfz53_0 := blk_frozen BK1024.out 0; have hfz53_1 := blk_frozen BK1024.out 1; have hnb54 := NB1023_1025.out; have hnc54 := NB1025_1023.out; have hcz55_0 : w50.cell? ⟨gb1023, 0, none⟩ = some (.int .i64 a0_0) := kc BK1023 0; have hcz55_1 : w50.cell? ⟨gb1023, 1, none⟩ = some (.int .i64 a0_1) := kc BK1023 1; have hfz55_0 := blk_frozen BK1023.out 0; have hfz55_1 := blk_frozen BK1023.out 1) | (go_at_call 48; (with_reducible refine (grid_Cmp.calls kj16 a1_0 a1_1 a0_0 a0_1 t1032 _ A31.out).mono ?_); rintro e w56 ⟨rfl, hb⟩; replace BK1023 := kb BK1023 hb; replace BK1024 := kb BK1024 hb; replace BK1025 := kb BK1025 hb; replace HB := kB HB hb; (try clear hb); (try clear hb2); (try clear hk); (try clear hi)))
      go_ret
      exact ⟨by first | rfl | (simp [errW_none, errW_some] <;> rfl) | (simp [*, errW_none, errW_some] <;> rfl), ky HB⟩
     rw [if_neg c45] at H
     have c45b0 : decide (0 < t1029) = false := decide_eq_false c45; clear c45; obtain rfl := Option.some.inj H
     try go_wp2
     replace BK1023 := Aside0.mk (blk_drew BK1023.out); replace BK1024 := Aside0.mk (blk_drew BK1024.out); replace BK1025 := Aside0.mk (blk_drew BK1025.out); replace HB := Aside0.mk (below_drew1 HB.out); refine start_ (n := 12) (S := fun w' => w'.cell? ⟨gb1023, 0, none⟩ = some (.int .i64 a0_0) ∧ w'.cell? ⟨gb1023, 1, none⟩ = some (.int .i64 a0_1) ∧ w'.cell? ⟨gb1024, 0, none⟩ = some (.int .i64 a1_0) ∧ w'.cell? ⟨gb1024, 1, none⟩ = some (.int .i64 a1_1) ∧ w'.cell? ⟨gb1025, 0, none⟩ = some (.int .i64 a2_0) ∧ w'.cell? ⟨gb1025, 1, none⟩ = some (.int .i64 a2_1)) (ds := []) #[O, O, O, O, O, O, O, O, O, O, O, O] (by kernel_rfl) rfl rfl ⟨kc BK1023 0, kc BK1023 1, kc BK1024 0, kc BK1024 1, kc BK1025 0, kc BK1025 1⟩ (fun hHeld => ?_); refine with_tabW cobweblaw03_GridOrders.tab7 cobweblaw03_GridOrders.bits7 (fun HT_ HW_ => ?_)
     generalize wc.drew = w57 at BK1023 BK1024 BK1025 HB hHeld ⊢
     refine take_ (i := 0) (N := some 20) (v := ?_) (a' := ?_) #[T, O, O, O, O, O, O, O, O, O, O, O] rfl rfl (take_ofW HT_.out HW_.out (by kernel_rfl)) (fun _ _ _ h => h) (Or.inl ⟨by rfl, ?_⟩) hHeld ?_ ?_; rotate_left; focus (rintro w' ⟨s0, s1, s2, s3, s4, s5⟩; go_simp; with_reducible rfl)
     rotate_left; focus (simp only [Act.put, s1, s2, s3, i64_w, i32_w]; rfl)
     refine take_ (i := 1) (N := some 21) (v := ?_) (a' := ?_) #[T, T, O, O, O, O, O, O, O, O, O, O] rfl rfl (take_ofW HT_.out HW_.out (by kernel_rfl)) (fun _ _ _ h => h) (Or.inl ⟨by rfl, ?_⟩) hHeld ?_ ?_; rotate_left; focus (rintro w' ⟨s0, s1, s2, s3, s4, s5⟩; go_simp; with_reducible rfl)
     rotate_left; focus (simp only [Act.put, s1, s2, s3, i64_w, i32_w]; rfl)
     refine take_ (i := 3) (N := some 23) (v := ?_) (a' := ?_) #[T, T, O, T, O, O, O, O, O, O, O, O] rfl rfl (take_ofW HT_.out HW_.out (by kernel_rfl)) (fun _ _ _ h => h) (Or.inl ⟨by rfl, ?_⟩) hHeld ?_ ?_; rotate_left; focus (rintro w' ⟨s0, s1, s2, s3, s4, s5⟩; go_simp; with_reducible rfl)
     rotate_left; focus (simp only [Act.put, s1, s2, s3, i64_w, i32_w]; rfl)
     refine take_ (i := 4) (N := some 24) (v := ?_) (a' := ?_) #[T, T, O, T, T, O, O, O, O, O, O, O] rfl rfl (take_ofW HT_.out HW_.out (by kernel_rfl)) (fun _ _ _ h => h) (Or.inl ⟨by rfl, ?_⟩) hHeld ?_ ?_; rotate_left; focus (rintro w' ⟨s0, s1, s2, s3, s4, s5⟩; go_simp; with_reducible rfl)
     rotate_left; focus (simp only [Act.put, s1, s2, s3, i64_w, i32_w]; rfl)
     refine take_ (i := 6) (N := some 26) (v := ?_) (a' := ?_) #[T, T, O, T, T, O, T, O, O, O, O, O] rfl rfl (take_ofW HT_.out HW_.out (by kernel_rfl)) (fun _ _ _ h => h) (Or.inl ⟨by rfl, ?_⟩) hHeld ?_ ?_; rotate_left; focus (rintro w' ⟨s0, s1, s2, s3, s4, s5⟩; go_simp; with_reducible rfl)
     rotate_left; focus (simp only [Act.put, s1, s2, s3, i64_w, i32_w]; rfl)
     refine take_ (i := 7) (N := some 27) (v := ?_) (a' := ?_) #[T, T, O, T, T, O, T, T, O, O, O, O] rfl rfl (take_ofW HT_.out HW_.out (by kernel_rfl)) (fun _ _ _ h => h) (Or.inl ⟨by rfl, ?_⟩) hHeld ?_ ?_; rotate_left; focus (rintro w' ⟨s0, s1, s2, s3, s4, s5⟩; go_simp; with_reducible rfl)
     rotate_left; focus (simp only [Act.put, s1, s2, s3, i64_w, i32_w]; rfl)
     refine one_ (i := 2) (N := some 22) #[T, T, T, T, T, O, T, T, O, O, O, O] rfl rfl (one_of HT_.out (by kernel_rfl)) (by decide) (fun K hK => ?_); refine goes_ Try.func48 (by kernel_rfl) rfl #[.agg #[.int .i64 a0_0, .int .i64 a0_1], .agg #[.int .i64 a1_0, .int .i64 a1_1]] (by rfl) rfl rfl (by (try simp only [zm, zc, zn]); first | done | rfl | (simp only [zd, zt]; rfl)) ?_
     with_reducible refine (grid_Cmp.calls kj16 a0_0 a0_1 a1_0 a1_1 t1028 _ A25.out).mono ?_
     rintro e w58 ⟨rfl, hb⟩; refine ⟨_, rfl, ?_⟩; replace BK1023 := kb BK1023 hb; replace BK1024 := kb BK1024 hb; replace BK1025 := kb BK1025 hb; replace HB := kB HB hb
     (try clear hb); (try clear hb2); (try clear hk); (try clear hi)
     refine hK.out _ _ ⟨kc BK1023 0, kc BK1023 1, kc BK1024 0, kc BK1024 1, kc BK1025 0, kc BK1025 1⟩ (fun hHeld => ?_); clear hK K
     refine norm_ (a' := ?_) ?_ ?_; rotate_left; focus (show Act.put _ (some 22) _ = _; simp only [Act.put, s1, s2, s3, i64_w, i32_w]; rfl)
     refine one_ (i := 5) (N := some 25) #[T, T, T, T, T, T, T, T, O, O, O, O] rfl rfl (one_of HT_.out (by kernel_rfl)) (by decide) (fun K hK => ?_); refine goes_ Try.func48 (by kernel_rfl) rfl #[.agg #[.int .i64 a1_0, .int .i64 a1_1], .agg #[.int .i64 a2_0, .int .i64 a2_1]] (by rfl) rfl rfl (by (try simp only [zm, zc, zn]); first | done | rfl | (simp only [zd, zt]; rfl)) ?_
     with_reducible refine (grid_Cmp.calls kj16 a1_0 a1_1 a2_0 a2_1 t1029 _ A26.out).mono ?_
     rintro e w59 ⟨rfl, hb⟩; refine ⟨_, rfl, ?_⟩; replace BK1023 := kb BK1023 hb; replace BK1024 := kb BK1024 hb; replace BK1025 := kb BK1025 hb; replace HB := kB HB hb
     (try clear hb); (try clear hb2); (try clear hk); (try clear hi)
     refine hK.out _ _ ⟨kc BK1023 0, kc BK1023 1, kc BK1024 0, kc BK1024 1, kc BK1025 0, kc BK1025 1⟩ (fun hHeld => ?_); clear hK K
     refine norm_ (a' := ?_) ?_ ?_; rotate_left; focus (show Act.put _ (some 25) _ = _; simp only [Act.put, s1, s2, s3, i64_w, i32_w]; rfl)
     refine one_ (i := 8) (N := some 28) #[T, T, T, T, T, T, T, T, T, O, O, O] rfl rfl (one_of HT_.out (by kernel_rfl)) (by decide) (fun K hK => ?_); refine goes_ Try.func48 (by kernel_rfl) rfl #[.agg #[.int .i64 a0_0, .int .i64 a0_1], .agg #[.int .i64 a2_0, .int .i64 a2_1]] (by rfl) rfl rfl (by (try simp only [zm, zc, zn]); first | done | rfl | (simp only [zd, zt]; rfl)) ?_
     with_reducible refine (grid_Cmp.calls kj16 a0_0 a0_1 a2_0 a2_1 t1030 _ A27.out).mono ?_
     rintro e w60 ⟨rfl, hb⟩; refine ⟨_, rfl, ?_⟩; replace BK1023 := kb BK1023 hb; replace BK1024 := kb BK1024 hb; replace BK1025 := kb BK1025 hb; replace HB := kB HB hb
     (try clear hb); (try clear hb2); (try clear hk); (try clear hi)
     refine hK.out _ _ ⟨kc BK1023 0, kc BK1023 1, kc BK1024 0, kc BK1024 1, kc BK1025 0, kc BK1025 1⟩ (fun hHeld => ?_); clear hK K
     refine norm_ (a' := ?_) ?_ ?_; rotate_left; focus (show Act.put _ (some 28) _ = _; simp only [Act.put, s1, s2, s3, i64_w, i32_w]; rfl)
     refine pure_ (i := 9) (N := some 9) (v := ?_) (a' := ?_) #[T, T, T, T, T, T, T, T, T, T, O, O] rfl rfl (any_of HT_.out (by kernel_rfl)) (fun _ _ _ h => h) (Or.inl ⟨by rfl, ?_⟩) ?_ ?_; rotate_left; focus (intro w'; go_simp; with_reducible rfl)
     rotate_left; focus (simp only [Act.put, s1, s2, s3, i64_w, i32_w]; rfl)
     refine pure_ (i := 10) (N := some 10) (v := ?_) (a' := ?_) #[T, T, T, T, T, T, T, T, T, T, T, O] rfl rfl (any_of HT_.out (by kernel_rfl)) (fun _ _ _ h => h) (Or.inl ⟨by rfl, ?_⟩) ?_ ?_; rotate_left; focus (intro w'; go_simp; with_reducible rfl)
     rotate_left; focus (simp only [Act.put, s1, s2, s3, i64_w, i32_w]; rfl)
     refine pure_ (i := 11) (N := some 11) (v := ?_) (a' := ?_) #[T, T, T, T, T, T, T, T, T, T, T, T] rfl rfl (any_of HT_.out (by kernel_rfl)) (fun _ _ _ h => h) (Or.inl ⟨by rfl, ?_⟩) ?_ ?_; rotate_left; focus (intro w'; go_simp; with_reducible rfl)
     rotate_left; focus (simp only [Act.put, s1, s2, s3, i64_w, i32_w]; rfl)
     refine done_ (done_of HT_.out (by kernel_rfl)) ?_
     try go_wp2_with (first | ((with_reducible refine gate_callee (f := 38) rfl ?_); refine goesL_ (some 29) rfl rfl Try.func38 (by kernel_rfl) rfl #[] rfl (by (try simp only [zm, zc, zn]); first | done | rfl | (simp only [zd, zt]; rfl)) ?_; (with_reducible refine (cobweblaw03_alive.calls kj16  true _ A28.out).mono ?_); rintro e w61 ⟨rfl, hb⟩; refine ⟨_, rfl, ?_⟩; replace BK1023 := kb BK1023 hb; replace BK1024 := kb BK1024 hb; replace BK1025 := kb BK1025 hb; replace HB := kB HB hb; (try clear hb); (try clear hb2); (try clear hk); (try clear hi); have hnb62 := NB1024_1023.out; have hnc62 := NB1023_1024.out; have hnb63 := NB1024_1025.out; have hnc63 := NB1025_1024.out; have hcz64_0 : w61.cell? ⟨gb1024, 0, none⟩ = some (.int .i64 a1_0) := kc BK1024 0; have hcz64_1 : w61.cell? ⟨gb1024, 1, none⟩ = some (.int .i64 a1_1) := kc BK1024 1; have hfz64_0 := blk_frozen BK1024.out 0; have hfz64_1 := blk_frozen BK1024.out 1; have hnb65 := NB1023_1025.out; have hnc65 := NB1025_1023.out; have hcz66_0 : w61.cell? ⟨gb1023, 0, none⟩ = some (.int .i64 a0_0) := kc BK1023 0; have hcz66_1 : w61.cell? ⟨gb1023, 1, none⟩ = some (.int .i64 a0_1) := kc BK1023 1; have hfz66_0 := blk_frozen BK1023.out 0; have hfz66_1 := blk_frozen BK1023.out 1) | (go_at_call 48; (with_reducible refine (grid_Cmp.calls kj16 a1_0 a1_1 a0_0 a0_1 t1032 _ A31.out).mono ?_); rintro e w67 ⟨rfl, hb⟩; replace BK1023 := kb BK1023 hb; replace BK1024 := kb BK1024 hb; replace BK1025 := kb BK1025 hb; replace HB := kB HB hb; (try clear hb); (try clear hb2); (try clear hk); (try clear hi)))
     go_ret
     exact ⟨by first | rfl | (simp [errW_none, errW_some] <;> rfl) | (simp [*, errW_none, errW_some] <;> rfl), ky HB⟩
end Go.Proofs.Ytpjbniihdndlmab.Q
