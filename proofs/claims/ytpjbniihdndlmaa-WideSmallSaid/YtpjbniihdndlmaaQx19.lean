-- Printed by wip/pp.sh (a session's own turning of the kit's print) for this seat.
import Derived.Test.YtpjbniihdndlmaaQx0
import Derived.Test.YtpjbniihdndlmaaQx15
import Derived.Test.YtpjbniihdndlmaaQx16
import Derived.Test.YtpjbniihdndlmaaQx18
namespace Go.Proofs.Ytpjbniihdndlmaa.Q
open Go.RowKit Go.Proofs.YtpjbniihdndlmaaW.PrintWords Go.Proofs.YtpjbniihdndlmaaW.PrintLast Go.Proofs.YtpjbniihdndlmaaW.PrintMore
open Go.Proofs.Ytpjbniihdndlmaa.H
attribute [local go_sem] hq_add64 hq_sub64 hq_not64 add64c_nn sub64c_nn sub64c_le
attribute [local go_sem] max2_int min2_int max_two min_two max_three min_three max_four min_four   -- for this text's walks alone
set_option linter.unusedVariables false
set_option linter.unusedSimpArgs false

/-! ### cobwebref01_Power: function 23 -/
def cobwebref01_Power.l0 : Nat → Int → Int → Bool → List Int → Option (Bool × List Int)
  | 0, _, _, _, _ => none
  | k + 1, x0, x4, x381000, x381001 => if x4 < x0 then ((cobwebref01_Add.f k x381000 x381001 x381000 x381001).bind fun bt381 => (cobwebref01_Power.l0 k x0 (wrap64 (x4 + 1)) bt381.1 bt381.2)) else (some (x381000, x381001))
def cobwebref01_Power.f (k : Nat) (a0 : Int) : Option (Bool × List Int) := (cobwebref01_Of.f k 1).bind fun bt376 => (cobwebref01_Power.l0 k a0 0 bt376.1 bt376.2)
theorem cobwebref01_Power.mono_l : ∀ k, (∀ y0 y1 y2 y3, LeO (cobwebref01_Power.l0 k y0 y1 y2 y3) (cobwebref01_Power.l0 (k + 1) y0 y1 y2 y3))
  | 0 => fun _ _ _ _ r h => by simp [cobwebref01_Power.l0] at h
  | k + 1 => by
    have ih0 := cobwebref01_Power.mono_l k
    · intro y0 y1 y2 y3
      unfold cobwebref01_Power.l0
      repeat' first
      | (with_reducible exact ih0 _ _ _ _)
      | (with_reducible exact cobwebref01_Add.mono _ _ _ _ _)
      | (with_reducible exact cobwebref01_Of.mono _ _)
      | (with_reducible exact LeO.refl _)
      | (with_reducible exact LeO.none _)
      | (with_reducible refine LeO.ite ?_ ?_)
      | (with_reducible refine LeO.bind ?_ (fun _ => ?_))
      | exact ih0 _ _ _ _
      | exact cobwebref01_Add.mono _ _ _ _ _
      | exact cobwebref01_Of.mono _ _
      | exact LeO.none _
      | refine LeO.ite ?_ ?_
      | refine LeO.bind ?_ (fun _ => ?_)
theorem cobwebref01_Power.mono : ∀ a0 k, LeO (cobwebref01_Power.f k a0) (cobwebref01_Power.f (k + 1) a0) := by
  intro a0 k
  have ih0 := cobwebref01_Power.mono_l k
  unfold cobwebref01_Power.f
  repeat' first
      | (with_reducible exact ih0 _ _ _ _)
      | (with_reducible exact cobwebref01_Add.mono _ _ _ _ _)
      | (with_reducible exact cobwebref01_Of.mono _ _)
      | (with_reducible exact LeO.refl _)
      | (with_reducible exact LeO.none _)
      | (with_reducible refine LeO.ite ?_ ?_)
      | (with_reducible refine LeO.bind ?_ (fun _ => ?_))
      | exact ih0 _ _ _ _
      | exact cobwebref01_Add.mono _ _ _ _ _
      | exact cobwebref01_Of.mono _ _
      | exact LeO.none _
      | refine LeO.ite ?_ ?_
      | refine LeO.bind ?_ (fun _ => ?_)
set_option maxHeartbeats 8000000 in
set_option maxRecDepth 100000 in
theorem cobwebref01_Power.calls (k : Nat) (a0 : Int) (r1 : Bool) (r2 : List Int) (w : World) (h : cobwebref01_Power.f k a0 = some (r1, r2)) :
    Calls Try.prog 23 #[.int .i64 a0] w fun e w' => ∃ v1_ : Value, e = .returned (.agg #[.bool r1, v1_]) ∧ Kd.V (Kd.int .i64) 3 w' w.heap.size (fun k_ => (w.heap.size ≤ k_)) v1_ r2 ∧ Below w.heap.size w w' := by
  have hu32 := Try.underlying32
  have HB := Aside0.mk (Below.refl w.heap.size w)
  have H : ((cobwebref01_Of.f k 1).bind fun bt376 => (cobwebref01_Power.l0 k a0 0 bt376.1 bt376.2)) = some (r1, r2) := h
  clear h
  replace H := Option.bind_eq_some_iff.mp H
  obtain ⟨⟨t376, t377⟩, A20, H⟩ := H
  replace H : (cobwebref01_Power.l0 k a0 0 t376 t377) = some (r1, r2) := H
  have A2 := Aside0.mk A20
  clear A20
  have H' := Aside0.mk H
  clear H
  go_enter Try.func23, Try.ntmps23
  go_wp2_with (first | ((with_reducible refine gate_dst (N := 2) rfl ?_); refine box_event ?hg (N := 2) ?hd (cs := #[.bool false, .slice none 0 0]) (t := 32) ?hr ?_; (case hd => rfl); (case hg => rfl); (case hr => first | (go_simp; done) | (go_simp; rfl)); intro gb375 hg w3 hbox hb; have BK375 := Aside0.mk (hbox); have GW375 := kS HB hg; have GE375 := kS HB hg; replace HB := kB HB hb; clear hb hbox hg) | ((with_reducible refine gate_callee (f := 21) rfl ?_); refine goesL_ (some 5) rfl rfl Try.func21 (by kernel_rfl) rfl #[.int .i64 1] rfl (by (try simp only [List.map_toArray, List.map_cons, List.map_nil]); first | done | rfl | (simp only [List.length_drop, List.length_take]; rfl)) ?_; (with_reducible refine (cobwebref01_Of.calls k 1 t376 t377 _ A2.out).mono ?_); rintro e w4 ⟨v378, rfl, ho0, hb⟩; refine ⟨_, rfl, ?_⟩; have HO379 := Aside0.mk (Kd.R_lower (Kd.R_newM (M := fun k_ => (w.heap.size ≤ k_)) ho0 (below_size (ky HB)) (fun k_ h_ => h_)) (below_size (ky HB))); replace BK375 := kb BK375 hb; replace HB := kB HB hb; (try clear hb); (try clear hb2); (try clear hk); (try clear hi); (try clear ho0)) | ((with_reducible refine gate_dst (N := 3) rfl ?_); refine box_event ?hg (N := 3) ?hd (cs := #[.bool false, .slice none 0 0]) (t := 32) ?hr ?_; (case hd => rfl); (case hg => rfl); (case hr => first | (go_simp; done) | (go_simp; rfl)); intro gb380 hg w5 hbox hb; have BK380 := Aside0.mk (hbox); have GW380 := kS HB hg; have GE380 := kS HB hg; have NB375_380 := kN BK375 hg; have NB380_375 := kM BK375 hg; replace HO379 := kR HO379 hb; replace BK375 := kb BK375 hb; replace HB := kB HB hb; clear hb hbox hg; have hnb6 := NB380_375.out; have hnc6 := NB375_380.out; have hcz7_0 : w5.cell? ⟨gb380, 0, none⟩ = some (.bool false) := kc BK380 0; have hcz7_1 : w5.cell? ⟨gb380, 1, none⟩ = some (.slice none 0 0) := kc BK380 1; have hfz7_0 := blk_frozen BK380.out 0; have hfz7_1 := blk_frozen BK380.out 1; obtain ⟨Ao8, co8, eo8⟩ := Kd.R_slice HO379.out; subst eo8))
  go_loopg [4] k (fun kq v4 w' => ∃ (x4_1 : Int) (x381000_1 : Bool) (x381001_1 : List Int) (u381001 : Value), v4 = .int .i64 x4_1 ∧ Aside0 (cobwebref01_Power.l0 kq a0 x4_1 x381000_1 x381001_1 = some (r1, r2)) ∧ Aside0 (kq ≤ k) ∧ Aside0 (Kd.V (Kd.int .i64) 3 w' w.heap.size (fun k_ => (w.heap.size ≤ k_) ∧ k_ ≠ gb375 ∧ k_ ≠ gb380) u381001 x381001_1) ∧ Aside0 (w'.heap[gb375]? = some (.cells #[.bool false, (.slice none 0 0)] 32 (0, 0))) ∧ Aside0 (w'.heap[gb380]? = some (.cells #[.bool x381000_1, u381001] 32 (0, 0))) ∧ Aside0 (Below w.heap.size w w'))
  case atStart => exact ⟨(0), (t376), (t377), (.slice Ao8 t377.length co8), (by first | rfl | (simp; done) | (simp [*]; done)), H', ⟨Nat.le_refl _⟩, ⟨Kd.R_V (by (with_reducible repeat (first | apply Kd.R_alloc | apply Kd.R_drewN | apply Kd.R_drew)); exact Kd.R_mono (Kd.R_far (p := ⟨gb380, 1, none⟩) (Kd.R_far (p := ⟨gb380, 0, none⟩) (Kd.R_types (Kd.R_types (Kd.R_types HO379.out BK375.out (by decide)) BK380.out (by decide)) BK380.out (by decide)) (fun _ hk => hk.2) (.bool t376)) (fun _ hk => hk.2) (.slice Ao8 t377.length co8)) (fun _ hk => ⟨hk.1.1.1.1, ⟨hk.1.1.2, hk.1.2⟩⟩))⟩, ⟨kx BK375⟩, ⟨by (with_reducible repeat (first | refine blk_drewN ?_ _ | refine blk_drew ?_ | refine blk_alloc ?_ _)); refine blk_put (cs := #[.bool t376, .slice none 0 0]) ?_ 1 _ rfl; (with_reducible repeat (first | refine blk_drewN ?_ _ | refine blk_drew ?_ | refine blk_alloc ?_ _)); refine blk_put (cs := #[.bool false, .slice none 0 0]) ?_ 0 _ rfl; (with_reducible repeat (first | refine blk_drewN ?_ _ | refine blk_drew ?_ | refine blk_alloc ?_ _)); exact BK380.out⟩, ⟨ky HB⟩⟩
  case round =>
    clear H'
    try clear c2; try clear p2; try clear c6; try clear hcz7_0; try clear hcz7_1; try clear hfz7_0; try clear hfz7_1
    obtain ⟨x4_1, x381000_1, x381001_1, u381001, rfl, HA, HK1, HO_381001, BK375, BK380, HB⟩ := hrel
    cases gk with
    | zero => exact absurd HA.out (by simp [cobwebref01_Power.l0])
    | succ k1 =>
      have H := HA.out; clear HA
      simp only [cobwebref01_Power.l0] at H
      by_cases c9 : x4_1 < a0
      rotate_left
      · rw [if_neg c9] at H
        have c9b0 : decide (x4_1 < a0) = false := decide_eq_false c9
        clear c9
        simp only [Option.some.injEq, Prod.mk.injEq] at H
        obtain ⟨rfl, rfl⟩ := H
        have hnb17 := NB380_375.out; have hnc17 := NB375_380.out
        have hcz18_0 : wr.cell? ⟨gb380, 0, none⟩ = some (.bool x381000_1) := kc BK380 0
        have hcz18_1 : wr.cell? ⟨gb380, 1, none⟩ = some (u381001) := kc BK380 1
        have hfz18_0 := blk_frozen BK380.out 0
        have hfz18_1 := blk_frozen BK380.out 1
        have hcz19_0 : wr.cell? ⟨gb375, 0, none⟩ = some (.bool false) := kc BK375 0
        have hcz19_1 : wr.cell? ⟨gb375, 1, none⟩ = some (.slice none 0 0) := kc BK375 1
        have hfz19_0 := blk_frozen BK375.out 0
        have hfz19_1 := blk_frozen BK375.out 1
        obtain ⟨Ao20, co20, eo20⟩ := Kd.V_slice HO_381001.out
        subst eo20
        go_wp2
        refine bodyPost_ret (results_cell_row rfl _ _ gb375 32 #[.bool x381000_1, .slice Ao20 x381001_1.length co20] (0, 0) _ rfl (by (with_reducible repeat (first | refine blk_drewN ?_ _ | refine blk_drew ?_ | refine blk_alloc ?_ _)); refine blk_put (cs := #[.bool x381000_1, .slice none 0 0]) ?_ 1 _ rfl; (with_reducible repeat (first | refine blk_drewN ?_ _ | refine blk_drew ?_ | refine blk_alloc ?_ _)); refine blk_put (cs := #[.bool false, .slice none 0 0]) ?_ 0 _ rfl; (with_reducible repeat (first | refine blk_drewN ?_ _ | refine blk_drew ?_ | refine blk_alloc ?_ _)); exact BK375.out) Try.underlying32 rfl (by kernel_rfl)) rfl ?_
        exact ⟨_, by first | rfl | (simp [errW_none, errW_some] <;> rfl) | (simp [*, errW_none, errW_some] <;> rfl), by (with_reducible repeat (first | apply Kd.V_alloc | apply Kd.V_drewN | apply Kd.V_drew)); exact Kd.V_mono (Kd.V_far (p := ⟨gb375, 1, none⟩) (Kd.V_far (p := ⟨gb375, 0, none⟩) (Kd.V_mono HO_381001.out (fun k_ hk => (⟨hk, hk.2.1⟩ : _ ∧ k_ ≠ gb375))) (fun _ hk => hk.2) (.bool x381000_1)) (fun _ hk => hk.2) (.slice Ao20 x381001_1.length co20)) (fun _ hk => hk.1.1), ky HB⟩

      rw [if_pos c9] at H
      have c9b0 : decide (x4_1 < a0) = true := decide_eq_true c9
      clear c9
      replace H := Option.bind_eq_some_iff.mp H
      obtain ⟨⟨t381, t382⟩, A100, H⟩ := H
      replace H : (cobwebref01_Power.l0 k1 a0 (wrap64 (x4_1 + 1)) t381 t382) = some (r1, r2) := H
      have A10 := Aside0.mk A100
      clear A100
      have H' := Aside0.mk H
      clear H; have hnb11 := NB380_375.out; have hnc11 := NB375_380.out
      have hcz12_0 : wr.cell? ⟨gb380, 0, none⟩ = some (.bool x381000_1) := kc BK380 0
      have hcz12_1 : wr.cell? ⟨gb380, 1, none⟩ = some (u381001) := kc BK380 1
      have hfz12_0 := blk_frozen BK380.out 0
      have hfz12_1 := blk_frozen BK380.out 1
      obtain ⟨Ao13, co13, eo13⟩ := Kd.V_slice HO_381001.out
      subst eo13
      go_wp2_with (first | ((with_reducible refine gate_callee (f := 45) rfl ?_); refine goesL_ (some 13) rfl rfl Try.func45 (by kernel_rfl) rfl #[.agg #[.bool x381000_1, .slice Ao13 x381001_1.length co13], .agg #[.bool x381000_1, .slice Ao13 x381001_1.length co13]] rfl (by (try simp only [List.map_toArray, List.map_cons, List.map_nil]); first | done | rfl | (simp only [List.length_drop, List.length_take]; rfl)) ?_; (with_reducible refine (cobwebref01_Add.calls k1 x381000_1 _ _ x381001_1 x381000_1 _ _ x381001_1 t381 t382 _ ?side1 ?side2 ?side3 ?side4 A10.out).mono ?_); (case side1 => repeat (first | exact (Kd.V_reads' HO_381001.out).2.2 | (with_reducible refine Kd.C_alloc ?_ _) | (with_reducible refine Kd.C_drewN ?_ _) | (with_reducible refine Kd.C_drew ?_))); (case side2 => exact (Kd.V_reads' HO_381001.out).2.1); (case side3 => repeat (first | exact (Kd.V_reads' HO_381001.out).2.2 | (with_reducible refine Kd.C_alloc ?_ _) | (with_reducible refine Kd.C_drewN ?_ _) | (with_reducible refine Kd.C_drew ?_))); (case side4 => exact (Kd.V_reads' HO_381001.out).2.1); rintro e w14 ⟨v383, rfl, ho0, hb⟩; refine ⟨_, rfl, ?_⟩; have HO384 := Aside0.mk (Kd.V_lower (Kd.V_mono (ok' := fun k_ => (w.heap.size ≤ k_) ∧ k_ ≠ gb375 ∧ k_ ≠ gb380) ho0 (fun k_ hk_ => ⟨(Nat.le_trans (below_size (ky HB)) hk_), (Kd.freshB (g := gb375) (o := .cells #[.bool false, .slice none 0 0] 32 (0, 0)) (kx BK375) k_ hk_), (Kd.freshB (g := gb380) (o := .cells #[.bool x381000_1, .slice Ao13 x381001_1.length co13] 32 (0, 0)) (kx BK380) k_ hk_)⟩)) (below_size (ky HB))); replace HO_381001 := kV HO_381001 hb; replace BK375 := kb BK375 hb; replace BK380 := kb BK380 hb; replace HB := kB HB hb; (try clear hb); (try clear hb2); (try clear hk); (try clear hi); (try clear ho0); have hcz15_0 : w14.cell? ⟨gb380, 0, none⟩ = some (.bool x381000_1) := kc BK380 0; have hcz15_1 : w14.cell? ⟨gb380, 1, none⟩ = some (.slice Ao13 x381001_1.length co13) := kc BK380 1; have hfz15_0 := blk_frozen BK380.out 0; have hfz15_1 := blk_frozen BK380.out 1; obtain ⟨Ao16, co16, eo16⟩ := Kd.V_slice HO384.out; subst eo16))
      go_roundg k1
      case measure => have := HK1.out; omega
      case rel => exact ⟨(wrap64 (x4_1 + 1)), (t381), (t382), (.slice Ao16 t382.length co16), (by first | rfl | (simp; done) | (simp [*]; done)), H', ⟨by have := HK1.out; omega⟩, ⟨by (with_reducible repeat (first | apply Kd.V_alloc | apply Kd.V_drewN | apply Kd.V_drew)); exact Kd.V_mono (Kd.V_far (p := ⟨gb380, 1, none⟩) (Kd.V_far (p := ⟨gb380, 0, none⟩) (Kd.V_mono HO384.out (fun k_ hk => (⟨hk, hk.2.2⟩ : _ ∧ k_ ≠ gb380))) (fun _ hk => hk.2) (.bool t381)) (fun _ hk => hk.2) (.slice Ao16 t382.length co16)) (fun _ hk => ⟨hk.1.1, ⟨hk.1.2.1, hk.1.2.2⟩⟩)⟩, ⟨kx BK375⟩, ⟨by (with_reducible repeat (first | refine blk_drewN ?_ _ | refine blk_drew ?_ | refine blk_alloc ?_ _)); refine blk_put (cs := #[.bool t381, .slice Ao13 x381001_1.length co13]) ?_ 1 _ rfl; (with_reducible repeat (first | refine blk_drewN ?_ _ | refine blk_drew ?_ | refine blk_alloc ?_ _)); refine blk_put (cs := #[.bool x381000_1, .slice Ao13 x381001_1.length co13]) ?_ 0 _ rfl; (with_reducible repeat (first | refine blk_drewN ?_ _ | refine blk_drew ?_ | refine blk_alloc ?_ _)); exact BK380.out⟩, ⟨ky HB⟩⟩
/-! ### cobwebref01_Unsigned: function 79 -/
def cobwebref01_Unsigned.l0 : Nat → Int → Bool → List Int → Option (Bool × List Int)
  | 0, _, _, _ => none
  | k + 1, x0, x387000, x387001 => if x0 = 0 then (some (x387000, x387001)) else (if x387001.length < 17592186044416 then (cobwebref01_Unsigned.l0 k (IntKind.u64.wrap (Int.tdiv x0 10000)) x387000 (x387001 ++ [wrap64 (Int.tmod x0 10000)])) else (none))
def cobwebref01_Unsigned.f (k : Nat) (a0 : Int) : Option (Bool × List Int) := cobwebref01_Unsigned.l0 k a0 false ([] : List Int)
theorem cobwebref01_Unsigned.mono_l : ∀ k, (∀ y0 y1 y2, LeO (cobwebref01_Unsigned.l0 k y0 y1 y2) (cobwebref01_Unsigned.l0 (k + 1) y0 y1 y2))
  | 0 => fun _ _ _ r h => by simp [cobwebref01_Unsigned.l0] at h
  | k + 1 => by
    have ih0 := cobwebref01_Unsigned.mono_l k
    · intro y0 y1 y2
      unfold cobwebref01_Unsigned.l0
      repeat' first
      | (with_reducible exact ih0 _ _ _)
      | (with_reducible exact LeO.refl _)
      | (with_reducible exact LeO.none _)
      | (with_reducible refine LeO.ite ?_ ?_)
      | (with_reducible refine LeO.bind ?_ (fun _ => ?_))
      | exact ih0 _ _ _
      | exact LeO.none _
      | refine LeO.ite ?_ ?_
      | refine LeO.bind ?_ (fun _ => ?_)
theorem cobwebref01_Unsigned.mono : ∀ a0 k, LeO (cobwebref01_Unsigned.f k a0) (cobwebref01_Unsigned.f (k + 1) a0) := by
  intro a0 k
  have ih0 := cobwebref01_Unsigned.mono_l k
  unfold cobwebref01_Unsigned.f
  repeat' first
      | (with_reducible exact ih0 _ _ _)
      | (with_reducible exact LeO.refl _)
      | (with_reducible exact LeO.none _)
      | (with_reducible refine LeO.ite ?_ ?_)
      | (with_reducible refine LeO.bind ?_ (fun _ => ?_))
      | exact ih0 _ _ _
      | exact LeO.none _
      | refine LeO.ite ?_ ?_
      | refine LeO.bind ?_ (fun _ => ?_)
set_option maxHeartbeats 8000000 in
set_option maxRecDepth 100000 in
theorem cobwebref01_Unsigned.calls (k : Nat) (a0 : Int) (r1 : Bool) (r2 : List Int) (w : World) (h : cobwebref01_Unsigned.f k a0 = some (r1, r2)) :
    Calls Try.prog 79 #[.int .u64 a0] w fun e w' => ∃ v1_ : Value, e = .returned (.agg #[.bool r1, v1_]) ∧ Kd.R (Kd.int .i64) 3 w' w.heap.size (fun _ => True) v1_ r2 ∧ Below w.heap.size w w' := by
  have hu32 := Try.underlying32
  have HB := Aside0.mk (Below.refl w.heap.size w)
  have H : (cobwebref01_Unsigned.l0 k a0 false ([] : List Int)) = some (r1, r2) := h
  clear h
  have H' := Aside0.mk H
  clear H
  go_enter Try.func79, Try.ntmps79
  go_wp2_with (first | ((with_reducible refine gate_dst (N := 2) rfl ?_); refine box_event ?hg (N := 2) ?hd (cs := #[.bool false, .slice none 0 0]) (t := 32) ?hr ?_; (case hd => rfl); (case hg => rfl); (case hr => first | (go_simp; done) | (go_simp; rfl)); intro gb385 hg w2 hbox hb; have BK385 := Aside0.mk (hbox); have GW385 := kS HB hg; have GE385 := kS HB hg; replace HB := kB HB hb; clear hb hbox hg) | ((with_reducible refine gate_dst (N := 3) rfl ?_); refine box_event ?hg (N := 3) ?hd (cs := #[.bool false, .slice none 0 0]) (t := 32) ?hr ?_; (case hd => rfl); (case hg => rfl); (case hr => first | (go_simp; done) | (go_simp; rfl)); intro gb386 hg w3 hbox hb; have BK386 := Aside0.mk (hbox); have GW386 := kS HB hg; have GE386 := kS HB hg; have NB385_386 := kN BK385 hg; have NB386_385 := kM BK385 hg; replace BK385 := kb BK385 hb; replace HB := kB HB hb; clear hb hbox hg))
  (try simp only [Act.put, List.setIfInBounds_toArray, List.set_cons_zero, List.set_cons_succ])
  go_loopg [0] k (fun kq v0 w' => ∃ (x0_1 : Int) (x387001_1 : List Int) (u387001 : Value), v0 = .int .u64 x0_1 ∧ Aside0 (cobwebref01_Unsigned.l0 kq x0_1 false x387001_1 = some (r1, r2)) ∧ Aside0 (kq ≤ k) ∧ Aside0 (Kd.R (Kd.int .i64) 3 w' w.heap.size (fun _ => True) u387001 x387001_1) ∧ Aside0 (w'.heap[gb385]? = some (.cells #[.bool false, (.slice none 0 0)] 32 (0, 0))) ∧ Aside0 (w'.heap[gb386]? = some (.cells #[.bool false, u387001] 32 (0, 0))) ∧ Aside0 (Below w.heap.size w w'))
  case atStart => exact ⟨(a0), (([] : List Int)), (.slice none 0 0), (by first | rfl | (simp; done) | (simp [*]; done)), H', ⟨Nat.le_refl _⟩, ⟨by first | exact Kd.R_nil _ _ _ _ _ | exact Kd.N_nil _ _ _ _ _ | exact Kd.V_nil _ _ _ _ _ | exact Kd.Q_nil _ _ _ _ _ | exact Kd.S_nil _ _ _ _ _⟩, ⟨kx BK385⟩, ⟨kx BK386⟩, ⟨ky HB⟩⟩
  case round =>
    clear H'
    try clear p2
    obtain ⟨x0_1, x387001_1, u387001, rfl, HA, HK1, HO_387001, BK385, BK386, HB⟩ := hrel
    cases gk with
    | zero => exact absurd HA.out (by simp [cobwebref01_Unsigned.l0])
    | succ k1 =>
      have H := HA.out; clear HA
      simp only [cobwebref01_Unsigned.l0] at H
      by_cases c4 : x0_1 = 0
      · rw [if_pos c4] at H
        have c4b0 : (x0_1 == 0) = true := beq_iff_eq.mpr c4
        have c4b1 : (x0_1 != 0) = false := bne_eq_false_iff_eq.mpr c4
        clear c4
        simp only [Option.some.injEq, Prod.mk.injEq] at H
        obtain ⟨rfl, rfl⟩ := H
        have hnb5 := NB386_385.out; have hnc5 := NB385_386.out
        have hcz6_0 : wr.cell? ⟨gb386, 0, none⟩ = some (.bool false) := kc BK386 0
        have hcz6_1 : wr.cell? ⟨gb386, 1, none⟩ = some (u387001) := kc BK386 1
        have hfz6_0 := blk_frozen BK386.out 0
        have hfz6_1 := blk_frozen BK386.out 1
        have hcz7_0 : wr.cell? ⟨gb385, 0, none⟩ = some (.bool false) := kc BK385 0
        have hcz7_1 : wr.cell? ⟨gb385, 1, none⟩ = some (.slice none 0 0) := kc BK385 1
        have hfz7_0 := blk_frozen BK385.out 0
        have hfz7_1 := blk_frozen BK385.out 1
        obtain ⟨Ao8, co8, eo8⟩ := Kd.R_slice HO_387001.out
        subst eo8
        go_wp2
        refine bodyPost_ret (results_cell_row rfl _ _ gb385 32 #[.bool false, .slice Ao8 x387001_1.length co8] (0, 0) _ rfl (by (with_reducible repeat (first | refine blk_drewN ?_ _ | refine blk_drew ?_ | refine blk_alloc ?_ _)); refine blk_put (cs := #[.bool false, .slice none 0 0]) ?_ 1 _ rfl; (with_reducible repeat (first | refine blk_drewN ?_ _ | refine blk_drew ?_ | refine blk_alloc ?_ _)); refine blk_put (cs := #[.bool false, .slice none 0 0]) ?_ 0 _ rfl; (with_reducible repeat (first | refine blk_drewN ?_ _ | refine blk_drew ?_ | refine blk_alloc ?_ _)); exact BK385.out) Try.underlying32 rfl (by kernel_rfl)) rfl ?_
        exact ⟨_, by first | rfl | (simp [errW_none, errW_some] <;> rfl) | (simp [*, errW_none, errW_some] <;> rfl), by (with_reducible repeat (first | apply Kd.R_alloc | apply Kd.R_drewN | apply Kd.R_drew)); exact Kd.R_mono (Kd.R_far (p := ⟨gb385, 1, none⟩) (Kd.R_far (p := ⟨gb385, 0, none⟩) (Kd.R_types HO_387001.out BK385.out (by decide)) (fun _ hk => hk.2) (.bool false)) (fun _ hk => hk.2) (.slice Ao8 x387001_1.length co8)) (fun _ hk => trivial), ky HB⟩
      rw [if_neg c4] at H
      have c4b0 : (x0_1 == 0) = false := beq_eq_false_iff_ne.mpr c4
      have c4b1 : (x0_1 != 0) = true := bne_iff_ne.mpr c4
      by_cases c9 : x387001_1.length < 17592186044416
      rotate_left
      · rw [if_neg c9] at H
        exact absurd H (by simp)

      rw [if_pos c9] at H
      have LMc9 := Aside0.mk c9
      clear c9
      obtain ⟨y387, hy387⟩ : ∃ y_ : List Int, y_ = (x387001_1 ++ [wrap64 (Int.tmod x0_1 10000)]) := ⟨_, rfl⟩
      replace H : (cobwebref01_Unsigned.l0 k1 (IntKind.u64.wrap (Int.tdiv x0_1 10000)) false y387) = some (r1, r2) := by first | (rw [hy387]; with_reducible exact H) | (have H2_ := (Option.bind_some _ _).symm.trans H; rw [hy387]; with_reducible exact H2_) | (have H2_ := (Option.bind_some _ _).symm.trans H; with_reducible exact H2_) | with_reducible exact H | (rw [hy387]; exact H) | exact H
      have Ny387 := Aside0.mk hy387
      clear hy387
      have H' := Aside0.mk H
      clear H; have hnb10 := NB386_385.out; have hnc10 := NB385_386.out
      have hcz11_0 : wr.cell? ⟨gb386, 0, none⟩ = some (.bool false) := kc BK386 0
      have hcz11_1 : wr.cell? ⟨gb386, 1, none⟩ = some (u387001) := kc BK386 1
      have hfz11_0 := blk_frozen BK386.out 0
      have hfz11_1 := blk_frozen BK386.out 1
      go_wp2_with (first | ((with_reducible refine gate_builtin (b := .append) (xs := #[.tmp 7, .tmp 11]) rfl ?_); at_builtin; refine Kd.R_append (Kd.int .i64) (w0 := w) w.heap.size rfl (.tmp 7) (.tmp 11) 30 3 (.int .i64 0) 8 rfl Try.underlying30 info3 rfl (by decide) (by omega) u387001 x387001_1 (wrap64 (Int.tmod x0_1 10000)) [.int .i64 (wrap64 (Int.tmod x0_1 10000))] (fun _ => True) (fun _ => False) rfl rfl ?aP (fun _ hk => hk.elim) ?aF ?aO ?aB ?aS ?aL ?_; (case aP => exact rfl); (case aB => exact (ky HB)); (case aF => exact (fun _ _ => trivial)); (case aO => exact (kr HO_387001)); (case aS => exact (below_size (ky HB))); (case aL => have := LMc9.out; omega); intro v388 w12 ho hb hg hat; rw [← Ny387.out] at ho; have n0_ := Aside0.mk (blk_grown (g := gb385) (o := .cells #[.bool false, .slice none 0 0] 32 (0, 0)) (kx BK385) hg (Kd.R_ne HO_387001.out BK385.out (by decide))); have n1_ := Aside0.mk (blk_grown (g := gb386) (o := .cells #[.bool false, u387001] 32 (0, 0)) (kx BK386) hg (Kd.R_ne HO_387001.out BK386.out (by decide))); have n2_ := Aside0.mk (hb); have n3_ := Aside0.mk (ho); clear BK385; clear BK386; clear HB; clear HO_387001; have BK385 := n0_; have BK386 := n1_; have HB := n2_; have HO389 := n3_; clear n0_ n1_ n2_ n3_; clear ho hb hg hat; obtain ⟨Ao13, co13, eo13⟩ := Kd.R_slice HO389.out; subst eo13; have hcz14_0 : w12.cell? ⟨gb386, 0, none⟩ = some (.bool false) := kc BK386 0; have hcz14_1 : w12.cell? ⟨gb386, 1, none⟩ = some (u387001) := kc BK386 1; have hfz14_0 := blk_frozen BK386.out 0; have hfz14_1 := blk_frozen BK386.out 1))
      go_roundg k1
      case measure => have := HK1.out; omega
      case rel => exact ⟨(IntKind.u64.wrap (Int.tdiv x0_1 10000)), (y387), (.slice Ao13 y387.length co13), (by first | rfl | (simp; done) | (simp [*]; done)), H', ⟨by have := HK1.out; omega⟩, ⟨by (with_reducible repeat (first | apply Kd.R_alloc | apply Kd.R_drewN | apply Kd.R_drew)); exact Kd.R_mono (Kd.R_far (p := ⟨gb386, 1, none⟩) (Kd.R_types HO389.out BK386.out (by decide)) (fun _ hk => hk.2) (.slice Ao13 y387.length co13)) (fun _ hk => trivial)⟩, ⟨kx BK385⟩, ⟨by (with_reducible repeat (first | refine blk_drewN ?_ _ | refine blk_drew ?_ | refine blk_alloc ?_ _)); refine blk_put (cs := #[.bool false, u387001]) ?_ 1 _ rfl; (with_reducible repeat (first | refine blk_drewN ?_ _ | refine blk_drew ?_ | refine blk_alloc ?_ _)); exact BK386.out⟩, ⟨ky HB⟩⟩
/-! ### cobwebref01_Wide: function 58 -/
def cobwebref01_Wide.f (k : Nat) (a0 : Int) (a1 : Int) : Option (Bool × List Int) := (cobwebref01_Of.f k a0).bind fun bt391 => ((cobwebref01_Power.f k 64).bind fun bt395 => ((cobwebref01_Mul.f k bt391.1 bt391.2 bt395.1 bt395.2).bind fun bt399 => ((cobwebref01_Unsigned.f k a1).bind fun bt403 => ((cobwebref01_Add.f k bt399.1 bt399.2 bt403.1 bt403.2).bind fun bt407 => (some (bt407.1, bt407.2))))))
theorem cobwebref01_Wide.mono : ∀ a0 a1 k, LeO (cobwebref01_Wide.f k a0 a1) (cobwebref01_Wide.f (k + 1) a0 a1) := by
  intro a0 a1 k
  unfold cobwebref01_Wide.f
  repeat' first
      | (with_reducible exact cobwebref01_Add.mono _ _ _ _ _)
      | (with_reducible exact cobwebref01_Mul.mono _ _ _ _ _)
      | (with_reducible exact cobwebref01_Of.mono _ _)
      | (with_reducible exact cobwebref01_Power.mono _ _)
      | (with_reducible exact cobwebref01_Unsigned.mono _ _)
      | (with_reducible exact LeO.refl _)
      | (with_reducible exact LeO.none _)
      | (with_reducible refine LeO.ite ?_ ?_)
      | (with_reducible refine LeO.bind ?_ (fun _ => ?_))
      | exact cobwebref01_Add.mono _ _ _ _ _
      | exact cobwebref01_Mul.mono _ _ _ _ _
      | exact cobwebref01_Of.mono _ _
      | exact cobwebref01_Power.mono _ _
      | exact cobwebref01_Unsigned.mono _ _
      | exact LeO.none _
      | refine LeO.ite ?_ ?_
      | refine LeO.bind ?_ (fun _ => ?_)
set_option maxHeartbeats 8000000 in
set_option maxRecDepth 100000 in
theorem cobwebref01_Wide.calls (k : Nat) (a0 : Int) (a1 : Int) (r1 : Bool) (r2 : List Int) (w : World) (h : cobwebref01_Wide.f k a0 a1 = some (r1, r2)) :
    Calls Try.prog 58 #[.int .i64 a0, .int .u64 a1] w fun e w' => ∃ v1_ : Value, e = .returned (.agg #[.bool r1, v1_]) ∧ Kd.V (Kd.int .i64) 3 w' w.heap.size (fun k_ => (w.heap.size ≤ k_)) v1_ r2 ∧ Below w.heap.size w w' := by
  have hu32 := Try.underlying32
  have HB := Aside0.mk (Below.refl w.heap.size w)
  have H : ((cobwebref01_Of.f k a0).bind fun bt391 => ((cobwebref01_Power.f k 64).bind fun bt395 => ((cobwebref01_Mul.f k bt391.1 bt391.2 bt395.1 bt395.2).bind fun bt399 => ((cobwebref01_Unsigned.f k a1).bind fun bt403 => ((cobwebref01_Add.f k bt399.1 bt399.2 bt403.1 bt403.2).bind fun bt407 => (some (bt407.1, bt407.2))))))) = some (r1, r2) := h
  clear h
  replace H := Option.bind_eq_some_iff.mp H
  obtain ⟨⟨t391, t392⟩, A30, H⟩ := H
  replace H : ((cobwebref01_Power.f k 64).bind fun bt395 => ((cobwebref01_Mul.f k t391 t392 bt395.1 bt395.2).bind fun bt399 => ((cobwebref01_Unsigned.f k a1).bind fun bt403 => ((cobwebref01_Add.f k bt399.1 bt399.2 bt403.1 bt403.2).bind fun bt407 => (some (bt407.1, bt407.2)))))) = some (r1, r2) := H
  have A3 := Aside0.mk A30
  clear A30
  replace H := Option.bind_eq_some_iff.mp H
  obtain ⟨⟨t395, t396⟩, A40, H⟩ := H
  replace H : ((cobwebref01_Mul.f k t391 t392 t395 t396).bind fun bt399 => ((cobwebref01_Unsigned.f k a1).bind fun bt403 => ((cobwebref01_Add.f k bt399.1 bt399.2 bt403.1 bt403.2).bind fun bt407 => (some (bt407.1, bt407.2))))) = some (r1, r2) := H
  have A4 := Aside0.mk A40
  clear A40
  replace H := Option.bind_eq_some_iff.mp H
  obtain ⟨⟨t399, t400⟩, A50, H⟩ := H
  replace H : ((cobwebref01_Unsigned.f k a1).bind fun bt403 => ((cobwebref01_Add.f k t399 t400 bt403.1 bt403.2).bind fun bt407 => (some (bt407.1, bt407.2)))) = some (r1, r2) := H
  have A5 := Aside0.mk A50
  clear A50
  replace H := Option.bind_eq_some_iff.mp H
  obtain ⟨⟨t403, t404⟩, A60, H⟩ := H
  replace H : ((cobwebref01_Add.f k t399 t400 t403 t404).bind fun bt407 => (some (bt407.1, bt407.2))) = some (r1, r2) := H
  have A6 := Aside0.mk A60
  clear A60
  replace H := Option.bind_eq_some_iff.mp H
  obtain ⟨⟨t407, t408⟩, A70, H⟩ := H
  replace H : (some (t407, t408)) = some (r1, r2) := H
  have A7 := Aside0.mk A70
  clear A70
  simp only [Option.some.injEq, Prod.mk.injEq] at H
  obtain ⟨rfl, rfl⟩ := H
  go_enter Try.func58, Try.ntmps58
  go_wp2_with (first | ((with_reducible refine gate_dst (N := 4) rfl ?_); refine box_event ?hg (N := 4) ?hd (cs := #[.bool false, .slice none 0 0]) (t := 32) ?hr ?_; (case hd => rfl); (case hg => rfl); (case hr => first | (go_simp; done) | (go_simp; rfl)); intro gb390 hg w8 hbox hb; have BK390 := Aside0.mk (hbox); have GW390 := kS HB hg; have GE390 := kS HB hg; replace HB := kB HB hb; clear hb hbox hg) | ((with_reducible refine gate_callee (f := 21) rfl ?_); refine goesL_ (some 6) rfl rfl Try.func21 (by kernel_rfl) rfl #[.int .i64 a0] rfl (by (try simp only [List.map_toArray, List.map_cons, List.map_nil]); first | done | rfl | (simp only [List.length_drop, List.length_take]; rfl)) ?_; (with_reducible refine (cobwebref01_Of.calls k a0 t391 t392 _ A3.out).mono ?_); rintro e w9 ⟨v393, rfl, ho0, hb⟩; refine ⟨_, rfl, ?_⟩; have HO394 := Aside0.mk (Kd.R_lower (Kd.R_newM (M := fun k_ => (w.heap.size ≤ k_)) ho0 (below_size (ky HB)) (fun k_ h_ => h_)) (below_size (ky HB))); replace BK390 := kb BK390 hb; replace HB := kB HB hb; (try clear hb); (try clear hb2); (try clear hk); (try clear hi); (try clear ho0)) | ((with_reducible refine gate_callee (f := 23) rfl ?_); refine goesL_ (some 7) rfl rfl Try.func23 (by kernel_rfl) rfl #[.int .i64 64] rfl (by (try simp only [List.map_toArray, List.map_cons, List.map_nil]); first | done | rfl | (simp only [List.length_drop, List.length_take]; rfl)) ?_; (with_reducible refine (cobwebref01_Power.calls k 64 t395 t396 _ A4.out).mono ?_); rintro e w10 ⟨v397, rfl, ho0, hb⟩; refine ⟨_, rfl, ?_⟩; have HO398 := Aside0.mk (Kd.V_lower (Kd.V_mono (ok' := fun k_ => (w.heap.size ≤ k_) ∧ some k_ ≠ (v393 : Value).ownBlock ∧ k_ ≠ gb390) ho0 (fun k_ hk_ => ⟨(Nat.le_trans (below_size (ky HB)) hk_), (Kd.fresh' (Kd.R_lt (kr HO394)) k_ hk_), (Kd.freshB (g := gb390) (o := .cells #[.bool false, .slice none 0 0] 32 (0, 0)) (kx BK390) k_ hk_)⟩)) (below_size (ky HB))); replace HO394 := kR HO394 hb; replace BK390 := kb BK390 hb; replace HB := kB HB hb; (try clear hb); (try clear hb2); (try clear hk); (try clear hi); (try clear ho0); obtain ⟨Ao11, co11, eo11⟩ := Kd.R_slice HO394.out; subst eo11; obtain ⟨Ao12, co12, eo12⟩ := Kd.V_slice HO398.out; subst eo12) | ((with_reducible refine gate_callee (f := 18) rfl ?_); refine goesL_ (some 8) rfl rfl Try.func18 (by kernel_rfl) rfl #[.agg #[.bool t391, .slice Ao11 t392.length co11], .agg #[.bool t395, .slice Ao12 t396.length co12]] rfl (by (try simp only [List.map_toArray, List.map_cons, List.map_nil]); first | done | rfl | (simp only [List.length_drop, List.length_take]; rfl)) ?_; (with_reducible refine (cobwebref01_Mul.calls k t391 _ _ t392 t395 _ _ t396 t399 t400 _ ?side1 ?side2 ?side3 ?side4 A5.out).mono ?_); (case side1 => repeat (first | exact (Kd.R_reads' HO394.out).2.2 | (with_reducible refine Kd.C_alloc ?_ _) | (with_reducible refine Kd.C_drewN ?_ _) | (with_reducible refine Kd.C_drew ?_))); (case side2 => exact (Kd.R_reads' HO394.out).2.1); (case side3 => repeat (first | exact (Kd.V_reads' HO398.out).2.2 | (with_reducible refine Kd.C_alloc ?_ _) | (with_reducible refine Kd.C_drewN ?_ _) | (with_reducible refine Kd.C_drew ?_))); (case side4 => exact (Kd.V_reads' HO398.out).2.1); rintro e w13 ⟨v401, rfl, ho0, hb⟩; refine ⟨_, rfl, ?_⟩; have HO402 := Aside0.mk (Kd.V_lower (Kd.V_mono (ok' := fun k_ => (w.heap.size ≤ k_) ∧ some k_ ≠ (.slice Ao11 t392.length co11 : Value).ownBlock ∧ k_ ≠ gb390) ho0 (fun k_ hk_ => ⟨(Nat.le_trans (below_size (ky HB)) hk_), (Kd.fresh' (Kd.R_lt (kr HO394)) k_ hk_), (Kd.freshB (g := gb390) (o := .cells #[.bool false, .slice none 0 0] 32 (0, 0)) (kx BK390) k_ hk_)⟩)) (below_size (ky HB))); replace HO394 := kR HO394 hb; replace HO398 := kV HO398 hb; replace BK390 := kb BK390 hb; replace HB := kB HB hb; (try clear hb); (try clear hb2); (try clear hk); (try clear hi); (try clear ho0)) | ((with_reducible refine gate_callee (f := 79) rfl ?_); refine goesL_ (some 10) rfl rfl Try.func79 (by kernel_rfl) rfl #[.int .u64 a1] rfl (by (try simp only [List.map_toArray, List.map_cons, List.map_nil]); first | done | rfl | (simp only [List.length_drop, List.length_take]; rfl)) ?_; (with_reducible refine (cobwebref01_Unsigned.calls k a1 t403 t404 _ A6.out).mono ?_); rintro e w14 ⟨v405, rfl, ho0, hb⟩; refine ⟨_, rfl, ?_⟩; have n0_ := Aside0.mk (Kd.R_elder' (kr HO394) (Kd.R_base ho0) hb); have n1_ := Aside0.mk (Kd.V_elder' (kv HO398) (Kd.R_base ho0) hb); have n2_ := Aside0.mk (Kd.V_elder' (kv HO402) (Kd.R_base ho0) hb); have n3_ := Aside0.mk (Kd.R_lower (Kd.R_new' (Kd.R_newM (M := fun k_ => (w.heap.size ≤ k_)) ho0 (below_size (ky HB)) (fun k_ h_ => h_)) (Kd.R_lt (kr HO394))) (below_size (ky HB))); have n4_ := kb BK390 hb; have n5_ := kB HB hb; clear HO394; clear HO398; clear HO402; clear BK390; clear HB; have HO394 := n0_; have HO398 := n1_; have HO402 := n2_; have HO406 := n3_; have BK390 := n4_; have HB := n5_; clear n0_ n1_ n2_ n3_ n4_ n5_; (try clear hb); (try clear hb2); (try clear hk); (try clear hi); (try clear ho0); obtain ⟨Ao15, co15, eo15⟩ := Kd.V_slice HO402.out; subst eo15; obtain ⟨Ao16, co16, eo16⟩ := Kd.R_slice HO406.out; subst eo16) | ((with_reducible refine gate_callee (f := 45) rfl ?_); refine goesL_ (some 11) rfl rfl Try.func45 (by kernel_rfl) rfl #[.agg #[.bool t399, .slice Ao15 t400.length co15], .agg #[.bool t403, .slice Ao16 t404.length co16]] rfl (by (try simp only [List.map_toArray, List.map_cons, List.map_nil]); first | done | rfl | (simp only [List.length_drop, List.length_take]; rfl)) ?_; (with_reducible refine (cobwebref01_Add.calls k t399 _ _ t400 t403 _ _ t404 t407 t408 _ ?side1 ?side2 ?side3 ?side4 A7.out).mono ?_); (case side1 => repeat (first | exact (Kd.V_reads' HO402.out).2.2 | (with_reducible refine Kd.C_alloc ?_ _) | (with_reducible refine Kd.C_drewN ?_ _) | (with_reducible refine Kd.C_drew ?_))); (case side2 => exact (Kd.V_reads' HO402.out).2.1); (case side3 => repeat (first | exact (Kd.R_reads' HO406.out).2.2 | (with_reducible refine Kd.C_alloc ?_ _) | (with_reducible refine Kd.C_drewN ?_ _) | (with_reducible refine Kd.C_drew ?_))); (case side4 => exact (Kd.R_reads' HO406.out).2.1); rintro e w17 ⟨v409, rfl, ho0, hb⟩; refine ⟨_, rfl, ?_⟩; have HO410 := Aside0.mk (Kd.V_lower (Kd.V_mono (ok' := fun k_ => (w.heap.size ≤ k_) ∧ some k_ ≠ (.slice Ao11 t392.length co11 : Value).ownBlock ∧ some k_ ≠ (.slice Ao16 t404.length co16 : Value).ownBlock ∧ k_ ≠ gb390) ho0 (fun k_ hk_ => ⟨(Nat.le_trans (below_size (ky HB)) hk_), (Kd.fresh' (Kd.R_lt (kr HO394)) k_ hk_), (Kd.fresh' (Kd.R_lt (kr HO406)) k_ hk_), (Kd.freshB (g := gb390) (o := .cells #[.bool false, .slice none 0 0] 32 (0, 0)) (kx BK390) k_ hk_)⟩)) (below_size (ky HB))); replace HO394 := kR HO394 hb; replace HO398 := kV HO398 hb; replace HO402 := kV HO402 hb; replace HO406 := kR HO406 hb; replace BK390 := kb BK390 hb; replace HB := kB HB hb; (try clear hb); (try clear hb2); (try clear hk); (try clear hi); (try clear ho0); have hcz18_0 : w17.cell? ⟨gb390, 0, none⟩ = some (.bool false) := kc BK390 0; have hcz18_1 : w17.cell? ⟨gb390, 1, none⟩ = some (.slice none 0 0) := kc BK390 1; have hfz18_0 := blk_frozen BK390.out 0; have hfz18_1 := blk_frozen BK390.out 1; obtain ⟨Ao19, co19, eo19⟩ := Kd.V_slice HO410.out; subst eo19))
  refine bodyPost_ret (results_cell_row rfl _ _ gb390 32 #[.bool t407, .slice Ao19 t408.length co19] (0, 0) _ rfl (by (with_reducible repeat (first | refine blk_drewN ?_ _ | refine blk_drew ?_ | refine blk_alloc ?_ _)); refine blk_put (cs := #[.bool t407, .slice none 0 0]) ?_ 1 _ rfl; (with_reducible repeat (first | refine blk_drewN ?_ _ | refine blk_drew ?_ | refine blk_alloc ?_ _)); refine blk_put (cs := #[.bool false, .slice none 0 0]) ?_ 0 _ rfl; (with_reducible repeat (first | refine blk_drewN ?_ _ | refine blk_drew ?_ | refine blk_alloc ?_ _)); exact BK390.out) Try.underlying32 rfl (by kernel_rfl)) rfl ?_
  exact ⟨_, by first | rfl | (simp [errW_none, errW_some] <;> rfl) | (simp [*, errW_none, errW_some] <;> rfl), by (with_reducible repeat (first | apply Kd.V_alloc | apply Kd.V_drewN | apply Kd.V_drew)); exact Kd.V_mono (Kd.V_far (p := ⟨gb390, 1, none⟩) (Kd.V_far (p := ⟨gb390, 0, none⟩) (Kd.V_mono HO410.out (fun k_ hk => (⟨hk, hk.2.2.2⟩ : _ ∧ k_ ≠ gb390))) (fun _ hk => hk.2) (.bool t407)) (fun _ hk => hk.2) (.slice Ao19 t408.length co19)) (fun _ hk => hk.1.1), ky HB⟩

/-! ### cobweblaw01_num: function 19 -/
def cobweblaw01_num.f (k : Nat) (a0_0 : Int) (a0_1 : Int) : Option (Bool × List Int) := (cobwebref01_Wide.f k a0_0 a0_1).bind fun bt413 => (some (bt413.1, bt413.2))
theorem cobweblaw01_num.mono : ∀ a0 a1 k, LeO (cobweblaw01_num.f k a0 a1) (cobweblaw01_num.f (k + 1) a0 a1) := by
  intro a0 a1 k
  unfold cobweblaw01_num.f
  repeat' first
      | (with_reducible exact cobwebref01_Wide.mono _ _ _)
      | (with_reducible exact LeO.refl _)
      | (with_reducible exact LeO.none _)
      | (with_reducible refine LeO.ite ?_ ?_)
      | (with_reducible refine LeO.bind ?_ (fun _ => ?_))
      | exact cobwebref01_Wide.mono _ _ _
      | exact LeO.none _
      | refine LeO.ite ?_ ?_
      | refine LeO.bind ?_ (fun _ => ?_)
set_option maxHeartbeats 8000000 in
set_option maxRecDepth 100000 in
theorem cobweblaw01_num.calls (k : Nat) (a0_0 : Int) (a0_1 : Int) (r1 : Bool) (r2 : List Int) (w : World) (h : cobweblaw01_num.f k a0_0 a0_1 = some (r1, r2)) :
    Calls Try.prog 19 #[.agg #[.int .i64 a0_0, .int .u64 a0_1]] w fun e w' => ∃ v1_ : Value, e = .returned (.agg #[.bool r1, v1_]) ∧ Kd.V (Kd.int .i64) 3 w' w.heap.size (fun k_ => (w.heap.size ≤ k_)) v1_ r2 ∧ Below w.heap.size w w' := by
  have hu24 := Try.underlying24
  have hu32 := Try.underlying32
  have HB := Aside0.mk (Below.refl w.heap.size w)
  have H : ((cobwebref01_Wide.f k a0_0 a0_1).bind fun bt413 => (some (bt413.1, bt413.2))) = some (r1, r2) := h
  clear h
  replace H := Option.bind_eq_some_iff.mp H
  obtain ⟨⟨t413, t414⟩, A20, H⟩ := H
  replace H : (some (t413, t414)) = some (r1, r2) := H
  have A2 := Aside0.mk A20
  clear A20
  simp only [Option.some.injEq, Prod.mk.injEq] at H
  obtain ⟨rfl, rfl⟩ := H
  go_enter Try.func19, Try.ntmps19
  go_wp2_with (first | ((with_reducible refine gate_dst (N := 1) rfl ?_); refine box_event ?hg (N := 1) ?hd (cs := #[.int .i64 a0_0, .int .u64 a0_1]) (t := 24) ?hr ?_; (case hd => rfl); (case hg => rfl); (case hr => first | (go_simp; done) | (go_simp; rfl)); intro gb411 hg w3 hbox hb; have BK411 := Aside0.mk (hbox); have GW411 := kS HB hg; have GE411 := kS HB hg; replace HB := kB HB hb; clear hb hbox hg) | ((with_reducible refine gate_dst (N := 2) rfl ?_); refine box_event ?hg (N := 2) ?hd (cs := #[.bool false, .slice none 0 0]) (t := 32) ?hr ?_; (case hd => rfl); (case hg => rfl); (case hr => first | (go_simp; done) | (go_simp; rfl)); intro gb412 hg w4 hbox hb; have BK412 := Aside0.mk (hbox); have GW412 := kS HB hg; have GE412 := kS HB hg; have NB411_412 := kN BK411 hg; have NB412_411 := kM BK411 hg; replace BK411 := kb BK411 hb; replace HB := kB HB hb; clear hb hbox hg; have hnb5 := NB411_412.out; have hnc5 := NB412_411.out; have hcz6_0 : w4.cell? ⟨gb411, 0, none⟩ = some (.int .i64 a0_0) := kc BK411 0; have hcz6_1 : w4.cell? ⟨gb411, 1, none⟩ = some (.int .u64 a0_1) := kc BK411 1; have hfz6_0 := blk_frozen BK411.out 0; have hfz6_1 := blk_frozen BK411.out 1) | ((with_reducible refine gate_callee (f := 58) rfl ?_); refine goesL_ (some 7) rfl rfl Try.func58 (by kernel_rfl) rfl #[.int .i64 a0_0, .int .u64 a0_1] rfl (by (try simp only [List.map_toArray, List.map_cons, List.map_nil]); first | done | rfl | (simp only [List.length_drop, List.length_take]; rfl)) ?_; (with_reducible refine (cobwebref01_Wide.calls k a0_0 a0_1 t413 t414 _ A2.out).mono ?_); rintro e w7 ⟨v415, rfl, ho0, hb⟩; refine ⟨_, rfl, ?_⟩; have HO416 := Aside0.mk (Kd.V_lower (Kd.V_mono (ok' := fun k_ => (w.heap.size ≤ k_) ∧ k_ ≠ gb411 ∧ k_ ≠ gb412) ho0 (fun k_ hk_ => ⟨(Nat.le_trans (below_size (ky HB)) hk_), (Kd.freshB (g := gb411) (o := .cells #[.int .i64 a0_0, .int .u64 a0_1] 24 (0, 0)) (kx BK411) k_ hk_), (Kd.freshB (g := gb412) (o := .cells #[.bool false, .slice none 0 0] 32 (0, 0)) (kx BK412) k_ hk_)⟩)) (below_size (ky HB))); replace BK411 := kb BK411 hb; replace BK412 := kb BK412 hb; replace HB := kB HB hb; (try clear hb); (try clear hb2); (try clear hk); (try clear hi); (try clear ho0); have hcz8_0 : w7.cell? ⟨gb412, 0, none⟩ = some (.bool false) := kc BK412 0; have hcz8_1 : w7.cell? ⟨gb412, 1, none⟩ = some (.slice none 0 0) := kc BK412 1; have hfz8_0 := blk_frozen BK412.out 0; have hfz8_1 := blk_frozen BK412.out 1; obtain ⟨Ao9, co9, eo9⟩ := Kd.V_slice HO416.out; subst eo9))
  refine bodyPost_ret (results_cell_row rfl _ _ gb412 32 #[.bool t413, .slice Ao9 t414.length co9] (0, 0) _ rfl (by (with_reducible repeat (first | refine blk_drewN ?_ _ | refine blk_drew ?_ | refine blk_alloc ?_ _)); refine blk_put (cs := #[.bool t413, .slice none 0 0]) ?_ 1 _ rfl; (with_reducible repeat (first | refine blk_drewN ?_ _ | refine blk_drew ?_ | refine blk_alloc ?_ _)); refine blk_put (cs := #[.bool false, .slice none 0 0]) ?_ 0 _ rfl; (with_reducible repeat (first | refine blk_drewN ?_ _ | refine blk_drew ?_ | refine blk_alloc ?_ _)); exact BK412.out) Try.underlying32 rfl (by kernel_rfl)) rfl ?_
  exact ⟨_, by first | rfl | (simp [errW_none, errW_some] <;> rfl) | (simp [*, errW_none, errW_some] <;> rfl), by (with_reducible repeat (first | apply Kd.V_alloc | apply Kd.V_drewN | apply Kd.V_drew)); exact Kd.V_mono (Kd.V_far (p := ⟨gb412, 1, none⟩) (Kd.V_far (p := ⟨gb412, 0, none⟩) (Kd.V_mono HO416.out (fun k_ hk => (⟨hk, hk.2.2⟩ : _ ∧ k_ ≠ gb412))) (fun _ hk => hk.2) (.bool t413)) (fun _ hk => hk.2) (.slice Ao9 t414.length co9)) (fun _ hk => hk.1.1), ky HB⟩

end Go.Proofs.Ytpjbniihdndlmaa.Q
