-- Printed by wip/pp.sh (a session's own turning of the kit's print) for this seat.
import Derived.Test.YtpjbniihdndlmaaQx0
import Derived.Test.YtpjbniihdndlmaaQx1
import Derived.Test.YtpjbniihdndlmaaQx6
import Derived.Test.YtpjbniihdndlmaaQx7
import Derived.Test.YtpjbniihdndlmaaQx8
import Derived.Test.YtpjbniihdndlmaaQx9
namespace Go.Proofs.Ytpjbniihdndlmaa.Q
open Go.RowKit Go.Proofs.YtpjbniihdndlmaaW.PrintWords Go.Proofs.YtpjbniihdndlmaaW.PrintLast Go.Proofs.YtpjbniihdndlmaaW.PrintMore
open Go.Proofs.Ytpjbniihdndlmaa.H
attribute [local go_sem] hq_add64 hq_sub64 hq_not64 add64c_nn sub64c_nn sub64c_le
attribute [local go_sem] max2_int min2_int max_two min_two max_three min_three max_four min_four   -- for this text's walks alone
set_option linter.unusedVariables false
set_option linter.unusedSimpArgs false

attribute [local go_sem high] eqA24
/-! ### wide_Text: function 37 -/
def wide_Text.l0 : Nat → Int → Int → List Int → Int → Int → Option (ByteArray)
  | 0, _, _, _, _, _ => none
  | k + 1, x3, x4, x5, x223000, x223001 => if (x5.length : Int) = 0 then ((wide_divide.f k x3 x4 0 10).bind fun bt225 => ((some (([(IntKind.u64.wrap (48 + bt225.2.2.2)) % 256] : List Int) : List Int)).bind fun y229 => (if y229.length + x5.length < 140737488355328 then (wide_Text.l0 k bt225.1 bt225.2.1 (y229 ++ x5) x223000 x223001) else (none)))) else (if (Go.bits .or .u64 x3 x4) = 0 then (if x223000 < 0 then ((some (([45] : List Int) : List Int)).bind fun y235 => (if y235.length + x5.length < 140737488355328 then (some (strOfNums (y235 ++ x5))) else (none))) else (some (strOfNums x5))) else ((wide_divide.f k x3 x4 0 10).bind fun bt241 => ((some (([(IntKind.u64.wrap (48 + bt241.2.2.2)) % 256] : List Int) : List Int)).bind fun y245 => (if y245.length + x5.length < 140737488355328 then (wide_Text.l0 k bt241.1 bt241.2.1 (y245 ++ x5) x223000 x223001) else (none)))))
def wide_Text.f (k : Nat) (a0_0 : Int) (a0_1 : Int) : Option (ByteArray) := (wide_size.f a0_0 a0_1).bind fun bt223 => (wide_Text.l0 k bt223.1 bt223.2 ([] : List Int) a0_0 a0_1)
theorem wide_Text.mono_l : ∀ k, (∀ y0 y1 y2 y3 y4, LeO (wide_Text.l0 k y0 y1 y2 y3 y4) (wide_Text.l0 (k + 1) y0 y1 y2 y3 y4))
  | 0 => fun _ _ _ _ _ r h => by simp [wide_Text.l0] at h
  | k + 1 => by
    have ih0 := wide_Text.mono_l k
    · intro y0 y1 y2 y3 y4
      unfold wide_Text.l0
      repeat' first
      | (with_reducible exact ih0 _ _ _ _ _)
      | (with_reducible exact wide_divide.mono _ _ _ _ _)
      | (with_reducible exact LeO.refl _)
      | (with_reducible exact LeO.none _)
      | (with_reducible refine LeO.ite ?_ ?_)
      | (with_reducible refine LeO.bind ?_ (fun _ => ?_))
      | exact ih0 _ _ _ _ _
      | exact wide_divide.mono _ _ _ _ _
      | exact LeO.none _
      | refine LeO.ite ?_ ?_
      | refine LeO.bind ?_ (fun _ => ?_)
theorem wide_Text.mono : ∀ a0 a1 k, LeO (wide_Text.f k a0 a1) (wide_Text.f (k + 1) a0 a1) := by
  intro a0 a1 k
  have ih0 := wide_Text.mono_l k
  unfold wide_Text.f
  repeat' first
      | (with_reducible exact ih0 _ _ _ _ _)
      | (with_reducible exact wide_divide.mono _ _ _ _ _)
      | (with_reducible exact LeO.refl _)
      | (with_reducible exact LeO.none _)
      | (with_reducible refine LeO.ite ?_ ?_)
      | (with_reducible refine LeO.bind ?_ (fun _ => ?_))
      | exact ih0 _ _ _ _ _
      | exact wide_divide.mono _ _ _ _ _
      | exact LeO.none _
      | refine LeO.ite ?_ ?_
      | refine LeO.bind ?_ (fun _ => ?_)
set_option maxHeartbeats 8000000 in
set_option maxRecDepth 100000 in
theorem wide_Text.calls (k : Nat) (a0_0 : Int) (a0_1 : Int) (r : ByteArray) (w : World) (h : wide_Text.f k a0_0 a0_1 = some r) :
    Calls Try.prog 37 #[.agg #[.int .i64 a0_0, .int .u64 a0_1]] w fun e w' => e = .returned (.string r) ∧ Below w.heap.size w w' := by
  have hu24 := Try.underlying24
  have HB := Aside0.mk (Below.refl w.heap.size w)
  have H : ((wide_size.f a0_0 a0_1).bind fun bt223 => (wide_Text.l0 k bt223.1 bt223.2 ([] : List Int) a0_0 a0_1)) = some r := h
  clear h
  replace H := Option.bind_eq_some_iff.mp H
  obtain ⟨⟨t223, t224⟩, A20, H⟩ := H
  replace H : (wide_Text.l0 k t223 t224 ([] : List Int) a0_0 a0_1) = some r := H
  have A2 := Aside0.mk A20
  clear A20
  have H' := Aside0.mk H
  clear H
  go_enter Try.func37, Try.ntmps37
  go_wp2_with (first | ((with_reducible refine gate_dst (N := 1) rfl ?_); refine box_event ?hg (N := 1) ?hd (cs := #[.int .i64 a0_0, .int .u64 a0_1]) (t := 24) ?hr ?_; (case hd => rfl); (case hg => rfl); (case hr => first | (go_simp; done) | (go_simp; rfl)); intro gb222 hg w3 hbox hb; have BK222 := Aside0.mk (hbox); have GW222 := kS HB hg; have GE222 := kS HB hg; replace HB := kB HB hb; clear hb hbox hg; have hcz4_0 : w3.cell? ⟨gb222, 0, none⟩ = some (.int .i64 a0_0) := kc BK222 0; have hcz4_1 : w3.cell? ⟨gb222, 1, none⟩ = some (.int .u64 a0_1) := kc BK222 1; have hfz4_0 := blk_frozen BK222.out 0; have hfz4_1 := blk_frozen BK222.out 1) | ((with_reducible refine gate_callee (f := 51) rfl ?_); refine goesL_ (some 12) rfl rfl Try.func51 (by kernel_rfl) rfl #[.agg #[.int .i64 a0_0, .int .u64 a0_1]] rfl (by (try simp only [List.map_toArray, List.map_cons, List.map_nil]); first | done | rfl | (simp only [List.length_drop, List.length_take]; rfl)) ?_; (with_reducible refine (wide_size.calls a0_0 a0_1 t223 t224 _ A2.out).mono ?_); rintro e w5 ⟨rfl, hb⟩; refine ⟨_, rfl, ?_⟩; replace BK222 := kb BK222 hb; replace HB := kB HB hb; (try clear hb); (try clear hb2); (try clear hk); (try clear hi)))
  go_loopg [3, 4, 5] k (fun kq v3 v4 v5 w' => ∃ (x3_1 : Int) (x4_1 : Int) (x5_1 : List Int), v3 = .int .u64 x3_1 ∧ v4 = .int .u64 x4_1 ∧ Aside0 (wide_Text.l0 kq x3_1 x4_1 x5_1 a0_0 a0_1 = some r) ∧ Aside0 (kq ≤ k) ∧ Aside0 (Kd.R (Kd.int .u8) 5 w' w.heap.size (fun _ => True) v5 x5_1) ∧ Aside0 (w'.heap[gb222]? = some (.cells #[.int .i64 a0_0, .int .u64 a0_1] 24 (0, 0))) ∧ Aside0 (Below w.heap.size w w'))
  case atStart => exact ⟨(t223), (t224), (([] : List Int)), (by first | rfl | (simp; done) | (simp [*]; done)), (by first | rfl | (simp; done) | (simp [*]; done)), H', ⟨Nat.le_refl _⟩, ⟨by first | exact Kd.R_nil _ _ _ _ _ | exact Kd.N_nil _ _ _ _ _ | exact Kd.V_nil _ _ _ _ _ | exact Kd.Q_nil _ _ _ _ _ | exact Kd.S_nil _ _ _ _ _⟩, ⟨kx BK222⟩, ⟨ky HB⟩⟩
  case round =>
    clear H'
    try clear p2; try clear c3; try clear c5; try clear hcz4_0; try clear hcz4_1; try clear hfz4_0; try clear hfz4_1
    obtain ⟨x3_1, x4_1, x5_1, rfl, rfl, HA, HK1, HO_5, BK222, HB⟩ := hrel
    cases gk with
    | zero => exact absurd HA.out (by simp [wide_Text.l0])
    | succ k1 =>
      have H := HA.out; clear HA
      simp only [wide_Text.l0] at H
      by_cases c6 : (x5_1.length : Int) = 0
      · rw [if_pos c6] at H
        have c6b0 : ((x5_1.length : Int) == 0) = true := beq_iff_eq.mpr c6
        have c6b1 : ((x5_1.length : Int) != 0) = false := bne_eq_false_iff_eq.mpr c6
        clear c6
        replace H := Option.bind_eq_some_iff.mp H
        obtain ⟨⟨t225, t226, t227, t228⟩, A70, H⟩ := H
        replace H : ((some (([(IntKind.u64.wrap (48 + t228)) % 256] : List Int) : List Int)).bind fun y229 => (if y229.length + x5_1.length < 140737488355328 then (wide_Text.l0 k1 t225 t226 (y229 ++ x5_1) a0_0 a0_1) else (none))) = some r := H
        have A7 := Aside0.mk A70
        clear A70
        obtain ⟨y229, hy229⟩ : ∃ y_ : List Int, y_ = (([(IntKind.u64.wrap (48 + t228)) % 256] : List Int)) := ⟨_, rfl⟩
        replace H : (if y229.length + x5_1.length < 140737488355328 then (wide_Text.l0 k1 t225 t226 (y229 ++ x5_1) a0_0 a0_1) else (none)) = some r := by first | (rw [hy229]; with_reducible exact H) | (have H2_ := (Option.bind_some _ _).symm.trans H; rw [hy229]; with_reducible exact H2_) | (have H2_ := (Option.bind_some _ _).symm.trans H; with_reducible exact H2_) | with_reducible exact H | (rw [hy229]; exact H) | exact H
        have Ny229 := Aside0.mk hy229
        clear hy229
        by_cases c8 : y229.length + x5_1.length < 140737488355328
        rotate_left
        · rw [if_neg c8] at H
          exact absurd H (by simp)
        rw [if_pos c8] at H
        have LMc8 := Aside0.mk c8
        clear c8
        obtain ⟨y232, hy232⟩ : ∃ y_ : List Int, y_ = (y229 ++ x5_1) := ⟨_, rfl⟩
        replace H : (wide_Text.l0 k1 t225 t226 y232 a0_0 a0_1) = some r := by first | (rw [hy232]; with_reducible exact H) | (have H2_ := (Option.bind_some _ _).symm.trans H; rw [hy232]; with_reducible exact H2_) | (have H2_ := (Option.bind_some _ _).symm.trans H; with_reducible exact H2_) | with_reducible exact H | (rw [hy232]; exact H) | exact H
        have Ny232 := Aside0.mk hy232
        clear hy232
        have H' := Aside0.mk H
        clear H
        obtain ⟨Ao9, co9, eo9⟩ := Kd.R_slice HO_5.out
        subst eo9
        go_wp2_with (first | ((with_reducible refine gate_callee (f := 64) rfl ?_); refine goesL_ (some 27) rfl rfl Try.func64 (by kernel_rfl) rfl #[.int .u64 x3_1, .int .u64 x4_1, .int .u64 0, .int .u64 10] rfl (by (try simp only [List.map_toArray, List.map_cons, List.map_nil]); first | done | rfl | (simp only [List.length_drop, List.length_take]; rfl)) ?_; (with_reducible refine (wide_divide.calls k1 x3_1 x4_1 0 10 t225 t226 t227 t228 _ A7.out).mono ?_); rintro e w' ⟨rfl, ⟨nd, rfl⟩⟩; refine ⟨_, rfl, ?_⟩) | ((with_reducible refine gate_dst (N := 35) rfl ?_); refine Kd.R_lit (Kd.int .u8) _ 5 ?hg (N := 35) ?hd (xs := ([(IntKind.u64.wrap (48 + t228)) % 256] : List Int)) (inner := [.int .u8 ((IntKind.u64.wrap (48 + t228)) % 256)]) (ok := fun _ => True) (okp := fun _ => True) ?hr ?hp (fun _ hk => hk) trivial (Below.refl _ _) (Nat.le_refl _) (by simp) ?_; (case hd => rfl); (case hg => rfl); (case hr => first | (go_simp; done) | (go_simp; rfl)); (case hp => exact (Reps.one (show Kd.M (Kd.int .u8) _ _ _ ((IntKind.u64.wrap (48 + t228)) % 256) [.int .u8 ((IntKind.u64.wrap (48 + t228)) % 256)] from rfl) (Reps.none _ _))); intro v230 w10 ho11 hb hg_ hnew_; clear hg_ hnew_; (first | rw [← Ny229.out] at ho11 | (simp only [Int.reduceToNat] at ho11; rw [← Ny229.out] at ho11)); have n0_ := Aside0.mk (Kd.R_elder' (kr HO_5) (Kd.R_base ho11) hb); have n1_ := Aside0.mk (Kd.R_lower (Kd.R_new' ho11 (Kd.R_lt (kr HO_5))) (below_size (ky HB))); have n2_ := kb BK222 hb; have n3_ := kB HB hb; clear HO_5; clear BK222; clear HB; have HO_5 := n0_; have HO231 := n1_; have BK222 := n2_; have HB := n3_; clear n0_ n1_ n2_ n3_; clear hb ho11) | ((with_reducible refine gate_builtin (b := .append) (xs := #[.tmp 35, .tmp 36]) rfl ?_); at_builtin; refine Kd.R_append_rows (Kd.int .u8) (w0 := w) w.heap.size rfl (.tmp 35) (.tmp 36) 105 5 (.int .u8 0) 1 rfl Try.underlying105 info5 rfl (by decide) (by omega) v230 y229 x5_1 _ _ _ (fun k_ => some k_ ≠ (.slice Ao9 x5_1.length co9 : Value).ownBlock) (fun _ => False) rfl rfl ?aO ?aR (fun _ _ h => h) (fun _ h => h.elim) ?aF ?aB ?aS ?aL ?_; (case aR => repeat (first | exact (Kd.R_reads' HO_5.out).2.2 | (with_reducible refine Kd.C_alloc ?_ _) | (with_reducible refine Kd.C_drewN ?_ _) | (with_reducible refine Kd.C_drew ?_))); (case aB => exact (ky HB)); (case aF => exact (fun k_ hk => Kd.fresh' (Kd.R_lt (kr HO_5)) k_ hk)); (case aO => exact (by (with_reducible repeat (first | apply Kd.R_alloc | apply Kd.R_drewN | apply Kd.R_drew)); exact Kd.R_mono HO231.out (fun _ hk => hk.2))); (case aS => exact (below_size (ky HB))); (case aL => have := LMc8.out; omega); intro v233 w12 ho hb hg hat; rw [← Ny232.out] at ho; have n0_ := Aside0.mk (Kd.R_after (ok := (fun _ => True)) (kr HO_5) hg hat); have n1_ := Aside0.mk (blk_grown (g := gb222) (o := .cells #[.int .i64 a0_0, .int .u64 a0_1] 24 (0, 0)) (kx BK222) hg (Kd.R_ne HO231.out BK222.out (by decide))); have n2_ := Aside0.mk (hb); have n3_ := Aside0.mk (ho); clear HO_5; clear BK222; clear HB; clear HO231; have HO_5 := n0_; have BK222 := n1_; have HB := n2_; have HO234 := n3_; clear n0_ n1_ n2_ n3_; clear ho hb hg hat))
        go_roundg k1
        case measure => have := HK1.out; omega
        case rel => exact ⟨(t225), (t226), (y232), (by first | rfl | (simp; done) | (simp [*]; done)), (by first | rfl | (simp; done) | (simp [*]; done)), H', ⟨by have := HK1.out; omega⟩, ⟨by (with_reducible repeat (first | apply Kd.R_alloc | apply Kd.R_drewN | apply Kd.R_drew)); exact Kd.R_mono HO234.out (fun _ hk => trivial)⟩, ⟨kx BK222⟩, ⟨ky HB⟩⟩
      rw [if_neg c6] at H
      have c6b0 : ((x5_1.length : Int) == 0) = false := beq_eq_false_iff_ne.mpr c6
      have c6b1 : ((x5_1.length : Int) != 0) = true := bne_iff_ne.mpr c6
      have c6b2 : ¬ (x5_1 = []) := fun h_ => c6 (by rw [h_]; rfl)
      by_cases c13 : (Go.bits .or .u64 x3_1 x4_1) = 0
      rotate_left
      · rw [if_neg c13] at H
        have c13b0 : ((Go.bits .or .u64 x3_1 x4_1) == 0) = false := beq_eq_false_iff_ne.mpr c13
        have c13b1 : ((Go.bits .or .u64 x3_1 x4_1) != 0) = true := bne_iff_ne.mpr c13
        replace H := Option.bind_eq_some_iff.mp H
        obtain ⟨⟨t241, t242, t243, t244⟩, A250, H⟩ := H
        replace H : ((some (([(IntKind.u64.wrap (48 + t244)) % 256] : List Int) : List Int)).bind fun y245 => (if y245.length + x5_1.length < 140737488355328 then (wide_Text.l0 k1 t241 t242 (y245 ++ x5_1) a0_0 a0_1) else (none))) = some r := H
        have A25 := Aside0.mk A250
        clear A250
        obtain ⟨y245, hy245⟩ : ∃ y_ : List Int, y_ = (([(IntKind.u64.wrap (48 + t244)) % 256] : List Int)) := ⟨_, rfl⟩
        replace H : (if y245.length + x5_1.length < 140737488355328 then (wide_Text.l0 k1 t241 t242 (y245 ++ x5_1) a0_0 a0_1) else (none)) = some r := by first | (rw [hy245]; with_reducible exact H) | (have H2_ := (Option.bind_some _ _).symm.trans H; rw [hy245]; with_reducible exact H2_) | (have H2_ := (Option.bind_some _ _).symm.trans H; with_reducible exact H2_) | with_reducible exact H | (rw [hy245]; exact H) | exact H
        have Ny245 := Aside0.mk hy245
        clear hy245
        by_cases c26 : y245.length + x5_1.length < 140737488355328
        rotate_left
        · rw [if_neg c26] at H
          exact absurd H (by simp)

        rw [if_pos c26] at H
        have LMc26 := Aside0.mk c26
        clear c26
        obtain ⟨y248, hy248⟩ : ∃ y_ : List Int, y_ = (y245 ++ x5_1) := ⟨_, rfl⟩
        replace H : (wide_Text.l0 k1 t241 t242 y248 a0_0 a0_1) = some r := by first | (rw [hy248]; with_reducible exact H) | (have H2_ := (Option.bind_some _ _).symm.trans H; rw [hy248]; with_reducible exact H2_) | (have H2_ := (Option.bind_some _ _).symm.trans H; with_reducible exact H2_) | with_reducible exact H | (rw [hy248]; exact H) | exact H
        have Ny248 := Aside0.mk hy248
        clear hy248
        have H' := Aside0.mk H
        clear H
        obtain ⟨Ao27, co27, eo27⟩ := Kd.R_slice HO_5.out
        subst eo27
        go_wp2_with (first | ((with_reducible refine gate_callee (f := 64) rfl ?_); refine goesL_ (some 27) rfl rfl Try.func64 (by kernel_rfl) rfl #[.int .u64 x3_1, .int .u64 x4_1, .int .u64 0, .int .u64 10] rfl (by (try simp only [List.map_toArray, List.map_cons, List.map_nil]); first | done | rfl | (simp only [List.length_drop, List.length_take]; rfl)) ?_; (with_reducible refine (wide_divide.calls k1 x3_1 x4_1 0 10 t241 t242 t243 t244 _ A25.out).mono ?_); rintro e w' ⟨rfl, ⟨nd, rfl⟩⟩; refine ⟨_, rfl, ?_⟩) | ((with_reducible refine gate_dst (N := 35) rfl ?_); refine Kd.R_lit (Kd.int .u8) _ 5 ?hg (N := 35) ?hd (xs := ([(IntKind.u64.wrap (48 + t244)) % 256] : List Int)) (inner := [.int .u8 ((IntKind.u64.wrap (48 + t244)) % 256)]) (ok := fun _ => True) (okp := fun _ => True) ?hr ?hp (fun _ hk => hk) trivial (Below.refl _ _) (Nat.le_refl _) (by simp) ?_; (case hd => rfl); (case hg => rfl); (case hr => first | (go_simp; done) | (go_simp; rfl)); (case hp => exact (Reps.one (show Kd.M (Kd.int .u8) _ _ _ ((IntKind.u64.wrap (48 + t244)) % 256) [.int .u8 ((IntKind.u64.wrap (48 + t244)) % 256)] from rfl) (Reps.none _ _))); intro v246 w28 ho29 hb hg_ hnew_; clear hg_ hnew_; (first | rw [← Ny245.out] at ho29 | (simp only [Int.reduceToNat] at ho29; rw [← Ny245.out] at ho29)); have n0_ := Aside0.mk (Kd.R_elder' (kr HO_5) (Kd.R_base ho29) hb); have n1_ := Aside0.mk (Kd.R_lower (Kd.R_new' ho29 (Kd.R_lt (kr HO_5))) (below_size (ky HB))); have n2_ := kb BK222 hb; have n3_ := kB HB hb; clear HO_5; clear BK222; clear HB; have HO_5 := n0_; have HO247 := n1_; have BK222 := n2_; have HB := n3_; clear n0_ n1_ n2_ n3_; clear hb ho29) | ((with_reducible refine gate_builtin (b := .append) (xs := #[.tmp 35, .tmp 36]) rfl ?_); at_builtin; refine Kd.R_append_rows (Kd.int .u8) (w0 := w) w.heap.size rfl (.tmp 35) (.tmp 36) 105 5 (.int .u8 0) 1 rfl Try.underlying105 info5 rfl (by decide) (by omega) v246 y245 x5_1 _ _ _ (fun k_ => some k_ ≠ (.slice Ao27 x5_1.length co27 : Value).ownBlock) (fun _ => False) rfl rfl ?aO ?aR (fun _ _ h => h) (fun _ h => h.elim) ?aF ?aB ?aS ?aL ?_; (case aR => repeat (first | exact (Kd.R_reads' HO_5.out).2.2 | (with_reducible refine Kd.C_alloc ?_ _) | (with_reducible refine Kd.C_drewN ?_ _) | (with_reducible refine Kd.C_drew ?_))); (case aB => exact (ky HB)); (case aF => exact (fun k_ hk => Kd.fresh' (Kd.R_lt (kr HO_5)) k_ hk)); (case aO => exact (by (with_reducible repeat (first | apply Kd.R_alloc | apply Kd.R_drewN | apply Kd.R_drew)); exact Kd.R_mono HO247.out (fun _ hk => hk.2))); (case aS => exact (below_size (ky HB))); (case aL => have := LMc26.out; omega); intro v249 w30 ho hb hg hat; rw [← Ny248.out] at ho; have n0_ := Aside0.mk (Kd.R_after (ok := (fun _ => True)) (kr HO_5) hg hat); have n1_ := Aside0.mk (blk_grown (g := gb222) (o := .cells #[.int .i64 a0_0, .int .u64 a0_1] 24 (0, 0)) (kx BK222) hg (Kd.R_ne HO247.out BK222.out (by decide))); have n2_ := Aside0.mk (hb); have n3_ := Aside0.mk (ho); clear HO_5; clear BK222; clear HB; clear HO247; have HO_5 := n0_; have BK222 := n1_; have HB := n2_; have HO250 := n3_; clear n0_ n1_ n2_ n3_; clear ho hb hg hat))
        go_roundg k1
        case measure => have := HK1.out; omega
        case rel => exact ⟨(t241), (t242), (y248), (by first | rfl | (simp; done) | (simp [*]; done)), (by first | rfl | (simp; done) | (simp [*]; done)), H', ⟨by have := HK1.out; omega⟩, ⟨by (with_reducible repeat (first | apply Kd.R_alloc | apply Kd.R_drewN | apply Kd.R_drew)); exact Kd.R_mono HO250.out (fun _ hk => trivial)⟩, ⟨kx BK222⟩, ⟨ky HB⟩⟩
      rw [if_pos c13] at H
      have c13b0 : ((Go.bits .or .u64 x3_1 x4_1) == 0) = true := beq_iff_eq.mpr c13
      have c13b1 : ((Go.bits .or .u64 x3_1 x4_1) != 0) = false := bne_eq_false_iff_eq.mpr c13
      clear c13
      by_cases c14 : a0_0 < 0
      rotate_left
      · rw [if_neg c14] at H
        have c14b0 : decide (a0_0 < 0) = false := decide_eq_false c14
        clear c14
        obtain rfl := Option.some.inj H
        obtain ⟨Ao22, co22, eo22⟩ := Kd.R_slice HO_5.out
        subst eo22
        have hcz23_0 : wr.cell? ⟨gb222, 0, none⟩ = some (.int .i64 a0_0) := kc BK222 0
        have hcz23_1 : wr.cell? ⟨gb222, 1, none⟩ = some (.int .u64 a0_1) := kc BK222 1
        have hfz23_0 := blk_frozen BK222.out 0
        have hfz23_1 := blk_frozen BK222.out 1
        have hcv24 := own_string (P := Try.prog) Try.underlying105 Try.underlying5 Try.underlying9 (Kd.own_of_R HO_5.out)
        go_wp2
        go_ret
        exact ⟨by first | rfl | (simp [errW_none, errW_some] <;> rfl) | (simp [*, errW_none, errW_some] <;> rfl), ky HB⟩
      rw [if_pos c14] at H
      have c14b0 : decide (a0_0 < 0) = true := decide_eq_true c14
      clear c14
      obtain ⟨y235, hy235⟩ : ∃ y_ : List Int, y_ = (([45] : List Int)) := ⟨_, rfl⟩
      replace H : (if y235.length + x5_1.length < 140737488355328 then (some (strOfNums (y235 ++ x5_1))) else (none)) = some r := by first | (rw [hy235]; with_reducible exact H) | (have H2_ := (Option.bind_some _ _).symm.trans H; rw [hy235]; with_reducible exact H2_) | (have H2_ := (Option.bind_some _ _).symm.trans H; with_reducible exact H2_) | with_reducible exact H | (rw [hy235]; exact H) | exact H
      have Ny235 := Aside0.mk hy235
      clear hy235
      by_cases c15 : y235.length + x5_1.length < 140737488355328
      rotate_left
      · rw [if_neg c15] at H
        exact absurd H (by simp)
      rw [if_pos c15] at H
      have LMc15 := Aside0.mk c15
      clear c15
      obtain ⟨y238, hy238⟩ : ∃ y_ : List Int, y_ = (y235 ++ x5_1) := ⟨_, rfl⟩
      replace H : (some (strOfNums y238)) = some r := by first | (rw [hy238]; with_reducible exact H) | (have H2_ := (Option.bind_some _ _).symm.trans H; rw [hy238]; with_reducible exact H2_) | (have H2_ := (Option.bind_some _ _).symm.trans H; with_reducible exact H2_) | with_reducible exact H | (rw [hy238]; exact H) | exact H
      have Ny238 := Aside0.mk hy238
      clear hy238
      obtain rfl := Option.some.inj H
      obtain ⟨Ao16, co16, eo16⟩ := Kd.R_slice HO_5.out
      subst eo16
      have hcz17_0 : wr.cell? ⟨gb222, 0, none⟩ = some (.int .i64 a0_0) := kc BK222 0
      have hcz17_1 : wr.cell? ⟨gb222, 1, none⟩ = some (.int .u64 a0_1) := kc BK222 1
      have hfz17_0 := blk_frozen BK222.out 0
      have hfz17_1 := blk_frozen BK222.out 1
      go_wp2_with (first | ((with_reducible refine gate_dst (N := 43) rfl ?_); refine Kd.R_lit (Kd.int .u8) _ 5 ?hg (N := 43) ?hd (xs := ([45] : List Int)) (inner := [.int .u8 45]) (ok := fun _ => True) (okp := fun _ => True) ?hr ?hp (fun _ hk => hk) trivial (Below.refl _ _) (Nat.le_refl _) (by simp) ?_; (case hd => rfl); (case hg => rfl); (case hr => first | (go_simp; done) | (go_simp; rfl)); (case hp => exact (Reps.one (show Kd.M (Kd.int .u8) _ _ _ 45 [.int .u8 45] from rfl) (Reps.none _ _))); intro v236 w18 ho19 hb hg_ hnew_; clear hg_ hnew_; (first | rw [← Ny235.out] at ho19 | (simp only [Int.reduceToNat] at ho19; rw [← Ny235.out] at ho19)); have n0_ := Aside0.mk (Kd.R_elder' (kr HO_5) (Kd.R_base ho19) hb); have n1_ := Aside0.mk (Kd.R_lower (Kd.R_new' ho19 (Kd.R_lt (kr HO_5))) (below_size (ky HB))); have n2_ := kb BK222 hb; have n3_ := kB HB hb; clear HO_5; clear BK222; clear HB; have HO_5 := n0_; have HO237 := n1_; have BK222 := n2_; have HB := n3_; clear n0_ n1_ n2_ n3_; clear hb ho19) | ((with_reducible refine gate_builtin (b := .append) (xs := #[.tmp 43, .tmp 44]) rfl ?_); at_builtin; refine Kd.R_append_rows (Kd.int .u8) (w0 := w) w.heap.size rfl (.tmp 43) (.tmp 44) 105 5 (.int .u8 0) 1 rfl Try.underlying105 info5 rfl (by decide) (by omega) v236 y235 x5_1 _ _ _ (fun k_ => some k_ ≠ (.slice Ao16 x5_1.length co16 : Value).ownBlock) (fun _ => False) rfl rfl ?aO ?aR (fun _ _ h => h) (fun _ h => h.elim) ?aF ?aB ?aS ?aL ?_; (case aR => repeat (first | exact (Kd.R_reads' HO_5.out).2.2 | (with_reducible refine Kd.C_alloc ?_ _) | (with_reducible refine Kd.C_drewN ?_ _) | (with_reducible refine Kd.C_drew ?_))); (case aB => exact (ky HB)); (case aF => exact (fun k_ hk => Kd.fresh' (Kd.R_lt (kr HO_5)) k_ hk)); (case aO => exact (by (with_reducible repeat (first | apply Kd.R_alloc | apply Kd.R_drewN | apply Kd.R_drew)); exact Kd.R_mono HO237.out (fun _ hk => hk.2))); (case aS => exact (below_size (ky HB))); (case aL => have := LMc15.out; omega); intro v239 w20 ho hb hg hat; rw [← Ny238.out] at ho; have n0_ := Aside0.mk (Kd.R_after (ok := (fun _ => True)) (kr HO_5) hg hat); have n1_ := Aside0.mk (blk_grown (g := gb222) (o := .cells #[.int .i64 a0_0, .int .u64 a0_1] 24 (0, 0)) (kx BK222) hg (Kd.R_ne HO237.out BK222.out (by decide))); have n2_ := Aside0.mk (hb); have n3_ := Aside0.mk (ho); clear HO_5; clear BK222; clear HB; clear HO237; have HO_5 := n0_; have BK222 := n1_; have HB := n2_; have HO240 := n3_; clear n0_ n1_ n2_ n3_; clear ho hb hg hat; have hcv21 := own_string (P := Try.prog) Try.underlying105 Try.underlying5 Try.underlying9 (Kd.own_of_R HO240.out)))
      go_ret
      exact ⟨by first | rfl | (simp [errW_none, errW_some] <;> rfl) | (simp [*, errW_none, errW_some] <;> rfl), ky HB⟩
/-! ### cobweblaw01_alive: function 16 -/
def cobweblaw01_alive.f (k : Nat)  : Option (Bool) := (wide_Of.f (-7)).bind fun bt251 => ((wide_Of.f 2).bind fun bt253 => ((wide_Div.f k bt251.1 bt251.2 bt253.1 bt253.2).bind fun bt255 => ((wide_Of.f 1099511627776).bind fun bt262 => ((wide_Of.f (-1099511627776)).bind fun bt264 => ((wide_Mul.f k bt262.1 bt262.2 bt264.1 bt264.2).bind fun bt266 => ((wide_Add.f 9223372036854775807 0 1 0).bind fun bt270 => ((wide_Of.f (-5)).bind fun bt274 => ((wide_Small.f bt274.1 bt274.2).bind fun bt276 => ((wide_Of.f 3).bind fun bt278 => ((wide_Shl.f k bt278.1 bt278.2 2).bind fun bt280 => (if bt255.2.2.2.2 = true then ((wide_Of.f (-4)).bind fun bt284 => (if (bt255.1 == bt284.1 && (bt255.2.1 == bt284.2)) = true then ((wide_Of.f 1).bind fun bt286 => (if (bt255.2.2.1 == bt286.1 && (bt255.2.2.2.1 == bt286.2)) = true then (if bt266.2.2 = true then ((wide_Text.f k bt266.1 bt266.2.1).bind fun t288 => (if t288.toList = ([45, 49, 50, 48, 56, 57, 50, 53, 56, 49, 57, 54, 49, 52, 54, 50, 57, 49, 55, 52, 55, 48, 54, 49, 55, 54] : List UInt8) then (if bt270.2.2 = true then (none) else (if bt276.1 = (-5) then (if bt276.2 = true then (if bt280.2.2 = true then ((wide_Of.f 12).bind fun bt289 => (if (bt280.1 == bt289.1 && (bt280.2.1 == bt289.2)) = true then ((wide_Cmp.f k bt266.1 bt266.2.1 bt255.1 bt255.2.1).bind fun t291 => (if t291 = (-1) then ((wide_Sign.f bt266.1 bt266.2.1).bind fun t292 => (if t292 = (-1) then ((wide_Times.f k 3 (-4)).bind fun bt293 => ((wide_Of.f (-12)).bind fun bt295 => (some (bt293.1 == bt295.1 && (bt293.2 == bt295.2))))) else (none))) else (none))) else (none))) else (none)) else (none)) else (none))) else (none))) else (none)) else (none))) else (none))) else (none))))))))))))
theorem cobweblaw01_alive.mono : ∀ k, LeO (cobweblaw01_alive.f k ) (cobweblaw01_alive.f (k + 1) ) := by
  intro  k
  unfold cobweblaw01_alive.f
  repeat' first
      | (with_reducible exact wide_Cmp.mono _ _ _ _ _)
      | (with_reducible exact wide_Div.mono _ _ _ _ _)
      | (with_reducible exact wide_Mul.mono _ _ _ _ _)
      | (with_reducible exact wide_Shl.mono _ _ _ _)
      | (with_reducible exact wide_Text.mono _ _ _)
      | (with_reducible exact wide_Times.mono _ _ _)
      | (with_reducible exact LeO.refl _)
      | (with_reducible exact LeO.none _)
      | (with_reducible refine LeO.ite ?_ ?_)
      | (with_reducible refine LeO.bind ?_ (fun _ => ?_))
      | exact wide_Cmp.mono _ _ _ _ _
      | exact wide_Div.mono _ _ _ _ _
      | exact wide_Mul.mono _ _ _ _ _
      | exact wide_Shl.mono _ _ _ _
      | exact wide_Text.mono _ _ _
      | exact wide_Times.mono _ _ _
      | exact LeO.none _
      | refine LeO.ite ?_ ?_
      | refine LeO.bind ?_ (fun _ => ?_)
def cobweblaw01_alive.T6 : Bool × List (List Nat × List Nat) := (true, [([], []), ([0], [0]), ([1], [1]), ([1, 1], [1]), ([2, 3, 1], [1, 2, 3]), ([1, 4], [1, 4]), ([5, 3], [5]), ([6], [6]), ([6, 6], [6]), ([7, 8, 6], [6, 7, 8]), ([6, 9], [6, 9]), ([10, 8], [10]), ([11], [11]), ([11, 12], [11, 12]), ([13, 11], [13]), ([14], [14]), ([15, 14, 14], [14, 15]), ([16, 14], [14, 16]), ([14, 17], [14, 17]), ([18, 16], [18]), ([19], [19]), ([20, 19], [19, 20]), ([19, 21], [19, 21]), ([22, 19], [22]), ([23], [23]), ([24, 23], [23, 24]), ([23, 25], [23, 25]), ([26, 23], [26]), ([27], [27]), ([27, 28], [27, 28]), ([29, 27], [29]), ([30], [30]), ([30, 31], [30, 31]), ([32, 30], [32]), ([33], [33]), ([33, 33], [33]), ([34, 35, 33], [33, 34, 35]), ([33, 36], [33, 36]), ([37, 35], [37]), ([38], [38]), ([38], [38]), ([39, 40, 38, 38], [38, 39, 40]), ([41, 38], [38, 41]), ([38, 42], [38, 42]), ([43, 41], [43]), ([44], [44]), ([45, 44, 44], [44, 45]), ([46, 44], [44, 46]), ([44, 47], [44, 47]), ([48, 46], [48]), ([49, 49], [49]), ([50, 49], [49]), ([50, 51, 49], [49, 50, 51]), ([49, 52], [49, 52]), ([53, 51, 0, 1, 2, 3, 4, 5, 6, 7, 8, 9, 10, 11, 12, 13, 14, 15, 16, 17, 18, 19, 20, 21, 22, 23, 24, 25, 26, 27, 28, 29, 30, 31, 32, 33, 34, 35, 36, 37, 38, 39, 40, 41, 42, 43, 44, 45, 46, 47, 48, 49, 50, 51, 52, 53], [53])])
def cobweblaw01_alive.B6 : List Nat := [0, 1, 3, 3, 15, 31, 63, 127, 127, 511, 1023, 2047, 4095, 8191, 16383, 32767, 65535, 131071, 262143, 524287, 1048575, 2097151, 4194303, 8388607, 16777215, 33554431, 67108863, 134217727, 268435455, 536870911, 1073741823, 2147483647, 4294967295, 8589934591, 17179869183, 17179869183, 68719476735, 137438953471, 274877906943, 549755813887, 549755813887, 2199023255551, 4398046511103, 8796093022207, 17592186044415, 35184372088831, 70368744177663, 140737488355327, 281474976710655, 562949953421311, 1125899906842623, 2251799813685247, 4503599627370495, 9007199254740991, 18014398509481983]
theorem cobweblaw01_alive.tab6 : rtab .any (opsOf Try.f16 6) = cobweblaw01_alive.T6 := by kernel_rfl
theorem cobweblaw01_alive.bits6 : waitsOk cobweblaw01_alive.T6.2 cobweblaw01_alive.B6 = true := by kernel_rfl
set_option maxHeartbeats 8000000 in
set_option maxRecDepth 100000 in
theorem cobweblaw01_alive.calls (k : Nat)  (r : Bool) (w : World) (h : cobweblaw01_alive.f k  = some r) :
    Calls Try.prog 16 #[] w fun e w' => e = .returned (.bool r) ∧ Below w.heap.size w w' := by
  have hu24 := Try.underlying24
  have HB := Aside0.mk (Below.refl w.heap.size w)
  have H : ((wide_Of.f (-7)).bind fun bt251 => ((wide_Of.f 2).bind fun bt253 => ((wide_Div.f k bt251.1 bt251.2 bt253.1 bt253.2).bind fun bt255 => ((wide_Of.f 1099511627776).bind fun bt262 => ((wide_Of.f (-1099511627776)).bind fun bt264 => ((wide_Mul.f k bt262.1 bt262.2 bt264.1 bt264.2).bind fun bt266 => ((wide_Add.f 9223372036854775807 0 1 0).bind fun bt270 => ((wide_Of.f (-5)).bind fun bt274 => ((wide_Small.f bt274.1 bt274.2).bind fun bt276 => ((wide_Of.f 3).bind fun bt278 => ((wide_Shl.f k bt278.1 bt278.2 2).bind fun bt280 => (if bt255.2.2.2.2 = true then ((wide_Of.f (-4)).bind fun bt284 => (if (bt255.1 == bt284.1 && (bt255.2.1 == bt284.2)) = true then ((wide_Of.f 1).bind fun bt286 => (if (bt255.2.2.1 == bt286.1 && (bt255.2.2.2.1 == bt286.2)) = true then (if bt266.2.2 = true then ((wide_Text.f k bt266.1 bt266.2.1).bind fun t288 => (if t288.toList = ([45, 49, 50, 48, 56, 57, 50, 53, 56, 49, 57, 54, 49, 52, 54, 50, 57, 49, 55, 52, 55, 48, 54, 49, 55, 54] : List UInt8) then (if bt270.2.2 = true then (none) else (if bt276.1 = (-5) then (if bt276.2 = true then (if bt280.2.2 = true then ((wide_Of.f 12).bind fun bt289 => (if (bt280.1 == bt289.1 && (bt280.2.1 == bt289.2)) = true then ((wide_Cmp.f k bt266.1 bt266.2.1 bt255.1 bt255.2.1).bind fun t291 => (if t291 = (-1) then ((wide_Sign.f bt266.1 bt266.2.1).bind fun t292 => (if t292 = (-1) then ((wide_Times.f k 3 (-4)).bind fun bt293 => ((wide_Of.f (-12)).bind fun bt295 => (some (bt293.1 == bt295.1 && (bt293.2 == bt295.2))))) else (none))) else (none))) else (none))) else (none)) else (none)) else (none))) else (none))) else (none)) else (none))) else (none))) else (none))))))))))))) = some r := h
  clear h
  replace H := Option.bind_eq_some_iff.mp H
  obtain ⟨⟨t251, t252⟩, A10, H⟩ := H
  replace H : ((wide_Of.f 2).bind fun bt253 => ((wide_Div.f k t251 t252 bt253.1 bt253.2).bind fun bt255 => ((wide_Of.f 1099511627776).bind fun bt262 => ((wide_Of.f (-1099511627776)).bind fun bt264 => ((wide_Mul.f k bt262.1 bt262.2 bt264.1 bt264.2).bind fun bt266 => ((wide_Add.f 9223372036854775807 0 1 0).bind fun bt270 => ((wide_Of.f (-5)).bind fun bt274 => ((wide_Small.f bt274.1 bt274.2).bind fun bt276 => ((wide_Of.f 3).bind fun bt278 => ((wide_Shl.f k bt278.1 bt278.2 2).bind fun bt280 => (if bt255.2.2.2.2 = true then ((wide_Of.f (-4)).bind fun bt284 => (if (bt255.1 == bt284.1 && (bt255.2.1 == bt284.2)) = true then ((wide_Of.f 1).bind fun bt286 => (if (bt255.2.2.1 == bt286.1 && (bt255.2.2.2.1 == bt286.2)) = true then (if bt266.2.2 = true then ((wide_Text.f k bt266.1 bt266.2.1).bind fun t288 => (if t288.toList = ([45, 49, 50, 48, 56, 57, 50, 53, 56, 49, 57, 54, 49, 52, 54, 50, 57, 49, 55, 52, 55, 48, 54, 49, 55, 54] : List UInt8) then (if bt270.2.2 = true then (none) else (if bt276.1 = (-5) then (if bt276.2 = true then (if bt280.2.2 = true then ((wide_Of.f 12).bind fun bt289 => (if (bt280.1 == bt289.1 && (bt280.2.1 == bt289.2)) = true then ((wide_Cmp.f k bt266.1 bt266.2.1 bt255.1 bt255.2.1).bind fun t291 => (if t291 = (-1) then ((wide_Sign.f bt266.1 bt266.2.1).bind fun t292 => (if t292 = (-1) then ((wide_Times.f k 3 (-4)).bind fun bt293 => ((wide_Of.f (-12)).bind fun bt295 => (some (bt293.1 == bt295.1 && (bt293.2 == bt295.2))))) else (none))) else (none))) else (none))) else (none)) else (none)) else (none))) else (none))) else (none)) else (none))) else (none))) else (none)))))))))))) = some r := H
  have A1 := Aside0.mk A10
  clear A10
  replace H := Option.bind_eq_some_iff.mp H
  obtain ⟨⟨t253, t254⟩, A20, H⟩ := H
  replace H : ((wide_Div.f k t251 t252 t253 t254).bind fun bt255 => ((wide_Of.f 1099511627776).bind fun bt262 => ((wide_Of.f (-1099511627776)).bind fun bt264 => ((wide_Mul.f k bt262.1 bt262.2 bt264.1 bt264.2).bind fun bt266 => ((wide_Add.f 9223372036854775807 0 1 0).bind fun bt270 => ((wide_Of.f (-5)).bind fun bt274 => ((wide_Small.f bt274.1 bt274.2).bind fun bt276 => ((wide_Of.f 3).bind fun bt278 => ((wide_Shl.f k bt278.1 bt278.2 2).bind fun bt280 => (if bt255.2.2.2.2 = true then ((wide_Of.f (-4)).bind fun bt284 => (if (bt255.1 == bt284.1 && (bt255.2.1 == bt284.2)) = true then ((wide_Of.f 1).bind fun bt286 => (if (bt255.2.2.1 == bt286.1 && (bt255.2.2.2.1 == bt286.2)) = true then (if bt266.2.2 = true then ((wide_Text.f k bt266.1 bt266.2.1).bind fun t288 => (if t288.toList = ([45, 49, 50, 48, 56, 57, 50, 53, 56, 49, 57, 54, 49, 52, 54, 50, 57, 49, 55, 52, 55, 48, 54, 49, 55, 54] : List UInt8) then (if bt270.2.2 = true then (none) else (if bt276.1 = (-5) then (if bt276.2 = true then (if bt280.2.2 = true then ((wide_Of.f 12).bind fun bt289 => (if (bt280.1 == bt289.1 && (bt280.2.1 == bt289.2)) = true then ((wide_Cmp.f k bt266.1 bt266.2.1 bt255.1 bt255.2.1).bind fun t291 => (if t291 = (-1) then ((wide_Sign.f bt266.1 bt266.2.1).bind fun t292 => (if t292 = (-1) then ((wide_Times.f k 3 (-4)).bind fun bt293 => ((wide_Of.f (-12)).bind fun bt295 => (some (bt293.1 == bt295.1 && (bt293.2 == bt295.2))))) else (none))) else (none))) else (none))) else (none)) else (none)) else (none))) else (none))) else (none)) else (none))) else (none))) else (none))))))))))) = some r := H
  have A2 := Aside0.mk A20
  clear A20
  replace H := Option.bind_eq_some_iff.mp H
  obtain ⟨⟨t255, t256, t257, t258, t259⟩, A30, H⟩ := H
  replace H : ((wide_Of.f 1099511627776).bind fun bt262 => ((wide_Of.f (-1099511627776)).bind fun bt264 => ((wide_Mul.f k bt262.1 bt262.2 bt264.1 bt264.2).bind fun bt266 => ((wide_Add.f 9223372036854775807 0 1 0).bind fun bt270 => ((wide_Of.f (-5)).bind fun bt274 => ((wide_Small.f bt274.1 bt274.2).bind fun bt276 => ((wide_Of.f 3).bind fun bt278 => ((wide_Shl.f k bt278.1 bt278.2 2).bind fun bt280 => (if t259 = true then ((wide_Of.f (-4)).bind fun bt284 => (if (t255 == bt284.1 && (t256 == bt284.2)) = true then ((wide_Of.f 1).bind fun bt286 => (if (t257 == bt286.1 && (t258 == bt286.2)) = true then (if bt266.2.2 = true then ((wide_Text.f k bt266.1 bt266.2.1).bind fun t288 => (if t288.toList = ([45, 49, 50, 48, 56, 57, 50, 53, 56, 49, 57, 54, 49, 52, 54, 50, 57, 49, 55, 52, 55, 48, 54, 49, 55, 54] : List UInt8) then (if bt270.2.2 = true then (none) else (if bt276.1 = (-5) then (if bt276.2 = true then (if bt280.2.2 = true then ((wide_Of.f 12).bind fun bt289 => (if (bt280.1 == bt289.1 && (bt280.2.1 == bt289.2)) = true then ((wide_Cmp.f k bt266.1 bt266.2.1 t255 t256).bind fun t291 => (if t291 = (-1) then ((wide_Sign.f bt266.1 bt266.2.1).bind fun t292 => (if t292 = (-1) then ((wide_Times.f k 3 (-4)).bind fun bt293 => ((wide_Of.f (-12)).bind fun bt295 => (some (bt293.1 == bt295.1 && (bt293.2 == bt295.2))))) else (none))) else (none))) else (none))) else (none)) else (none)) else (none))) else (none))) else (none)) else (none))) else (none))) else (none)))))))))) = some r := H
  have A3 := Aside0.mk A30
  clear A30
  replace H := Option.bind_eq_some_iff.mp H
  obtain ⟨⟨t262, t263⟩, A40, H⟩ := H
  replace H : ((wide_Of.f (-1099511627776)).bind fun bt264 => ((wide_Mul.f k t262 t263 bt264.1 bt264.2).bind fun bt266 => ((wide_Add.f 9223372036854775807 0 1 0).bind fun bt270 => ((wide_Of.f (-5)).bind fun bt274 => ((wide_Small.f bt274.1 bt274.2).bind fun bt276 => ((wide_Of.f 3).bind fun bt278 => ((wide_Shl.f k bt278.1 bt278.2 2).bind fun bt280 => (if t259 = true then ((wide_Of.f (-4)).bind fun bt284 => (if (t255 == bt284.1 && (t256 == bt284.2)) = true then ((wide_Of.f 1).bind fun bt286 => (if (t257 == bt286.1 && (t258 == bt286.2)) = true then (if bt266.2.2 = true then ((wide_Text.f k bt266.1 bt266.2.1).bind fun t288 => (if t288.toList = ([45, 49, 50, 48, 56, 57, 50, 53, 56, 49, 57, 54, 49, 52, 54, 50, 57, 49, 55, 52, 55, 48, 54, 49, 55, 54] : List UInt8) then (if bt270.2.2 = true then (none) else (if bt276.1 = (-5) then (if bt276.2 = true then (if bt280.2.2 = true then ((wide_Of.f 12).bind fun bt289 => (if (bt280.1 == bt289.1 && (bt280.2.1 == bt289.2)) = true then ((wide_Cmp.f k bt266.1 bt266.2.1 t255 t256).bind fun t291 => (if t291 = (-1) then ((wide_Sign.f bt266.1 bt266.2.1).bind fun t292 => (if t292 = (-1) then ((wide_Times.f k 3 (-4)).bind fun bt293 => ((wide_Of.f (-12)).bind fun bt295 => (some (bt293.1 == bt295.1 && (bt293.2 == bt295.2))))) else (none))) else (none))) else (none))) else (none)) else (none)) else (none))) else (none))) else (none)) else (none))) else (none))) else (none))))))))) = some r := H
  have A4 := Aside0.mk A40
  clear A40
  replace H := Option.bind_eq_some_iff.mp H
  obtain ⟨⟨t264, t265⟩, A50, H⟩ := H
  replace H : ((wide_Mul.f k t262 t263 t264 t265).bind fun bt266 => ((wide_Add.f 9223372036854775807 0 1 0).bind fun bt270 => ((wide_Of.f (-5)).bind fun bt274 => ((wide_Small.f bt274.1 bt274.2).bind fun bt276 => ((wide_Of.f 3).bind fun bt278 => ((wide_Shl.f k bt278.1 bt278.2 2).bind fun bt280 => (if t259 = true then ((wide_Of.f (-4)).bind fun bt284 => (if (t255 == bt284.1 && (t256 == bt284.2)) = true then ((wide_Of.f 1).bind fun bt286 => (if (t257 == bt286.1 && (t258 == bt286.2)) = true then (if bt266.2.2 = true then ((wide_Text.f k bt266.1 bt266.2.1).bind fun t288 => (if t288.toList = ([45, 49, 50, 48, 56, 57, 50, 53, 56, 49, 57, 54, 49, 52, 54, 50, 57, 49, 55, 52, 55, 48, 54, 49, 55, 54] : List UInt8) then (if bt270.2.2 = true then (none) else (if bt276.1 = (-5) then (if bt276.2 = true then (if bt280.2.2 = true then ((wide_Of.f 12).bind fun bt289 => (if (bt280.1 == bt289.1 && (bt280.2.1 == bt289.2)) = true then ((wide_Cmp.f k bt266.1 bt266.2.1 t255 t256).bind fun t291 => (if t291 = (-1) then ((wide_Sign.f bt266.1 bt266.2.1).bind fun t292 => (if t292 = (-1) then ((wide_Times.f k 3 (-4)).bind fun bt293 => ((wide_Of.f (-12)).bind fun bt295 => (some (bt293.1 == bt295.1 && (bt293.2 == bt295.2))))) else (none))) else (none))) else (none))) else (none)) else (none)) else (none))) else (none))) else (none)) else (none))) else (none))) else (none)))))))) = some r := H
  have A5 := Aside0.mk A50
  clear A50
  replace H := Option.bind_eq_some_iff.mp H
  obtain ⟨⟨t266, t267, t268⟩, A60, H⟩ := H
  replace H : ((wide_Add.f 9223372036854775807 0 1 0).bind fun bt270 => ((wide_Of.f (-5)).bind fun bt274 => ((wide_Small.f bt274.1 bt274.2).bind fun bt276 => ((wide_Of.f 3).bind fun bt278 => ((wide_Shl.f k bt278.1 bt278.2 2).bind fun bt280 => (if t259 = true then ((wide_Of.f (-4)).bind fun bt284 => (if (t255 == bt284.1 && (t256 == bt284.2)) = true then ((wide_Of.f 1).bind fun bt286 => (if (t257 == bt286.1 && (t258 == bt286.2)) = true then (if t268 = true then ((wide_Text.f k t266 t267).bind fun t288 => (if t288.toList = ([45, 49, 50, 48, 56, 57, 50, 53, 56, 49, 57, 54, 49, 52, 54, 50, 57, 49, 55, 52, 55, 48, 54, 49, 55, 54] : List UInt8) then (if bt270.2.2 = true then (none) else (if bt276.1 = (-5) then (if bt276.2 = true then (if bt280.2.2 = true then ((wide_Of.f 12).bind fun bt289 => (if (bt280.1 == bt289.1 && (bt280.2.1 == bt289.2)) = true then ((wide_Cmp.f k t266 t267 t255 t256).bind fun t291 => (if t291 = (-1) then ((wide_Sign.f t266 t267).bind fun t292 => (if t292 = (-1) then ((wide_Times.f k 3 (-4)).bind fun bt293 => ((wide_Of.f (-12)).bind fun bt295 => (some (bt293.1 == bt295.1 && (bt293.2 == bt295.2))))) else (none))) else (none))) else (none))) else (none)) else (none)) else (none))) else (none))) else (none)) else (none))) else (none))) else (none))))))) = some r := H
  have A6 := Aside0.mk A60
  clear A60
  replace H := Option.bind_eq_some_iff.mp H
  obtain ⟨⟨t270, t271, t272⟩, A70, H⟩ := H
  replace H : ((wide_Of.f (-5)).bind fun bt274 => ((wide_Small.f bt274.1 bt274.2).bind fun bt276 => ((wide_Of.f 3).bind fun bt278 => ((wide_Shl.f k bt278.1 bt278.2 2).bind fun bt280 => (if t259 = true then ((wide_Of.f (-4)).bind fun bt284 => (if (t255 == bt284.1 && (t256 == bt284.2)) = true then ((wide_Of.f 1).bind fun bt286 => (if (t257 == bt286.1 && (t258 == bt286.2)) = true then (if t268 = true then ((wide_Text.f k t266 t267).bind fun t288 => (if t288.toList = ([45, 49, 50, 48, 56, 57, 50, 53, 56, 49, 57, 54, 49, 52, 54, 50, 57, 49, 55, 52, 55, 48, 54, 49, 55, 54] : List UInt8) then (if t272 = true then (none) else (if bt276.1 = (-5) then (if bt276.2 = true then (if bt280.2.2 = true then ((wide_Of.f 12).bind fun bt289 => (if (bt280.1 == bt289.1 && (bt280.2.1 == bt289.2)) = true then ((wide_Cmp.f k t266 t267 t255 t256).bind fun t291 => (if t291 = (-1) then ((wide_Sign.f t266 t267).bind fun t292 => (if t292 = (-1) then ((wide_Times.f k 3 (-4)).bind fun bt293 => ((wide_Of.f (-12)).bind fun bt295 => (some (bt293.1 == bt295.1 && (bt293.2 == bt295.2))))) else (none))) else (none))) else (none))) else (none)) else (none)) else (none))) else (none))) else (none)) else (none))) else (none))) else (none)))))) = some r := H
  have A7 := Aside0.mk A70
  clear A70
  replace H := Option.bind_eq_some_iff.mp H
  obtain ⟨⟨t274, t275⟩, A80, H⟩ := H
  replace H : ((wide_Small.f t274 t275).bind fun bt276 => ((wide_Of.f 3).bind fun bt278 => ((wide_Shl.f k bt278.1 bt278.2 2).bind fun bt280 => (if t259 = true then ((wide_Of.f (-4)).bind fun bt284 => (if (t255 == bt284.1 && (t256 == bt284.2)) = true then ((wide_Of.f 1).bind fun bt286 => (if (t257 == bt286.1 && (t258 == bt286.2)) = true then (if t268 = true then ((wide_Text.f k t266 t267).bind fun t288 => (if t288.toList = ([45, 49, 50, 48, 56, 57, 50, 53, 56, 49, 57, 54, 49, 52, 54, 50, 57, 49, 55, 52, 55, 48, 54, 49, 55, 54] : List UInt8) then (if t272 = true then (none) else (if bt276.1 = (-5) then (if bt276.2 = true then (if bt280.2.2 = true then ((wide_Of.f 12).bind fun bt289 => (if (bt280.1 == bt289.1 && (bt280.2.1 == bt289.2)) = true then ((wide_Cmp.f k t266 t267 t255 t256).bind fun t291 => (if t291 = (-1) then ((wide_Sign.f t266 t267).bind fun t292 => (if t292 = (-1) then ((wide_Times.f k 3 (-4)).bind fun bt293 => ((wide_Of.f (-12)).bind fun bt295 => (some (bt293.1 == bt295.1 && (bt293.2 == bt295.2))))) else (none))) else (none))) else (none))) else (none)) else (none)) else (none))) else (none))) else (none)) else (none))) else (none))) else (none))))) = some r := H
  have A8 := Aside0.mk A80
  clear A80
  replace H := Option.bind_eq_some_iff.mp H
  obtain ⟨⟨t276, t277⟩, A90, H⟩ := H
  replace H : ((wide_Of.f 3).bind fun bt278 => ((wide_Shl.f k bt278.1 bt278.2 2).bind fun bt280 => (if t259 = true then ((wide_Of.f (-4)).bind fun bt284 => (if (t255 == bt284.1 && (t256 == bt284.2)) = true then ((wide_Of.f 1).bind fun bt286 => (if (t257 == bt286.1 && (t258 == bt286.2)) = true then (if t268 = true then ((wide_Text.f k t266 t267).bind fun t288 => (if t288.toList = ([45, 49, 50, 48, 56, 57, 50, 53, 56, 49, 57, 54, 49, 52, 54, 50, 57, 49, 55, 52, 55, 48, 54, 49, 55, 54] : List UInt8) then (if t272 = true then (none) else (if t276 = (-5) then (if t277 = true then (if bt280.2.2 = true then ((wide_Of.f 12).bind fun bt289 => (if (bt280.1 == bt289.1 && (bt280.2.1 == bt289.2)) = true then ((wide_Cmp.f k t266 t267 t255 t256).bind fun t291 => (if t291 = (-1) then ((wide_Sign.f t266 t267).bind fun t292 => (if t292 = (-1) then ((wide_Times.f k 3 (-4)).bind fun bt293 => ((wide_Of.f (-12)).bind fun bt295 => (some (bt293.1 == bt295.1 && (bt293.2 == bt295.2))))) else (none))) else (none))) else (none))) else (none)) else (none)) else (none))) else (none))) else (none)) else (none))) else (none))) else (none)))) = some r := H
  have A9 := Aside0.mk A90
  clear A90
  replace H := Option.bind_eq_some_iff.mp H
  obtain ⟨⟨t278, t279⟩, A100, H⟩ := H
  replace H : ((wide_Shl.f k t278 t279 2).bind fun bt280 => (if t259 = true then ((wide_Of.f (-4)).bind fun bt284 => (if (t255 == bt284.1 && (t256 == bt284.2)) = true then ((wide_Of.f 1).bind fun bt286 => (if (t257 == bt286.1 && (t258 == bt286.2)) = true then (if t268 = true then ((wide_Text.f k t266 t267).bind fun t288 => (if t288.toList = ([45, 49, 50, 48, 56, 57, 50, 53, 56, 49, 57, 54, 49, 52, 54, 50, 57, 49, 55, 52, 55, 48, 54, 49, 55, 54] : List UInt8) then (if t272 = true then (none) else (if t276 = (-5) then (if t277 = true then (if bt280.2.2 = true then ((wide_Of.f 12).bind fun bt289 => (if (bt280.1 == bt289.1 && (bt280.2.1 == bt289.2)) = true then ((wide_Cmp.f k t266 t267 t255 t256).bind fun t291 => (if t291 = (-1) then ((wide_Sign.f t266 t267).bind fun t292 => (if t292 = (-1) then ((wide_Times.f k 3 (-4)).bind fun bt293 => ((wide_Of.f (-12)).bind fun bt295 => (some (bt293.1 == bt295.1 && (bt293.2 == bt295.2))))) else (none))) else (none))) else (none))) else (none)) else (none)) else (none))) else (none))) else (none)) else (none))) else (none))) else (none))) = some r := H
  have A10 := Aside0.mk A100
  clear A100
  replace H := Option.bind_eq_some_iff.mp H
  obtain ⟨⟨t280, t281, t282⟩, A110, H⟩ := H
  replace H : (if t259 = true then ((wide_Of.f (-4)).bind fun bt284 => (if (t255 == bt284.1 && (t256 == bt284.2)) = true then ((wide_Of.f 1).bind fun bt286 => (if (t257 == bt286.1 && (t258 == bt286.2)) = true then (if t268 = true then ((wide_Text.f k t266 t267).bind fun t288 => (if t288.toList = ([45, 49, 50, 48, 56, 57, 50, 53, 56, 49, 57, 54, 49, 52, 54, 50, 57, 49, 55, 52, 55, 48, 54, 49, 55, 54] : List UInt8) then (if t272 = true then (none) else (if t276 = (-5) then (if t277 = true then (if t282 = true then ((wide_Of.f 12).bind fun bt289 => (if (t280 == bt289.1 && (t281 == bt289.2)) = true then ((wide_Cmp.f k t266 t267 t255 t256).bind fun t291 => (if t291 = (-1) then ((wide_Sign.f t266 t267).bind fun t292 => (if t292 = (-1) then ((wide_Times.f k 3 (-4)).bind fun bt293 => ((wide_Of.f (-12)).bind fun bt295 => (some (bt293.1 == bt295.1 && (bt293.2 == bt295.2))))) else (none))) else (none))) else (none))) else (none)) else (none)) else (none))) else (none))) else (none)) else (none))) else (none))) else (none)) = some r := H
  have A11 := Aside0.mk A110
  clear A110
  by_cases c12 : t259 = true
  rotate_left
  · replace c12 := Bool.eq_false_iff.mpr c12
    subst c12
    have H1 : (none) = some r := by rw [if_neg (show ¬ (false = true) by decide)] at H; exact H
    clear H; have H := H1; clear H1
    exact absurd H (by simp)

  subst c12
  have H1 : ((wide_Of.f (-4)).bind fun bt284 => (if (t255 == bt284.1 && (t256 == bt284.2)) = true then ((wide_Of.f 1).bind fun bt286 => (if (t257 == bt286.1 && (t258 == bt286.2)) = true then (if t268 = true then ((wide_Text.f k t266 t267).bind fun t288 => (if t288.toList = ([45, 49, 50, 48, 56, 57, 50, 53, 56, 49, 57, 54, 49, 52, 54, 50, 57, 49, 55, 52, 55, 48, 54, 49, 55, 54] : List UInt8) then (if t272 = true then (none) else (if t276 = (-5) then (if t277 = true then (if t282 = true then ((wide_Of.f 12).bind fun bt289 => (if (t280 == bt289.1 && (t281 == bt289.2)) = true then ((wide_Cmp.f k t266 t267 t255 t256).bind fun t291 => (if t291 = (-1) then ((wide_Sign.f t266 t267).bind fun t292 => (if t292 = (-1) then ((wide_Times.f k 3 (-4)).bind fun bt293 => ((wide_Of.f (-12)).bind fun bt295 => (some (bt293.1 == bt295.1 && (bt293.2 == bt295.2))))) else (none))) else (none))) else (none))) else (none)) else (none)) else (none))) else (none))) else (none)) else (none))) else (none))) = some r := by rw [if_pos rfl] at H; exact H
  clear H; have H := H1; clear H1
  replace H := Option.bind_eq_some_iff.mp H
  obtain ⟨⟨t284, t285⟩, A130, H⟩ := H
  replace H : (if (t255 == t284 && (t256 == t285)) = true then ((wide_Of.f 1).bind fun bt286 => (if (t257 == bt286.1 && (t258 == bt286.2)) = true then (if t268 = true then ((wide_Text.f k t266 t267).bind fun t288 => (if t288.toList = ([45, 49, 50, 48, 56, 57, 50, 53, 56, 49, 57, 54, 49, 52, 54, 50, 57, 49, 55, 52, 55, 48, 54, 49, 55, 54] : List UInt8) then (if t272 = true then (none) else (if t276 = (-5) then (if t277 = true then (if t282 = true then ((wide_Of.f 12).bind fun bt289 => (if (t280 == bt289.1 && (t281 == bt289.2)) = true then ((wide_Cmp.f k t266 t267 t255 t256).bind fun t291 => (if t291 = (-1) then ((wide_Sign.f t266 t267).bind fun t292 => (if t292 = (-1) then ((wide_Times.f k 3 (-4)).bind fun bt293 => ((wide_Of.f (-12)).bind fun bt295 => (some (bt293.1 == bt295.1 && (bt293.2 == bt295.2))))) else (none))) else (none))) else (none))) else (none)) else (none)) else (none))) else (none))) else (none)) else (none))) else (none)) = some r := H
  have A13 := Aside0.mk A130
  clear A130
  by_cases c14 : (t255 == t284 && (t256 == t285)) = true
  rotate_left
  · rw [if_neg c14] at H
    exact absurd H (by simp)
  rw [if_pos c14] at H
  have c14b0 : (t255 == t284 && (t256 == t285)) = true := c14
  (try (have c14b1 : decide (t255 = t284 && (t256 == t285)) = true := by simpa using c14))
  (try (have c14b2 : (t255 == t284 && (t256 == t285)) = true := by simpa using c14))
  clear c14
  replace H := Option.bind_eq_some_iff.mp H
  obtain ⟨⟨t286, t287⟩, A150, H⟩ := H
  replace H : (if (t257 == t286 && (t258 == t287)) = true then (if t268 = true then ((wide_Text.f k t266 t267).bind fun t288 => (if t288.toList = ([45, 49, 50, 48, 56, 57, 50, 53, 56, 49, 57, 54, 49, 52, 54, 50, 57, 49, 55, 52, 55, 48, 54, 49, 55, 54] : List UInt8) then (if t272 = true then (none) else (if t276 = (-5) then (if t277 = true then (if t282 = true then ((wide_Of.f 12).bind fun bt289 => (if (t280 == bt289.1 && (t281 == bt289.2)) = true then ((wide_Cmp.f k t266 t267 t255 t256).bind fun t291 => (if t291 = (-1) then ((wide_Sign.f t266 t267).bind fun t292 => (if t292 = (-1) then ((wide_Times.f k 3 (-4)).bind fun bt293 => ((wide_Of.f (-12)).bind fun bt295 => (some (bt293.1 == bt295.1 && (bt293.2 == bt295.2))))) else (none))) else (none))) else (none))) else (none)) else (none)) else (none))) else (none))) else (none)) else (none)) = some r := H
  have A15 := Aside0.mk A150
  clear A150
  by_cases c16 : (t257 == t286 && (t258 == t287)) = true
  rotate_left
  · rw [if_neg c16] at H
    exact absurd H (by simp)
  rw [if_pos c16] at H
  have c16b0 : (t257 == t286 && (t258 == t287)) = true := c16
  (try (have c16b1 : decide (t257 = t286 && (t258 == t287)) = true := by simpa using c16))
  (try (have c16b2 : (t257 == t286 && (t258 == t287)) = true := by simpa using c16))
  clear c16
  by_cases c17 : t268 = true
  rotate_left
  · replace c17 := Bool.eq_false_iff.mpr c17
    subst c17
    have H1 : (none) = some r := by rw [if_neg (show ¬ (false = true) by decide)] at H; exact H
    clear H; have H := H1; clear H1
    exact absurd H (by simp)
  subst c17
  have H1 : ((wide_Text.f k t266 t267).bind fun t288 => (if t288.toList = ([45, 49, 50, 48, 56, 57, 50, 53, 56, 49, 57, 54, 49, 52, 54, 50, 57, 49, 55, 52, 55, 48, 54, 49, 55, 54] : List UInt8) then (if t272 = true then (none) else (if t276 = (-5) then (if t277 = true then (if t282 = true then ((wide_Of.f 12).bind fun bt289 => (if (t280 == bt289.1 && (t281 == bt289.2)) = true then ((wide_Cmp.f k t266 t267 t255 t256).bind fun t291 => (if t291 = (-1) then ((wide_Sign.f t266 t267).bind fun t292 => (if t292 = (-1) then ((wide_Times.f k 3 (-4)).bind fun bt293 => ((wide_Of.f (-12)).bind fun bt295 => (some (bt293.1 == bt295.1 && (bt293.2 == bt295.2))))) else (none))) else (none))) else (none))) else (none)) else (none)) else (none))) else (none))) = some r := by rw [if_pos rfl] at H; exact H
  clear H; have H := H1; clear H1
  replace H := Option.bind_eq_some_iff.mp H
  obtain ⟨t288, A180, H⟩ := H
  replace H : (if t288.toList = ([45, 49, 50, 48, 56, 57, 50, 53, 56, 49, 57, 54, 49, 52, 54, 50, 57, 49, 55, 52, 55, 48, 54, 49, 55, 54] : List UInt8) then (if t272 = true then (none) else (if t276 = (-5) then (if t277 = true then (if t282 = true then ((wide_Of.f 12).bind fun bt289 => (if (t280 == bt289.1 && (t281 == bt289.2)) = true then ((wide_Cmp.f k t266 t267 t255 t256).bind fun t291 => (if t291 = (-1) then ((wide_Sign.f t266 t267).bind fun t292 => (if t292 = (-1) then ((wide_Times.f k 3 (-4)).bind fun bt293 => ((wide_Of.f (-12)).bind fun bt295 => (some (bt293.1 == bt295.1 && (bt293.2 == bt295.2))))) else (none))) else (none))) else (none))) else (none)) else (none)) else (none))) else (none)) = some r := H
  have A18 := Aside0.mk A180
  clear A180
  by_cases c19 : t288.toList = ([45, 49, 50, 48, 56, 57, 50, 53, 56, 49, 57, 54, 49, 52, 54, 50, 57, 49, 55, 52, 55, 48, 54, 49, 55, 54] : List UInt8)
  rotate_left
  · rw [if_neg c19] at H
    exact absurd H (by simp)
  rw [if_pos c19] at H
  have c19b0 : (t288.toList == ([45, 49, 50, 48, 56, 57, 50, 53, 56, 49, 57, 54, 49, 52, 54, 50, 57, 49, 55, 52, 55, 48, 54, 49, 55, 54] : List UInt8)) = true := beq_iff_eq.mpr c19
  have c19b1 : (t288.toList != ([45, 49, 50, 48, 56, 57, 50, 53, 56, 49, 57, 54, 49, 52, 54, 50, 57, 49, 55, 52, 55, 48, 54, 49, 55, 54] : List UInt8)) = false := bne_eq_false_iff_eq.mpr c19
  clear c19
  by_cases c20 : t272 = true
  · subst c20
    have H1 : (none) = some r := by rw [if_pos rfl] at H; exact H
    clear H; have H := H1; clear H1
    exact absurd H (by simp)
  replace c20 := Bool.eq_false_iff.mpr c20
  subst c20
  have H1 : (if t276 = (-5) then (if t277 = true then (if t282 = true then ((wide_Of.f 12).bind fun bt289 => (if (t280 == bt289.1 && (t281 == bt289.2)) = true then ((wide_Cmp.f k t266 t267 t255 t256).bind fun t291 => (if t291 = (-1) then ((wide_Sign.f t266 t267).bind fun t292 => (if t292 = (-1) then ((wide_Times.f k 3 (-4)).bind fun bt293 => ((wide_Of.f (-12)).bind fun bt295 => (some (bt293.1 == bt295.1 && (bt293.2 == bt295.2))))) else (none))) else (none))) else (none))) else (none)) else (none)) else (none)) = some r := by rw [if_neg (show ¬ (false = true) by decide)] at H; exact H
  clear H; have H := H1; clear H1
  by_cases c21 : t276 = (-5)
  rotate_left
  · rw [if_neg c21] at H
    exact absurd H (by simp)
  rw [if_pos c21] at H
  have c21b0 : (t276 == (-5)) = true := beq_iff_eq.mpr c21
  have c21b1 : (t276 != (-5)) = false := bne_eq_false_iff_eq.mpr c21
  clear c21
  by_cases c22 : t277 = true
  rotate_left
  · replace c22 := Bool.eq_false_iff.mpr c22
    subst c22
    have H1 : (none) = some r := by rw [if_neg (show ¬ (false = true) by decide)] at H; exact H
    clear H; have H := H1; clear H1
    exact absurd H (by simp)
  subst c22
  have H1 : (if t282 = true then ((wide_Of.f 12).bind fun bt289 => (if (t280 == bt289.1 && (t281 == bt289.2)) = true then ((wide_Cmp.f k t266 t267 t255 t256).bind fun t291 => (if t291 = (-1) then ((wide_Sign.f t266 t267).bind fun t292 => (if t292 = (-1) then ((wide_Times.f k 3 (-4)).bind fun bt293 => ((wide_Of.f (-12)).bind fun bt295 => (some (bt293.1 == bt295.1 && (bt293.2 == bt295.2))))) else (none))) else (none))) else (none))) else (none)) = some r := by rw [if_pos rfl] at H; exact H
  clear H; have H := H1; clear H1
  by_cases c23 : t282 = true
  rotate_left
  · replace c23 := Bool.eq_false_iff.mpr c23
    subst c23
    have H1 : (none) = some r := by rw [if_neg (show ¬ (false = true) by decide)] at H; exact H
    clear H; have H := H1; clear H1
    exact absurd H (by simp)
  subst c23
  have H1 : ((wide_Of.f 12).bind fun bt289 => (if (t280 == bt289.1 && (t281 == bt289.2)) = true then ((wide_Cmp.f k t266 t267 t255 t256).bind fun t291 => (if t291 = (-1) then ((wide_Sign.f t266 t267).bind fun t292 => (if t292 = (-1) then ((wide_Times.f k 3 (-4)).bind fun bt293 => ((wide_Of.f (-12)).bind fun bt295 => (some (bt293.1 == bt295.1 && (bt293.2 == bt295.2))))) else (none))) else (none))) else (none))) = some r := by rw [if_pos rfl] at H; exact H
  clear H; have H := H1; clear H1
  replace H := Option.bind_eq_some_iff.mp H
  obtain ⟨⟨t289, t290⟩, A240, H⟩ := H
  replace H : (if (t280 == t289 && (t281 == t290)) = true then ((wide_Cmp.f k t266 t267 t255 t256).bind fun t291 => (if t291 = (-1) then ((wide_Sign.f t266 t267).bind fun t292 => (if t292 = (-1) then ((wide_Times.f k 3 (-4)).bind fun bt293 => ((wide_Of.f (-12)).bind fun bt295 => (some (bt293.1 == bt295.1 && (bt293.2 == bt295.2))))) else (none))) else (none))) else (none)) = some r := H
  have A24 := Aside0.mk A240
  clear A240
  by_cases c25 : (t280 == t289 && (t281 == t290)) = true
  rotate_left
  · rw [if_neg c25] at H
    exact absurd H (by simp)
  rw [if_pos c25] at H
  have c25b0 : (t280 == t289 && (t281 == t290)) = true := c25
  (try (have c25b1 : decide (t280 = t289 && (t281 == t290)) = true := by simpa using c25))
  (try (have c25b2 : (t280 == t289 && (t281 == t290)) = true := by simpa using c25))
  clear c25
  replace H := Option.bind_eq_some_iff.mp H
  obtain ⟨t291, A260, H⟩ := H
  replace H : (if t291 = (-1) then ((wide_Sign.f t266 t267).bind fun t292 => (if t292 = (-1) then ((wide_Times.f k 3 (-4)).bind fun bt293 => ((wide_Of.f (-12)).bind fun bt295 => (some (bt293.1 == bt295.1 && (bt293.2 == bt295.2))))) else (none))) else (none)) = some r := H
  have A26 := Aside0.mk A260
  clear A260
  by_cases c27 : t291 = (-1)
  rotate_left
  · rw [if_neg c27] at H
    exact absurd H (by simp)
  rw [if_pos c27] at H
  have c27b0 : (t291 == (-1)) = true := beq_iff_eq.mpr c27
  have c27b1 : (t291 != (-1)) = false := bne_eq_false_iff_eq.mpr c27
  clear c27
  replace H := Option.bind_eq_some_iff.mp H
  obtain ⟨t292, A280, H⟩ := H
  replace H : (if t292 = (-1) then ((wide_Times.f k 3 (-4)).bind fun bt293 => ((wide_Of.f (-12)).bind fun bt295 => (some (bt293.1 == bt295.1 && (bt293.2 == bt295.2))))) else (none)) = some r := H
  have A28 := Aside0.mk A280
  clear A280
  by_cases c29 : t292 = (-1)
  rotate_left
  · rw [if_neg c29] at H
    exact absurd H (by simp)
  rw [if_pos c29] at H
  have c29b0 : (t292 == (-1)) = true := beq_iff_eq.mpr c29
  have c29b1 : (t292 != (-1)) = false := bne_eq_false_iff_eq.mpr c29
  clear c29
  replace H := Option.bind_eq_some_iff.mp H
  obtain ⟨⟨t293, t294⟩, A300, H⟩ := H
  replace H : ((wide_Of.f (-12)).bind fun bt295 => (some (t293 == bt295.1 && (t294 == bt295.2)))) = some r := H
  have A30 := Aside0.mk A300
  clear A300
  replace H := Option.bind_eq_some_iff.mp H
  obtain ⟨⟨t295, t296⟩, A310, H⟩ := H
  replace H : (some (t293 == t295 && (t294 == t296))) = some r := H
  have A31 := Aside0.mk A310
  clear A310
  obtain rfl := Option.some.inj H
  go_enter Try.func16, Try.ntmps16
  try go_wp2_with (first | ((with_reducible refine gate_callee (f := 32) rfl ?_); refine goesL_ (some 13) rfl rfl Try.func32 (by kernel_rfl) rfl #[.int .i64 (-7)] rfl (by (try simp only [List.map_toArray, List.map_cons, List.map_nil]); first | done | rfl | (simp only [List.length_drop, List.length_take]; rfl)) ?_; (with_reducible refine (wide_Of.calls (-7) t251 t252 _ A1.out).mono ?_); rintro e w32 ⟨rfl, hb⟩; refine ⟨_, rfl, ?_⟩; replace HB := kB HB hb; (try clear hb); (try clear hb2); (try clear hk); (try clear hi)) | ((with_reducible refine gate_callee (f := 32) rfl ?_); refine goesL_ (some 14) rfl rfl Try.func32 (by kernel_rfl) rfl #[.int .i64 2] rfl (by (try simp only [List.map_toArray, List.map_cons, List.map_nil]); first | done | rfl | (simp only [List.length_drop, List.length_take]; rfl)) ?_; (with_reducible refine (wide_Of.calls 2 t253 t254 _ A2.out).mono ?_); rintro e w33 ⟨rfl, hb⟩; refine ⟨_, rfl, ?_⟩; replace HB := kB HB hb; (try clear hb); (try clear hb2); (try clear hk); (try clear hi)) | ((with_reducible refine gate_callee (f := 27) rfl ?_); refine goesL_ (some 15) rfl rfl Try.func27 (by kernel_rfl) rfl #[.agg #[.int .i64 t251, .int .u64 t252], .agg #[.int .i64 t253, .int .u64 t254]] rfl (by (try simp only [List.map_toArray, List.map_cons, List.map_nil]); first | done | rfl | (simp only [List.length_drop, List.length_take]; rfl)) ?_; (with_reducible refine (wide_Div.calls k t251 t252 t253 t254 t255 t256 t257 t258 true _ A3.out).mono ?_); rintro e w34 ⟨rfl, hb⟩; refine ⟨_, rfl, ?_⟩; replace HB := kB HB hb; (try clear hb); (try clear hb2); (try clear hk); (try clear hi)) | ((with_reducible refine gate_dst (N := 1) rfl ?_); refine box_event ?hg (N := 1) ?hd (cs := #[.int .i64 0, .int .u64 0]) (t := 24) ?hr ?_; (case hd => rfl); (case hg => rfl); (case hr => first | (go_simp; done) | (go_simp; rfl)); intro gb260 hg w35 hbox hb; have BK260 := Aside0.mk (hbox); have GW260 := kS HB hg; have GE260 := kS HB hg; replace HB := kB HB hb; clear hb hbox hg) | ((with_reducible refine gate_dst (N := 2) rfl ?_); refine box_event ?hg (N := 2) ?hd (cs := #[.int .i64 0, .int .u64 0]) (t := 24) ?hr ?_; (case hd => rfl); (case hg => rfl); (case hr => first | (go_simp; done) | (go_simp; rfl)); intro gb261 hg w36 hbox hb; have BK261 := Aside0.mk (hbox); have GW261 := kS HB hg; have GE261 := kS HB hg; have NB260_261 := kN BK260 hg; have NB261_260 := kM BK260 hg; replace BK260 := kb BK260 hb; replace HB := kB HB hb; clear hb hbox hg; have hnb37 := NB260_261.out; have hnc37 := NB261_260.out; have hcz38_0 : w36.cell? ⟨gb260, 0, none⟩ = some (.int .i64 0) := kc BK260 0; have hcz38_1 : w36.cell? ⟨gb260, 1, none⟩ = some (.int .u64 0) := kc BK260 1; have hfz38_0 := blk_frozen BK260.out 0; have hfz38_1 := blk_frozen BK260.out 1; have hcz39_0 : w36.cell? ⟨gb261, 0, none⟩ = some (.int .i64 0) := kc BK261 0; have hcz39_1 : w36.cell? ⟨gb261, 1, none⟩ = some (.int .u64 0) := kc BK261 1; have hfz39_0 := blk_frozen BK261.out 0; have hfz39_1 := blk_frozen BK261.out 1) | ((with_reducible refine gate_callee (f := 32) rfl ?_); refine goesL_ (some 20) rfl rfl Try.func32 (by kernel_rfl) rfl #[.int .i64 1099511627776] rfl (by (try simp only [List.map_toArray, List.map_cons, List.map_nil]); first | done | rfl | (simp only [List.length_drop, List.length_take]; rfl)) ?_; (with_reducible refine (wide_Of.calls 1099511627776 t262 t263 _ A4.out).mono ?_); rintro e w40 ⟨rfl, hb⟩; refine ⟨_, rfl, ?_⟩; have n0_ := Aside0.mk (blk_below (g := gb260) (o := .cells #[.int .i64 t255, .int .u64 t256] 24 (0, 0)) (by (with_reducible repeat (first | refine blk_drewN ?_ _ | refine blk_drew ?_ | refine blk_alloc ?_ _)); refine blk_far ?_ NB260_261.out _; (with_reducible repeat (first | refine blk_drewN ?_ _ | refine blk_drew ?_ | refine blk_alloc ?_ _)); refine blk_far ?_ NB260_261.out _; (with_reducible repeat (first | refine blk_drewN ?_ _ | refine blk_drew ?_ | refine blk_alloc ?_ _)); refine blk_put (cs := #[.int .i64 t255, .int .u64 0]) ?_ 1 _ rfl; (with_reducible repeat (first | refine blk_drewN ?_ _ | refine blk_drew ?_ | refine blk_alloc ?_ _)); refine blk_put (cs := #[.int .i64 0, .int .u64 0]) ?_ 0 _ rfl; (with_reducible repeat (first | refine blk_drewN ?_ _ | refine blk_drew ?_ | refine blk_alloc ?_ _)); exact BK260.out) hb); have n1_ := Aside0.mk (blk_below (g := gb261) (o := .cells #[.int .i64 t257, .int .u64 t258] 24 (0, 0)) (by (with_reducible repeat (first | refine blk_drewN ?_ _ | refine blk_drew ?_ | refine blk_alloc ?_ _)); refine blk_put (cs := #[.int .i64 t257, .int .u64 0]) ?_ 1 _ rfl; (with_reducible repeat (first | refine blk_drewN ?_ _ | refine blk_drew ?_ | refine blk_alloc ?_ _)); refine blk_put (cs := #[.int .i64 0, .int .u64 0]) ?_ 0 _ rfl; (with_reducible repeat (first | refine blk_drewN ?_ _ | refine blk_drew ?_ | refine blk_alloc ?_ _)); refine blk_far ?_ NB261_260.out _; (with_reducible repeat (first | refine blk_drewN ?_ _ | refine blk_drew ?_ | refine blk_alloc ?_ _)); refine blk_far ?_ NB261_260.out _; (with_reducible repeat (first | refine blk_drewN ?_ _ | refine blk_drew ?_ | refine blk_alloc ?_ _)); exact BK261.out) hb); have n2_ := kB HB hb; clear BK260; clear BK261; clear HB; have BK260 := n0_; have BK261 := n1_; have HB := n2_; clear n0_ n1_ n2_; (try clear hb); (try clear hb2); (try clear hk); (try clear hi)) | ((with_reducible refine gate_callee (f := 32) rfl ?_); refine goesL_ (some 21) rfl rfl Try.func32 (by kernel_rfl) rfl #[.int .i64 (-1099511627776)] rfl (by (try simp only [List.map_toArray, List.map_cons, List.map_nil]); first | done | rfl | (simp only [List.length_drop, List.length_take]; rfl)) ?_; (with_reducible refine (wide_Of.calls (-1099511627776) t264 t265 _ A5.out).mono ?_); rintro e w41 ⟨rfl, hb⟩; refine ⟨_, rfl, ?_⟩; replace BK260 := kb BK260 hb; replace BK261 := kb BK261 hb; replace HB := kB HB hb; (try clear hb); (try clear hb2); (try clear hk); (try clear hi)) | ((with_reducible refine gate_callee (f := 15) rfl ?_); refine goesL_ (some 22) rfl rfl Try.func15 (by kernel_rfl) rfl #[.agg #[.int .i64 t262, .int .u64 t263], .agg #[.int .i64 t264, .int .u64 t265]] rfl (by (try simp only [List.map_toArray, List.map_cons, List.map_nil]); first | done | rfl | (simp only [List.length_drop, List.length_take]; rfl)) ?_; (with_reducible refine (wide_Mul.calls k t262 t263 t264 t265 t266 t267 true _ A6.out).mono ?_); rintro e w42 ⟨rfl, hb⟩; refine ⟨_, rfl, ?_⟩; replace BK260 := kb BK260 hb; replace BK261 := kb BK261 hb; replace HB := kB HB hb; (try clear hb); (try clear hb2); (try clear hk); (try clear hi)) | ((with_reducible refine gate_dst (N := 4) rfl ?_); refine box_event ?hg (N := 4) ?hd (cs := #[.int .i64 0, .int .u64 0]) (t := 24) ?hr ?_; (case hd => rfl); (case hg => rfl); (case hr => first | (go_simp; done) | (go_simp; rfl)); intro gb269 hg w43 hbox hb; have BK269 := Aside0.mk (hbox); have GW269 := kS HB hg; have GE269 := kS HB hg; have NB260_269 := kN BK260 hg; have NB269_260 := kM BK260 hg; have NB261_269 := kN BK261 hg; have NB269_261 := kM BK261 hg; replace BK260 := kb BK260 hb; replace BK261 := kb BK261 hb; replace HB := kB HB hb; clear hb hbox hg; have hnb44 := NB269_260.out; have hnc44 := NB260_269.out; have hnb45 := NB269_261.out; have hnc45 := NB261_269.out; have hcz46_0 : w43.cell? ⟨gb269, 0, none⟩ = some (.int .i64 0) := kc BK269 0; have hcz46_1 : w43.cell? ⟨gb269, 1, none⟩ = some (.int .u64 0) := kc BK269 1; have hfz46_0 := blk_frozen BK269.out 0; have hfz46_1 := blk_frozen BK269.out 1) | ((with_reducible refine gate_callee (f := 29) rfl ?_); refine goesL_ (some 28) rfl rfl Try.func29 (by kernel_rfl) rfl #[.agg #[.int .i64 9223372036854775807, .int .u64 0], .agg #[.int .i64 1, .int .u64 0]] rfl (by (try simp only [List.map_toArray, List.map_cons, List.map_nil]); first | done | rfl | (simp only [List.length_drop, List.length_take]; rfl)) ?_; (with_reducible refine (wide_Add.calls 9223372036854775807 0 1 0 t270 t271 false _ A7.out).mono ?_); rintro e w47 ⟨rfl, hb⟩; refine ⟨_, rfl, ?_⟩; have n0_ := kb BK260 hb; have n1_ := kb BK261 hb; have n2_ := Aside0.mk (blk_below (g := gb269) (o := .cells #[.int .i64 t266, .int .u64 t267] 24 (0, 0)) (by (with_reducible repeat (first | refine blk_drewN ?_ _ | refine blk_drew ?_ | refine blk_alloc ?_ _)); refine blk_put (cs := #[.int .i64 t266, .int .u64 0]) ?_ 1 _ rfl; (with_reducible repeat (first | refine blk_drewN ?_ _ | refine blk_drew ?_ | refine blk_alloc ?_ _)); refine blk_put (cs := #[.int .i64 0, .int .u64 0]) ?_ 0 _ rfl; (with_reducible repeat (first | refine blk_drewN ?_ _ | refine blk_drew ?_ | refine blk_alloc ?_ _)); exact BK269.out) hb); have n3_ := kB HB hb; clear BK260; clear BK261; clear BK269; clear HB; have BK260 := n0_; have BK261 := n1_; have BK269 := n2_; have HB := n3_; clear n0_ n1_ n2_ n3_; (try clear hb); (try clear hb2); (try clear hk); (try clear hi)) | ((with_reducible refine gate_dst (N := 6) rfl ?_); refine box_event ?hg (N := 6) ?hd (cs := #[.int .i64 0, .int .u64 0]) (t := 24) ?hr ?_; (case hd => rfl); (case hg => rfl); (case hr => first | (go_simp; done) | (go_simp; rfl)); intro gb273 hg w48 hbox hb; have BK273 := Aside0.mk (hbox); have GW273 := kS HB hg; have GE273 := kS HB hg; have NB260_273 := kN BK260 hg; have NB273_260 := kM BK260 hg; have NB261_273 := kN BK261 hg; have NB273_261 := kM BK261 hg; have NB269_273 := kN BK269 hg; have NB273_269 := kM BK269 hg; replace BK260 := kb BK260 hb; replace BK261 := kb BK261 hb; replace BK269 := kb BK269 hb; replace HB := kB HB hb; clear hb hbox hg; have hnb49 := NB273_260.out; have hnc49 := NB260_273.out; have hnb50 := NB273_261.out; have hnc50 := NB261_273.out; have hnb51 := NB273_269.out; have hnc51 := NB269_273.out; have hcz52_0 : w48.cell? ⟨gb273, 0, none⟩ = some (.int .i64 0) := kc BK273 0; have hcz52_1 : w48.cell? ⟨gb273, 1, none⟩ = some (.int .u64 0) := kc BK273 1; have hfz52_0 := blk_frozen BK273.out 0; have hfz52_1 := blk_frozen BK273.out 1) | ((with_reducible refine gate_callee (f := 32) rfl ?_); refine goesL_ (some 32) rfl rfl Try.func32 (by kernel_rfl) rfl #[.int .i64 (-5)] rfl (by (try simp only [List.map_toArray, List.map_cons, List.map_nil]); first | done | rfl | (simp only [List.length_drop, List.length_take]; rfl)) ?_; (with_reducible refine (wide_Of.calls (-5) t274 t275 _ A8.out).mono ?_); rintro e w53 ⟨rfl, hb⟩; refine ⟨_, rfl, ?_⟩; have n0_ := kb BK260 hb; have n1_ := kb BK261 hb; have n2_ := kb BK269 hb; have n3_ := Aside0.mk (blk_below (g := gb273) (o := .cells #[.int .i64 t270, .int .u64 t271] 24 (0, 0)) (by (with_reducible repeat (first | refine blk_drewN ?_ _ | refine blk_drew ?_ | refine blk_alloc ?_ _)); refine blk_put (cs := #[.int .i64 t270, .int .u64 0]) ?_ 1 _ rfl; (with_reducible repeat (first | refine blk_drewN ?_ _ | refine blk_drew ?_ | refine blk_alloc ?_ _)); refine blk_put (cs := #[.int .i64 0, .int .u64 0]) ?_ 0 _ rfl; (with_reducible repeat (first | refine blk_drewN ?_ _ | refine blk_drew ?_ | refine blk_alloc ?_ _)); exact BK273.out) hb); have n4_ := kB HB hb; clear BK260; clear BK261; clear BK269; clear BK273; clear HB; have BK260 := n0_; have BK261 := n1_; have BK269 := n2_; have BK273 := n3_; have HB := n4_; clear n0_ n1_ n2_ n3_ n4_; (try clear hb); (try clear hb2); (try clear hk); (try clear hi)) | ((with_reducible refine gate_callee (f := 30) rfl ?_); refine goesL_ (some 33) rfl rfl Try.func30 (by kernel_rfl) rfl #[.agg #[.int .i64 t274, .int .u64 t275]] rfl (by (try simp only [List.map_toArray, List.map_cons, List.map_nil]); first | done | rfl | (simp only [List.length_drop, List.length_take]; rfl)) ?_; (with_reducible refine (wide_Small.calls t274 t275 t276 true _ A9.out).mono ?_); rintro e w54 ⟨rfl, hb⟩; refine ⟨_, rfl, ?_⟩; replace BK260 := kb BK260 hb; replace BK261 := kb BK261 hb; replace BK269 := kb BK269 hb; replace BK273 := kb BK273 hb; replace HB := kB HB hb; (try clear hb); (try clear hb2); (try clear hk); (try clear hi)) | ((with_reducible refine gate_callee (f := 32) rfl ?_); refine goesL_ (some 37) rfl rfl Try.func32 (by kernel_rfl) rfl #[.int .i64 3] rfl (by (try simp only [List.map_toArray, List.map_cons, List.map_nil]); first | done | rfl | (simp only [List.length_drop, List.length_take]; rfl)) ?_; (with_reducible refine (wide_Of.calls 3 t278 t279 _ A10.out).mono ?_); rintro e w55 ⟨rfl, hb⟩; refine ⟨_, rfl, ?_⟩; replace BK260 := kb BK260 hb; replace BK261 := kb BK261 hb; replace BK269 := kb BK269 hb; replace BK273 := kb BK273 hb; replace HB := kB HB hb; (try clear hb); (try clear hb2); (try clear hk); (try clear hi)) | ((with_reducible refine gate_callee (f := 22) rfl ?_); refine goesL_ (some 38) rfl rfl Try.func22 (by kernel_rfl) rfl #[.agg #[.int .i64 t278, .int .u64 t279], .int .i64 2] rfl (by (try simp only [List.map_toArray, List.map_cons, List.map_nil]); first | done | rfl | (simp only [List.length_drop, List.length_take]; rfl)) ?_; (with_reducible refine (wide_Shl.calls k t278 t279 2 t280 t281 true _ A11.out).mono ?_); rintro e w56 ⟨rfl, hb⟩; refine ⟨_, rfl, ?_⟩; replace BK260 := kb BK260 hb; replace BK261 := kb BK261 hb; replace BK269 := kb BK269 hb; replace BK273 := kb BK273 hb; replace HB := kB HB hb; (try clear hb); (try clear hb2); (try clear hk); (try clear hi)) | ((with_reducible refine gate_dst (N := 10) rfl ?_); refine box_event ?hg (N := 10) ?hd (cs := #[.int .i64 0, .int .u64 0]) (t := 24) ?hr ?_; (case hd => rfl); (case hg => rfl); (case hr => first | (go_simp; done) | (go_simp; rfl)); intro gb283 hg w57 hbox hb; have BK283 := Aside0.mk (hbox); have GW283 := kS HB hg; have GE283 := kS HB hg; have NB260_283 := kN BK260 hg; have NB283_260 := kM BK260 hg; have NB261_283 := kN BK261 hg; have NB283_261 := kM BK261 hg; have NB269_283 := kN BK269 hg; have NB283_269 := kM BK269 hg; have NB273_283 := kN BK273 hg; have NB283_273 := kM BK273 hg; replace BK260 := kb BK260 hb; replace BK261 := kb BK261 hb; replace BK269 := kb BK269 hb; replace BK273 := kb BK273 hb; replace HB := kB HB hb; clear hb hbox hg; have hnb58 := NB283_260.out; have hnc58 := NB260_283.out; have hnb59 := NB283_261.out; have hnc59 := NB261_283.out; have hnb60 := NB283_269.out; have hnc60 := NB269_283.out; have hnb61 := NB283_273.out; have hnc61 := NB273_283.out; have hcz62_0 : w57.cell? ⟨gb283, 0, none⟩ = some (.int .i64 0) := kc BK283 0; have hcz62_1 : w57.cell? ⟨gb283, 1, none⟩ = some (.int .u64 0) := kc BK283 1; have hfz62_0 := blk_frozen BK283.out 0; have hfz62_1 := blk_frozen BK283.out 1))
  have n0_ : Aside0 (((w57.setCell ⟨gb283, 0, none⟩ (.int .i64 t280)).setCell ⟨gb283, 1, none⟩ (.int .u64 t281)).heap[gb260]? = some (.cells #[.int .i64 t255, .int .u64 t256] 24 (0, 0))) := ⟨kx BK260⟩
  have n1_ : Aside0 (((w57.setCell ⟨gb283, 0, none⟩ (.int .i64 t280)).setCell ⟨gb283, 1, none⟩ (.int .u64 t281)).heap[gb261]? = some (.cells #[.int .i64 t257, .int .u64 t258] 24 (0, 0))) := ⟨kx BK261⟩
  have n2_ : Aside0 (((w57.setCell ⟨gb283, 0, none⟩ (.int .i64 t280)).setCell ⟨gb283, 1, none⟩ (.int .u64 t281)).heap[gb269]? = some (.cells #[.int .i64 t266, .int .u64 t267] 24 (0, 0))) := ⟨kx BK269⟩
  have n3_ : Aside0 (((w57.setCell ⟨gb283, 0, none⟩ (.int .i64 t280)).setCell ⟨gb283, 1, none⟩ (.int .u64 t281)).heap[gb273]? = some (.cells #[.int .i64 t270, .int .u64 t271] 24 (0, 0))) := ⟨kx BK273⟩
  have n4_ : Aside0 (((w57.setCell ⟨gb283, 0, none⟩ (.int .i64 t280)).setCell ⟨gb283, 1, none⟩ (.int .u64 t281)).heap[gb283]? = some (.cells #[.int .i64 t280, .int .u64 t281] 24 (0, 0))) := ⟨by (with_reducible repeat (first | refine blk_drewN ?_ _ | refine blk_drew ?_ | refine blk_alloc ?_ _)); refine blk_put (cs := #[.int .i64 t280, .int .u64 0]) ?_ 1 _ rfl; (with_reducible repeat (first | refine blk_drewN ?_ _ | refine blk_drew ?_ | refine blk_alloc ?_ _)); refine blk_put (cs := #[.int .i64 0, .int .u64 0]) ?_ 0 _ rfl; (with_reducible repeat (first | refine blk_drewN ?_ _ | refine blk_drew ?_ | refine blk_alloc ?_ _)); exact BK283.out⟩
  have n5_ : Aside0 (Below w.heap.size w ((w57.setCell ⟨gb283, 0, none⟩ (.int .i64 t280)).setCell ⟨gb283, 1, none⟩ (.int .u64 t281))) := ⟨ky HB⟩
  (try clear BK260); (try clear BK261); (try clear BK269); (try clear BK273); (try clear BK283); (try clear HB)
  generalize ((w57.setCell ⟨gb283, 0, none⟩ (.int .i64 t280)).setCell ⟨gb283, 1, none⟩ (.int .u64 t281)) = w63 at n0_ n1_ n2_ n3_ n4_ n5_ ⊢
  have BK260 := n0_; have BK261 := n1_; have BK269 := n2_; have BK273 := n3_; have BK283 := n4_; have HB := n5_
  clear n0_ n1_ n2_ n3_ n4_ n5_
  replace BK260 := Aside0.mk (blk_drew BK260.out)
  replace BK261 := Aside0.mk (blk_drew BK261.out)
  replace BK269 := Aside0.mk (blk_drew BK269.out)
  replace BK273 := Aside0.mk (blk_drew BK273.out)
  replace BK283 := Aside0.mk (blk_drew BK283.out)
  replace HB := Aside0.mk (below_drew1 HB.out)
  refine start_ (n := 55) (S := fun w' => w'.cell? ⟨gb260, 0, none⟩ = some (.int .i64 t255) ∧ w'.cell? ⟨gb260, 1, none⟩ = some (.int .u64 t256) ∧ w'.cell? ⟨gb261, 0, none⟩ = some (.int .i64 t257) ∧ w'.cell? ⟨gb261, 1, none⟩ = some (.int .u64 t258) ∧ w'.cell? ⟨gb269, 0, none⟩ = some (.int .i64 t266) ∧ w'.cell? ⟨gb269, 1, none⟩ = some (.int .u64 t267) ∧ w'.cell? ⟨gb283, 0, none⟩ = some (.int .i64 t280) ∧ w'.cell? ⟨gb283, 1, none⟩ = some (.int .u64 t281)) (ds := []) #[O, O, O, O, O, O, O, O, O, O, O, O, O, O, O, O, O, O, O, O, O, O, O, O, O, O, O, O, O, O, O, O, O, O, O, O, O, O, O, O, O, O, O, O, O, O, O, O, O, O, O, O, O, O, O] (by kernel_rfl) rfl rfl ⟨kc BK260 0, kc BK260 1, kc BK261 0, kc BK261 1, kc BK269 0, kc BK269 1, kc BK283 0, kc BK283 1⟩ (fun hHeld => ?_); refine with_tabW cobweblaw01_alive.tab6 cobweblaw01_alive.bits6 (fun HT_ HW_ => ?_)
  generalize w63.drew = w64 at BK260 BK261 BK269 BK273 BK283 HB hHeld ⊢
  refine pure_ (i := 0) (N := some 41) (v := ?_) (a' := ?_) #[T, O, O, O, O, O, O, O, O, O, O, O, O, O, O, O, O, O, O, O, O, O, O, O, O, O, O, O, O, O, O, O, O, O, O, O, O, O, O, O, O, O, O, O, O, O, O, O, O, O, O, O, O, O, O] rfl rfl (any_of HT_.out (by kernel_rfl)) (fun _ _ _ h => h) (Or.inl ⟨by rfl, ?_⟩) ?_ ?_; rotate_left; focus (intro w'; go_simp; with_reducible rfl)
  rotate_left; focus (simp only [Act.put, s1, s2, s3, i64_w, i32_w]; rfl)
  refine pure_ (i := 1) (N := some 42) (v := ?_) (a' := ?_) #[T, T, O, O, O, O, O, O, O, O, O, O, O, O, O, O, O, O, O, O, O, O, O, O, O, O, O, O, O, O, O, O, O, O, O, O, O, O, O, O, O, O, O, O, O, O, O, O, O, O, O, O, O, O, O] rfl rfl (any_of HT_.out (by kernel_rfl)) (fun _ _ _ h => h) (Or.inl ⟨by rfl, ?_⟩) ?_ ?_; rotate_left; focus (intro w'; go_simp; with_reducible rfl)
  rotate_left; focus (simp only [Act.put, s1, s2, s3, i64_w, i32_w]; rfl)
  refine take_ (i := 2) (N := some 43) (v := ?_) (a' := ?_) #[T, T, T, O, O, O, O, O, O, O, O, O, O, O, O, O, O, O, O, O, O, O, O, O, O, O, O, O, O, O, O, O, O, O, O, O, O, O, O, O, O, O, O, O, O, O, O, O, O, O, O, O, O, O, O] rfl rfl (take_ofW HT_.out HW_.out (by kernel_rfl)) (fun _ _ _ h => h) (Or.inl ⟨by rfl, ?_⟩) hHeld ?_ ?_; rotate_left; focus (rintro w' ⟨s0, s1, s2, s3, s4, s5, s6, s7⟩; go_simp; with_reducible rfl)
  rotate_left; focus (simp only [Act.put, s1, s2, s3, i64_w, i32_w]; rfl)
  refine one_ (i := 3) (N := some 44) #[T, T, T, T, O, O, O, O, O, O, O, O, O, O, O, O, O, O, O, O, O, O, O, O, O, O, O, O, O, O, O, O, O, O, O, O, O, O, O, O, O, O, O, O, O, O, O, O, O, O, O, O, O, O, O] rfl rfl (one_of HT_.out (by kernel_rfl)) (by decide) (fun K hK => ?_)
  refine goes_ Try.func32 (by kernel_rfl) rfl #[.int .i64 (-4)] (by rfl) rfl rfl (by (try simp only [List.map_toArray, List.map_cons, List.map_nil]); first | done | rfl | (simp only [List.length_drop, List.length_take]; rfl)) ?_
  with_reducible refine (wide_Of.calls (-4) t284 t285 _ A13.out).mono ?_
  rintro e w65 ⟨rfl, hb⟩
  refine ⟨_, rfl, ?_⟩
  replace BK260 := kb BK260 hb
  replace BK261 := kb BK261 hb
  replace BK269 := kb BK269 hb
  replace BK273 := kb BK273 hb
  replace BK283 := kb BK283 hb
  replace HB := kB HB hb
  (try clear hb); (try clear hb2); (try clear hk); (try clear hi)
  refine hK.out _ _ ⟨kc BK260 0, kc BK260 1, kc BK261 0, kc BK261 1, kc BK269 0, kc BK269 1, kc BK283 0, kc BK283 1⟩ (fun hHeld => ?_)
  clear hK K
  refine norm_ (a' := ?_) ?_ ?_; rotate_left; focus (show Act.put _ (some 44) _ = _; simp only [Act.put, s1, s2, s3, i64_w, i32_w]; rfl)
  refine pure_ (i := 4) (N := some 45) (v := ?_) (a' := ?_) #[T, T, T, T, T, O, O, O, O, O, O, O, O, O, O, O, O, O, O, O, O, O, O, O, O, O, O, O, O, O, O, O, O, O, O, O, O, O, O, O, O, O, O, O, O, O, O, O, O, O, O, O, O, O, O] rfl rfl (any_of HT_.out (by kernel_rfl)) (fun _ _ _ h => h) (Or.inl ⟨by rfl, ?_⟩) ?_ ?_; rotate_left; focus (intro w'; go_simp; with_reducible rfl)
  rotate_left; focus (simp only [Act.put, s1, s2, s3, i64_w, i32_w]; rfl)
  refine pure_ (i := 5) (N := some 46) (v := ?_) (a' := ?_) #[T, T, T, T, T, T, O, O, O, O, O, O, O, O, O, O, O, O, O, O, O, O, O, O, O, O, O, O, O, O, O, O, O, O, O, O, O, O, O, O, O, O, O, O, O, O, O, O, O, O, O, O, O, O, O] rfl rfl (any_of HT_.out (by kernel_rfl)) (fun _ _ _ h => h) (Or.inl ⟨by rfl, ?_⟩) ?_ ?_; rotate_left; focus (intro w'; go_simp; with_reducible rfl)
  rotate_left; focus (simp only [Act.put, s1, s2, s3, i64_w, i32_w]; rfl)
  refine pure_ (i := 6) (N := some 47) (v := ?_) (a' := ?_) #[T, T, T, T, T, T, T, O, O, O, O, O, O, O, O, O, O, O, O, O, O, O, O, O, O, O, O, O, O, O, O, O, O, O, O, O, O, O, O, O, O, O, O, O, O, O, O, O, O, O, O, O, O, O, O] rfl rfl (any_of HT_.out (by kernel_rfl)) (fun _ _ _ h => h) (Or.inl ⟨by rfl, ?_⟩) ?_ ?_; rotate_left; focus (intro w'; go_simp; with_reducible rfl)
  rotate_left; focus (simp only [Act.put, s1, s2, s3, i64_w, i32_w]; rfl)
  refine take_ (i := 7) (N := some 48) (v := ?_) (a' := ?_) #[T, T, T, T, T, T, T, T, O, O, O, O, O, O, O, O, O, O, O, O, O, O, O, O, O, O, O, O, O, O, O, O, O, O, O, O, O, O, O, O, O, O, O, O, O, O, O, O, O, O, O, O, O, O, O] rfl rfl (take_ofW HT_.out HW_.out (by kernel_rfl)) (fun _ _ _ h => h) (Or.inl ⟨by rfl, ?_⟩) hHeld ?_ ?_; rotate_left; focus (rintro w' ⟨s0, s1, s2, s3, s4, s5, s6, s7⟩; go_simp; with_reducible rfl)
  rotate_left; focus (simp only [Act.put, s1, s2, s3, i64_w, i32_w]; rfl)
  refine one_ (i := 8) (N := some 49) #[T, T, T, T, T, T, T, T, T, O, O, O, O, O, O, O, O, O, O, O, O, O, O, O, O, O, O, O, O, O, O, O, O, O, O, O, O, O, O, O, O, O, O, O, O, O, O, O, O, O, O, O, O, O, O] rfl rfl (one_of HT_.out (by kernel_rfl)) (by decide) (fun K hK => ?_)
  refine goes_ Try.func32 (by kernel_rfl) rfl #[.int .i64 1] (by rfl) rfl rfl (by (try simp only [List.map_toArray, List.map_cons, List.map_nil]); first | done | rfl | (simp only [List.length_drop, List.length_take]; rfl)) ?_
  with_reducible refine (wide_Of.calls 1 t286 t287 _ A15.out).mono ?_
  rintro e w66 ⟨rfl, hb⟩
  refine ⟨_, rfl, ?_⟩
  replace BK260 := kb BK260 hb
  replace BK261 := kb BK261 hb
  replace BK269 := kb BK269 hb
  replace BK273 := kb BK273 hb
  replace BK283 := kb BK283 hb
  replace HB := kB HB hb
  (try clear hb); (try clear hb2); (try clear hk); (try clear hi)
  refine hK.out _ _ ⟨kc BK260 0, kc BK260 1, kc BK261 0, kc BK261 1, kc BK269 0, kc BK269 1, kc BK283 0, kc BK283 1⟩ (fun hHeld => ?_)
  clear hK K
  refine norm_ (a' := ?_) ?_ ?_; rotate_left; focus (show Act.put _ (some 49) _ = _; simp only [Act.put, s1, s2, s3, i64_w, i32_w]; rfl)
  refine pure_ (i := 9) (N := some 50) (v := ?_) (a' := ?_) #[T, T, T, T, T, T, T, T, T, T, O, O, O, O, O, O, O, O, O, O, O, O, O, O, O, O, O, O, O, O, O, O, O, O, O, O, O, O, O, O, O, O, O, O, O, O, O, O, O, O, O, O, O, O, O] rfl rfl (any_of HT_.out (by kernel_rfl)) (fun _ _ _ h => h) (Or.inl ⟨by rfl, ?_⟩) ?_ ?_; rotate_left; focus (intro w'; go_simp; with_reducible rfl)
  rotate_left; focus (simp only [Act.put, s1, s2, s3, i64_w, i32_w]; rfl)
  refine pure_ (i := 10) (N := some 51) (v := ?_) (a' := ?_) #[T, T, T, T, T, T, T, T, T, T, T, O, O, O, O, O, O, O, O, O, O, O, O, O, O, O, O, O, O, O, O, O, O, O, O, O, O, O, O, O, O, O, O, O, O, O, O, O, O, O, O, O, O, O, O] rfl rfl (any_of HT_.out (by kernel_rfl)) (fun _ _ _ h => h) (Or.inl ⟨by rfl, ?_⟩) ?_ ?_; rotate_left; focus (intro w'; go_simp; with_reducible rfl)
  rotate_left; focus (simp only [Act.put, s1, s2, s3, i64_w, i32_w]; rfl)
  refine pure_ (i := 11) (N := some 52) (v := ?_) (a' := ?_) #[T, T, T, T, T, T, T, T, T, T, T, T, O, O, O, O, O, O, O, O, O, O, O, O, O, O, O, O, O, O, O, O, O, O, O, O, O, O, O, O, O, O, O, O, O, O, O, O, O, O, O, O, O, O, O] rfl rfl (any_of HT_.out (by kernel_rfl)) (fun _ _ _ h => h) (Or.inl ⟨by rfl, ?_⟩) ?_ ?_; rotate_left; focus (intro w'; go_simp; with_reducible rfl)
  rotate_left; focus (simp only [Act.put, s1, s2, s3, i64_w, i32_w]; rfl)
  refine pure_ (i := 12) (N := some 53) (v := ?_) (a' := ?_) #[T, T, T, T, T, T, T, T, T, T, T, T, T, O, O, O, O, O, O, O, O, O, O, O, O, O, O, O, O, O, O, O, O, O, O, O, O, O, O, O, O, O, O, O, O, O, O, O, O, O, O, O, O, O, O] rfl rfl (any_of HT_.out (by kernel_rfl)) (fun _ _ _ h => h) (Or.inl ⟨by rfl, ?_⟩) ?_ ?_; rotate_left; focus (intro w'; go_simp; with_reducible rfl)
  rotate_left; focus (simp only [Act.put, s1, s2, s3, i64_w, i32_w]; rfl)
  refine pure_ (i := 13) (N := some 54) (v := ?_) (a' := ?_) #[T, T, T, T, T, T, T, T, T, T, T, T, T, T, O, O, O, O, O, O, O, O, O, O, O, O, O, O, O, O, O, O, O, O, O, O, O, O, O, O, O, O, O, O, O, O, O, O, O, O, O, O, O, O, O] rfl rfl (any_of HT_.out (by kernel_rfl)) (fun _ _ _ h => h) (Or.inl ⟨by rfl, ?_⟩) ?_ ?_; rotate_left; focus (intro w'; go_simp; with_reducible rfl)
  rotate_left; focus (simp only [Act.put, s1, s2, s3, i64_w, i32_w]; rfl)
  refine pure_ (i := 14) (N := some 55) (v := ?_) (a' := ?_) #[T, T, T, T, T, T, T, T, T, T, T, T, T, T, T, O, O, O, O, O, O, O, O, O, O, O, O, O, O, O, O, O, O, O, O, O, O, O, O, O, O, O, O, O, O, O, O, O, O, O, O, O, O, O, O] rfl rfl (any_of HT_.out (by kernel_rfl)) (fun _ _ _ h => h) (Or.inl ⟨by rfl, ?_⟩) ?_ ?_; rotate_left; focus (intro w'; go_simp; with_reducible rfl)
  rotate_left; focus (simp only [Act.put, s1, s2, s3, i64_w, i32_w]; rfl)
  refine take_ (i := 15) (N := some 56) (v := ?_) (a' := ?_) #[T, T, T, T, T, T, T, T, T, T, T, T, T, T, T, T, O, O, O, O, O, O, O, O, O, O, O, O, O, O, O, O, O, O, O, O, O, O, O, O, O, O, O, O, O, O, O, O, O, O, O, O, O, O, O] rfl rfl (take_ofW HT_.out HW_.out (by kernel_rfl)) (fun _ _ _ h => h) (Or.inl ⟨by rfl, ?_⟩) hHeld ?_ ?_; rotate_left; focus (rintro w' ⟨s0, s1, s2, s3, s4, s5, s6, s7⟩; go_simp; with_reducible rfl)
  rotate_left; focus (simp only [Act.put, s1, s2, s3, i64_w, i32_w]; rfl)
  refine one_ (i := 16) (N := some 57) #[T, T, T, T, T, T, T, T, T, T, T, T, T, T, T, T, T, O, O, O, O, O, O, O, O, O, O, O, O, O, O, O, O, O, O, O, O, O, O, O, O, O, O, O, O, O, O, O, O, O, O, O, O, O, O] rfl rfl (one_of HT_.out (by kernel_rfl)) (by decide) (fun K hK => ?_)
  refine goes_ Try.func37 (by kernel_rfl) rfl #[.agg #[.int .i64 t266, .int .u64 t267]] (by rfl) rfl rfl (by (try simp only [List.map_toArray, List.map_cons, List.map_nil]); first | done | rfl | (simp only [List.length_drop, List.length_take]; rfl)) ?_
  with_reducible refine (wide_Text.calls k t266 t267 t288 _ A18.out).mono ?_
  rintro e w67 ⟨rfl, hb⟩
  refine ⟨_, rfl, ?_⟩
  replace BK260 := kb BK260 hb
  replace BK261 := kb BK261 hb
  replace BK269 := kb BK269 hb
  replace BK273 := kb BK273 hb
  replace BK283 := kb BK283 hb
  replace HB := kB HB hb
  (try clear hb); (try clear hb2); (try clear hk); (try clear hi)
  refine hK.out _ _ ⟨kc BK260 0, kc BK260 1, kc BK261 0, kc BK261 1, kc BK269 0, kc BK269 1, kc BK283 0, kc BK283 1⟩ (fun hHeld => ?_)
  clear hK K
  refine norm_ (a' := ?_) ?_ ?_; rotate_left; focus (show Act.put _ (some 57) _ = _; simp only [Act.put, s1, s2, s3, i64_w, i32_w]; rfl)
  refine pure_ (i := 17) (N := some 58) (v := ?_) (a' := ?_) #[T, T, T, T, T, T, T, T, T, T, T, T, T, T, T, T, T, T, O, O, O, O, O, O, O, O, O, O, O, O, O, O, O, O, O, O, O, O, O, O, O, O, O, O, O, O, O, O, O, O, O, O, O, O, O] rfl rfl (any_of HT_.out (by kernel_rfl)) (fun _ _ _ h => h) (Or.inl ⟨by rfl, ?_⟩) ?_ ?_; rotate_left; focus (intro w'; go_simp; with_reducible rfl)
  rotate_left; focus (simp only [Act.put, s1, s2, s3, i64_w, i32_w]; rfl)
  refine pure_ (i := 18) (N := some 59) (v := ?_) (a' := ?_) #[T, T, T, T, T, T, T, T, T, T, T, T, T, T, T, T, T, T, T, O, O, O, O, O, O, O, O, O, O, O, O, O, O, O, O, O, O, O, O, O, O, O, O, O, O, O, O, O, O, O, O, O, O, O, O] rfl rfl (any_of HT_.out (by kernel_rfl)) (fun _ _ _ h => h) (Or.inl ⟨by rfl, ?_⟩) ?_ ?_; rotate_left; focus (intro w'; go_simp; with_reducible rfl)
  rotate_left; focus (simp only [Act.put, s1, s2, s3, i64_w, i32_w]; rfl)
  refine pure_ (i := 19) (N := some 60) (v := ?_) (a' := ?_) #[T, T, T, T, T, T, T, T, T, T, T, T, T, T, T, T, T, T, T, T, O, O, O, O, O, O, O, O, O, O, O, O, O, O, O, O, O, O, O, O, O, O, O, O, O, O, O, O, O, O, O, O, O, O, O] rfl rfl (any_of HT_.out (by kernel_rfl)) (fun _ _ _ h => h) (Or.inl ⟨by rfl, ?_⟩) ?_ ?_; rotate_left; focus (intro w'; go_simp; with_reducible rfl)
  rotate_left; focus (simp only [Act.put, s1, s2, s3, i64_w, i32_w]; rfl)
  refine pure_ (i := 20) (N := some 61) (v := ?_) (a' := ?_) #[T, T, T, T, T, T, T, T, T, T, T, T, T, T, T, T, T, T, T, T, T, O, O, O, O, O, O, O, O, O, O, O, O, O, O, O, O, O, O, O, O, O, O, O, O, O, O, O, O, O, O, O, O, O, O] rfl rfl (any_of HT_.out (by kernel_rfl)) (fun _ _ _ h => h) (Or.inl ⟨by rfl, ?_⟩) ?_ ?_; rotate_left; focus (intro w'; go_simp; with_reducible rfl)
  rotate_left; focus (simp only [Act.put, s1, s2, s3, i64_w, i32_w]; rfl)
  refine pure_ (i := 21) (N := some 62) (v := ?_) (a' := ?_) #[T, T, T, T, T, T, T, T, T, T, T, T, T, T, T, T, T, T, T, T, T, T, O, O, O, O, O, O, O, O, O, O, O, O, O, O, O, O, O, O, O, O, O, O, O, O, O, O, O, O, O, O, O, O, O] rfl rfl (any_of HT_.out (by kernel_rfl)) (fun _ _ _ h => h) (Or.inl ⟨by rfl, ?_⟩) ?_ ?_; rotate_left; focus (intro w'; go_simp; with_reducible rfl)
  rotate_left; focus (simp only [Act.put, s1, s2, s3, i64_w, i32_w]; rfl)
  refine pure_ (i := 22) (N := some 63) (v := ?_) (a' := ?_) #[T, T, T, T, T, T, T, T, T, T, T, T, T, T, T, T, T, T, T, T, T, T, T, O, O, O, O, O, O, O, O, O, O, O, O, O, O, O, O, O, O, O, O, O, O, O, O, O, O, O, O, O, O, O, O] rfl rfl (any_of HT_.out (by kernel_rfl)) (fun _ _ _ h => h) (Or.inl ⟨by rfl, ?_⟩) ?_ ?_; rotate_left; focus (intro w'; go_simp; with_reducible rfl)
  rotate_left; focus (simp only [Act.put, s1, s2, s3, i64_w, i32_w]; rfl)
  refine pure_ (i := 23) (N := some 64) (v := ?_) (a' := ?_) #[T, T, T, T, T, T, T, T, T, T, T, T, T, T, T, T, T, T, T, T, T, T, T, T, O, O, O, O, O, O, O, O, O, O, O, O, O, O, O, O, O, O, O, O, O, O, O, O, O, O, O, O, O, O, O] rfl rfl (any_of HT_.out (by kernel_rfl)) (fun _ _ _ h => h) (Or.inl ⟨by rfl, ?_⟩) ?_ ?_; rotate_left; focus (intro w'; go_simp; with_reducible rfl)
  rotate_left; focus (simp only [Act.put, s1, s2, s3, i64_w, i32_w]; rfl)
  refine pure_ (i := 24) (N := some 65) (v := ?_) (a' := ?_) #[T, T, T, T, T, T, T, T, T, T, T, T, T, T, T, T, T, T, T, T, T, T, T, T, T, O, O, O, O, O, O, O, O, O, O, O, O, O, O, O, O, O, O, O, O, O, O, O, O, O, O, O, O, O, O] rfl rfl (any_of HT_.out (by kernel_rfl)) (fun _ _ _ h => h) (Or.inl ⟨by rfl, ?_⟩) ?_ ?_; rotate_left; focus (intro w'; go_simp; with_reducible rfl)
  rotate_left; focus (simp only [Act.put, s1, s2, s3, i64_w, i32_w]; rfl)
  refine pure_ (i := 25) (N := some 66) (v := ?_) (a' := ?_) #[T, T, T, T, T, T, T, T, T, T, T, T, T, T, T, T, T, T, T, T, T, T, T, T, T, T, O, O, O, O, O, O, O, O, O, O, O, O, O, O, O, O, O, O, O, O, O, O, O, O, O, O, O, O, O] rfl rfl (any_of HT_.out (by kernel_rfl)) (fun _ _ _ h => h) (Or.inl ⟨by rfl, ?_⟩) ?_ ?_; rotate_left; focus (intro w'; go_simp; with_reducible rfl)
  rotate_left; focus (simp only [Act.put, s1, s2, s3, i64_w, i32_w]; rfl)
  refine pure_ (i := 26) (N := some 67) (v := ?_) (a' := ?_) #[T, T, T, T, T, T, T, T, T, T, T, T, T, T, T, T, T, T, T, T, T, T, T, T, T, T, T, O, O, O, O, O, O, O, O, O, O, O, O, O, O, O, O, O, O, O, O, O, O, O, O, O, O, O, O] rfl rfl (any_of HT_.out (by kernel_rfl)) (fun _ _ _ h => h) (Or.inl ⟨by rfl, ?_⟩) ?_ ?_; rotate_left; focus (intro w'; go_simp; with_reducible rfl)
  rotate_left; focus (simp only [Act.put, s1, s2, s3, i64_w, i32_w]; rfl)
  refine pure_ (i := 27) (N := some 68) (v := ?_) (a' := ?_) #[T, T, T, T, T, T, T, T, T, T, T, T, T, T, T, T, T, T, T, T, T, T, T, T, T, T, T, T, O, O, O, O, O, O, O, O, O, O, O, O, O, O, O, O, O, O, O, O, O, O, O, O, O, O, O] rfl rfl (any_of HT_.out (by kernel_rfl)) (fun _ _ _ h => h) (Or.inl ⟨by rfl, ?_⟩) ?_ ?_; rotate_left; focus (intro w'; go_simp; with_reducible rfl)
  rotate_left; focus (simp only [Act.put, s1, s2, s3, i64_w, i32_w]; rfl)
  refine pure_ (i := 28) (N := some 69) (v := ?_) (a' := ?_) #[T, T, T, T, T, T, T, T, T, T, T, T, T, T, T, T, T, T, T, T, T, T, T, T, T, T, T, T, T, O, O, O, O, O, O, O, O, O, O, O, O, O, O, O, O, O, O, O, O, O, O, O, O, O, O] rfl rfl (any_of HT_.out (by kernel_rfl)) (fun _ _ _ h => h) (Or.inl ⟨by rfl, ?_⟩) ?_ ?_; rotate_left; focus (intro w'; go_simp; with_reducible rfl)
  rotate_left; focus (simp only [Act.put, s1, s2, s3, i64_w, i32_w]; rfl)
  refine pure_ (i := 29) (N := some 70) (v := ?_) (a' := ?_) #[T, T, T, T, T, T, T, T, T, T, T, T, T, T, T, T, T, T, T, T, T, T, T, T, T, T, T, T, T, T, O, O, O, O, O, O, O, O, O, O, O, O, O, O, O, O, O, O, O, O, O, O, O, O, O] rfl rfl (any_of HT_.out (by kernel_rfl)) (fun _ _ _ h => h) (Or.inl ⟨by rfl, ?_⟩) ?_ ?_; rotate_left; focus (intro w'; go_simp; with_reducible rfl)
  rotate_left; focus (simp only [Act.put, s1, s2, s3, i64_w, i32_w]; rfl)
  refine pure_ (i := 30) (N := some 71) (v := ?_) (a' := ?_) #[T, T, T, T, T, T, T, T, T, T, T, T, T, T, T, T, T, T, T, T, T, T, T, T, T, T, T, T, T, T, T, O, O, O, O, O, O, O, O, O, O, O, O, O, O, O, O, O, O, O, O, O, O, O, O] rfl rfl (any_of HT_.out (by kernel_rfl)) (fun _ _ _ h => h) (Or.inl ⟨by rfl, ?_⟩) ?_ ?_; rotate_left; focus (intro w'; go_simp; with_reducible rfl)
  rotate_left; focus (simp only [Act.put, s1, s2, s3, i64_w, i32_w]; rfl)
  refine pure_ (i := 31) (N := some 72) (v := ?_) (a' := ?_) #[T, T, T, T, T, T, T, T, T, T, T, T, T, T, T, T, T, T, T, T, T, T, T, T, T, T, T, T, T, T, T, T, O, O, O, O, O, O, O, O, O, O, O, O, O, O, O, O, O, O, O, O, O, O, O] rfl rfl (any_of HT_.out (by kernel_rfl)) (fun _ _ _ h => h) (Or.inl ⟨by rfl, ?_⟩) ?_ ?_; rotate_left; focus (intro w'; go_simp; with_reducible rfl)
  rotate_left; focus (simp only [Act.put, s1, s2, s3, i64_w, i32_w]; rfl)
  refine pure_ (i := 32) (N := some 73) (v := ?_) (a' := ?_) #[T, T, T, T, T, T, T, T, T, T, T, T, T, T, T, T, T, T, T, T, T, T, T, T, T, T, T, T, T, T, T, T, T, O, O, O, O, O, O, O, O, O, O, O, O, O, O, O, O, O, O, O, O, O, O] rfl rfl (any_of HT_.out (by kernel_rfl)) (fun _ _ _ h => h) (Or.inl ⟨by rfl, ?_⟩) ?_ ?_; rotate_left; focus (intro w'; go_simp; with_reducible rfl)
  rotate_left; focus (simp only [Act.put, s1, s2, s3, i64_w, i32_w]; rfl)
  refine pure_ (i := 33) (N := some 74) (v := ?_) (a' := ?_) #[T, T, T, T, T, T, T, T, T, T, T, T, T, T, T, T, T, T, T, T, T, T, T, T, T, T, T, T, T, T, T, T, T, T, O, O, O, O, O, O, O, O, O, O, O, O, O, O, O, O, O, O, O, O, O] rfl rfl (any_of HT_.out (by kernel_rfl)) (fun _ _ _ h => h) (Or.inl ⟨by rfl, ?_⟩) ?_ ?_; rotate_left; focus (intro w'; go_simp; with_reducible rfl)
  rotate_left; focus (simp only [Act.put, s1, s2, s3, i64_w, i32_w]; rfl)
  refine take_ (i := 34) (N := some 75) (v := ?_) (a' := ?_) #[T, T, T, T, T, T, T, T, T, T, T, T, T, T, T, T, T, T, T, T, T, T, T, T, T, T, T, T, T, T, T, T, T, T, T, O, O, O, O, O, O, O, O, O, O, O, O, O, O, O, O, O, O, O, O] rfl rfl (take_ofW HT_.out HW_.out (by kernel_rfl)) (fun _ _ _ h => h) (Or.inl ⟨by rfl, ?_⟩) hHeld ?_ ?_; rotate_left; focus (rintro w' ⟨s0, s1, s2, s3, s4, s5, s6, s7⟩; go_simp; with_reducible rfl)
  rotate_left; focus (simp only [Act.put, s1, s2, s3, i64_w, i32_w]; rfl)
  refine one_ (i := 35) (N := some 76) #[T, T, T, T, T, T, T, T, T, T, T, T, T, T, T, T, T, T, T, T, T, T, T, T, T, T, T, T, T, T, T, T, T, T, T, T, O, O, O, O, O, O, O, O, O, O, O, O, O, O, O, O, O, O, O] rfl rfl (one_of HT_.out (by kernel_rfl)) (by decide) (fun K hK => ?_)
  refine goes_ Try.func32 (by kernel_rfl) rfl #[.int .i64 12] (by rfl) rfl rfl (by (try simp only [List.map_toArray, List.map_cons, List.map_nil]); first | done | rfl | (simp only [List.length_drop, List.length_take]; rfl)) ?_
  with_reducible refine (wide_Of.calls 12 t289 t290 _ A24.out).mono ?_
  rintro e w68 ⟨rfl, hb⟩
  refine ⟨_, rfl, ?_⟩
  replace BK260 := kb BK260 hb
  replace BK261 := kb BK261 hb
  replace BK269 := kb BK269 hb
  replace BK273 := kb BK273 hb
  replace BK283 := kb BK283 hb
  replace HB := kB HB hb
  (try clear hb); (try clear hb2); (try clear hk); (try clear hi)
  refine hK.out _ _ ⟨kc BK260 0, kc BK260 1, kc BK261 0, kc BK261 1, kc BK269 0, kc BK269 1, kc BK283 0, kc BK283 1⟩ (fun hHeld => ?_)
  clear hK K
  refine norm_ (a' := ?_) ?_ ?_; rotate_left; focus (show Act.put _ (some 76) _ = _; simp only [Act.put, s1, s2, s3, i64_w, i32_w]; rfl)
  refine pure_ (i := 36) (N := some 77) (v := ?_) (a' := ?_) #[T, T, T, T, T, T, T, T, T, T, T, T, T, T, T, T, T, T, T, T, T, T, T, T, T, T, T, T, T, T, T, T, T, T, T, T, T, O, O, O, O, O, O, O, O, O, O, O, O, O, O, O, O, O, O] rfl rfl (any_of HT_.out (by kernel_rfl)) (fun _ _ _ h => h) (Or.inl ⟨by rfl, ?_⟩) ?_ ?_; rotate_left; focus (intro w'; go_simp; with_reducible rfl)
  rotate_left; focus (simp only [Act.put, s1, s2, s3, i64_w, i32_w]; rfl)
  refine pure_ (i := 37) (N := some 78) (v := ?_) (a' := ?_) #[T, T, T, T, T, T, T, T, T, T, T, T, T, T, T, T, T, T, T, T, T, T, T, T, T, T, T, T, T, T, T, T, T, T, T, T, T, T, O, O, O, O, O, O, O, O, O, O, O, O, O, O, O, O, O] rfl rfl (any_of HT_.out (by kernel_rfl)) (fun _ _ _ h => h) (Or.inl ⟨by rfl, ?_⟩) ?_ ?_; rotate_left; focus (intro w'; go_simp; with_reducible rfl)
  rotate_left; focus (simp only [Act.put, s1, s2, s3, i64_w, i32_w]; rfl)
  refine pure_ (i := 38) (N := some 79) (v := ?_) (a' := ?_) #[T, T, T, T, T, T, T, T, T, T, T, T, T, T, T, T, T, T, T, T, T, T, T, T, T, T, T, T, T, T, T, T, T, T, T, T, T, T, T, O, O, O, O, O, O, O, O, O, O, O, O, O, O, O, O] rfl rfl (any_of HT_.out (by kernel_rfl)) (fun _ _ _ h => h) (Or.inl ⟨by rfl, ?_⟩) ?_ ?_; rotate_left; focus (intro w'; go_simp; with_reducible rfl)
  rotate_left; focus (simp only [Act.put, s1, s2, s3, i64_w, i32_w]; rfl)
  refine take_ (i := 39) (N := some 80) (v := ?_) (a' := ?_) #[T, T, T, T, T, T, T, T, T, T, T, T, T, T, T, T, T, T, T, T, T, T, T, T, T, T, T, T, T, T, T, T, T, T, T, T, T, T, T, T, O, O, O, O, O, O, O, O, O, O, O, O, O, O, O] rfl rfl (take_ofW HT_.out HW_.out (by kernel_rfl)) (fun _ _ _ h => h) (Or.inl ⟨by rfl, ?_⟩) hHeld ?_ ?_; rotate_left; focus (rintro w' ⟨s0, s1, s2, s3, s4, s5, s6, s7⟩; go_simp; with_reducible rfl)
  rotate_left; focus (simp only [Act.put, s1, s2, s3, i64_w, i32_w]; rfl)
  refine take_ (i := 40) (N := some 81) (v := ?_) (a' := ?_) #[T, T, T, T, T, T, T, T, T, T, T, T, T, T, T, T, T, T, T, T, T, T, T, T, T, T, T, T, T, T, T, T, T, T, T, T, T, T, T, T, T, O, O, O, O, O, O, O, O, O, O, O, O, O, O] rfl rfl (take_ofW HT_.out HW_.out (by kernel_rfl)) (fun _ _ _ h => h) (Or.inl ⟨by rfl, ?_⟩) hHeld ?_ ?_; rotate_left; focus (rintro w' ⟨s0, s1, s2, s3, s4, s5, s6, s7⟩; go_simp; with_reducible rfl)
  rotate_left; focus (simp only [Act.put, s1, s2, s3, i64_w, i32_w]; rfl)
  refine one_ (i := 41) (N := some 82) #[T, T, T, T, T, T, T, T, T, T, T, T, T, T, T, T, T, T, T, T, T, T, T, T, T, T, T, T, T, T, T, T, T, T, T, T, T, T, T, T, T, T, O, O, O, O, O, O, O, O, O, O, O, O, O] rfl rfl (one_of HT_.out (by kernel_rfl)) (by decide) (fun K hK => ?_)
  refine goes_ Try.func24 (by kernel_rfl) rfl #[.agg #[.int .i64 t266, .int .u64 t267], .agg #[.int .i64 t255, .int .u64 t256]] (by rfl) rfl rfl (by (try simp only [List.map_toArray, List.map_cons, List.map_nil]); first | done | rfl | (simp only [List.length_drop, List.length_take]; rfl)) ?_
  with_reducible refine (wide_Cmp.calls k t266 t267 t255 t256 t291 _ A26.out).mono ?_
  rintro e w69 ⟨rfl, hb⟩
  refine ⟨_, rfl, ?_⟩
  replace BK260 := kb BK260 hb
  replace BK261 := kb BK261 hb
  replace BK269 := kb BK269 hb
  replace BK273 := kb BK273 hb
  replace BK283 := kb BK283 hb
  replace HB := kB HB hb
  (try clear hb); (try clear hb2); (try clear hk); (try clear hi)
  refine hK.out _ _ ⟨kc BK260 0, kc BK260 1, kc BK261 0, kc BK261 1, kc BK269 0, kc BK269 1, kc BK283 0, kc BK283 1⟩ (fun hHeld => ?_)
  clear hK K
  refine norm_ (a' := ?_) ?_ ?_; rotate_left; focus (show Act.put _ (some 82) _ = _; simp only [Act.put, s1, s2, s3, i64_w, i32_w]; rfl)
  refine pure_ (i := 42) (N := some 83) (v := ?_) (a' := ?_) #[T, T, T, T, T, T, T, T, T, T, T, T, T, T, T, T, T, T, T, T, T, T, T, T, T, T, T, T, T, T, T, T, T, T, T, T, T, T, T, T, T, T, T, O, O, O, O, O, O, O, O, O, O, O, O] rfl rfl (any_of HT_.out (by kernel_rfl)) (fun _ _ _ h => h) (Or.inl ⟨by rfl, ?_⟩) ?_ ?_; rotate_left; focus (intro w'; go_simp; with_reducible rfl)
  rotate_left; focus (simp only [Act.put, s1, s2, s3, i64_w, i32_w]; rfl)
  refine pure_ (i := 43) (N := some 84) (v := ?_) (a' := ?_) #[T, T, T, T, T, T, T, T, T, T, T, T, T, T, T, T, T, T, T, T, T, T, T, T, T, T, T, T, T, T, T, T, T, T, T, T, T, T, T, T, T, T, T, T, O, O, O, O, O, O, O, O, O, O, O] rfl rfl (any_of HT_.out (by kernel_rfl)) (fun _ _ _ h => h) (Or.inl ⟨by rfl, ?_⟩) ?_ ?_; rotate_left; focus (intro w'; go_simp; with_reducible rfl)
  rotate_left; focus (simp only [Act.put, s1, s2, s3, i64_w, i32_w]; rfl)
  refine pure_ (i := 44) (N := some 85) (v := ?_) (a' := ?_) #[T, T, T, T, T, T, T, T, T, T, T, T, T, T, T, T, T, T, T, T, T, T, T, T, T, T, T, T, T, T, T, T, T, T, T, T, T, T, T, T, T, T, T, T, T, O, O, O, O, O, O, O, O, O, O] rfl rfl (any_of HT_.out (by kernel_rfl)) (fun _ _ _ h => h) (Or.inl ⟨by rfl, ?_⟩) ?_ ?_; rotate_left; focus (intro w'; go_simp; with_reducible rfl)
  rotate_left; focus (simp only [Act.put, s1, s2, s3, i64_w, i32_w]; rfl)
  refine take_ (i := 45) (N := some 86) (v := ?_) (a' := ?_) #[T, T, T, T, T, T, T, T, T, T, T, T, T, T, T, T, T, T, T, T, T, T, T, T, T, T, T, T, T, T, T, T, T, T, T, T, T, T, T, T, T, T, T, T, T, T, O, O, O, O, O, O, O, O, O] rfl rfl (take_ofW HT_.out HW_.out (by kernel_rfl)) (fun _ _ _ h => h) (Or.inl ⟨by rfl, ?_⟩) hHeld ?_ ?_; rotate_left; focus (rintro w' ⟨s0, s1, s2, s3, s4, s5, s6, s7⟩; go_simp; with_reducible rfl)
  rotate_left; focus (simp only [Act.put, s1, s2, s3, i64_w, i32_w]; rfl)
  refine one_ (i := 46) (N := some 87) #[T, T, T, T, T, T, T, T, T, T, T, T, T, T, T, T, T, T, T, T, T, T, T, T, T, T, T, T, T, T, T, T, T, T, T, T, T, T, T, T, T, T, T, T, T, T, T, O, O, O, O, O, O, O, O] rfl rfl (one_of HT_.out (by kernel_rfl)) (by decide) (fun K hK => ?_)
  refine goes_ Try.func26 (by kernel_rfl) rfl #[.agg #[.int .i64 t266, .int .u64 t267]] (by rfl) rfl rfl (by (try simp only [List.map_toArray, List.map_cons, List.map_nil]); first | done | rfl | (simp only [List.length_drop, List.length_take]; rfl)) ?_
  with_reducible refine (wide_Sign.calls t266 t267 t292 _ A28.out).mono ?_
  rintro e w70 ⟨rfl, hb⟩
  refine ⟨_, rfl, ?_⟩
  replace BK260 := kb BK260 hb
  replace BK261 := kb BK261 hb
  replace BK269 := kb BK269 hb
  replace BK273 := kb BK273 hb
  replace BK283 := kb BK283 hb
  replace HB := kB HB hb
  (try clear hb); (try clear hb2); (try clear hk); (try clear hi)
  refine hK.out _ _ ⟨kc BK260 0, kc BK260 1, kc BK261 0, kc BK261 1, kc BK269 0, kc BK269 1, kc BK283 0, kc BK283 1⟩ (fun hHeld => ?_)
  clear hK K
  refine norm_ (a' := ?_) ?_ ?_; rotate_left; focus (show Act.put _ (some 87) _ = _; simp only [Act.put, s1, s2, s3, i64_w, i32_w]; rfl)
  refine pure_ (i := 47) (N := some 88) (v := ?_) (a' := ?_) #[T, T, T, T, T, T, T, T, T, T, T, T, T, T, T, T, T, T, T, T, T, T, T, T, T, T, T, T, T, T, T, T, T, T, T, T, T, T, T, T, T, T, T, T, T, T, T, T, O, O, O, O, O, O, O] rfl rfl (any_of HT_.out (by kernel_rfl)) (fun _ _ _ h => h) (Or.inl ⟨by rfl, ?_⟩) ?_ ?_; rotate_left; focus (intro w'; go_simp; with_reducible rfl)
  rotate_left; focus (simp only [Act.put, s1, s2, s3, i64_w, i32_w]; rfl)
  refine pure_ (i := 48) (N := some 89) (v := ?_) (a' := ?_) #[T, T, T, T, T, T, T, T, T, T, T, T, T, T, T, T, T, T, T, T, T, T, T, T, T, T, T, T, T, T, T, T, T, T, T, T, T, T, T, T, T, T, T, T, T, T, T, T, T, O, O, O, O, O, O] rfl rfl (any_of HT_.out (by kernel_rfl)) (fun _ _ _ h => h) (Or.inl ⟨by rfl, ?_⟩) ?_ ?_; rotate_left; focus (intro w'; go_simp; with_reducible rfl)
  rotate_left; focus (simp only [Act.put, s1, s2, s3, i64_w, i32_w]; rfl)
  refine pure_ (i := 49) (N := some 90) (v := ?_) (a' := ?_) #[T, T, T, T, T, T, T, T, T, T, T, T, T, T, T, T, T, T, T, T, T, T, T, T, T, T, T, T, T, T, T, T, T, T, T, T, T, T, T, T, T, T, T, T, T, T, T, T, T, T, O, O, O, O, O] rfl rfl (any_of HT_.out (by kernel_rfl)) (fun _ _ _ h => h) (Or.inl ⟨by rfl, ?_⟩) ?_ ?_; rotate_left; focus (intro w'; go_simp; with_reducible rfl)
  rotate_left; focus (simp only [Act.put, s1, s2, s3, i64_w, i32_w]; rfl)
  refine one_ (i := 50) (N := some 91) #[T, T, T, T, T, T, T, T, T, T, T, T, T, T, T, T, T, T, T, T, T, T, T, T, T, T, T, T, T, T, T, T, T, T, T, T, T, T, T, T, T, T, T, T, T, T, T, T, T, T, T, O, O, O, O] rfl rfl (one_of HT_.out (by kernel_rfl)) (by decide) (fun K hK => ?_)
  refine goes_ Try.func20 (by kernel_rfl) rfl #[.int .i64 3, .int .i64 (-4)] (by rfl) rfl rfl (by (try simp only [List.map_toArray, List.map_cons, List.map_nil]); first | done | rfl | (simp only [List.length_drop, List.length_take]; rfl)) ?_
  with_reducible refine (wide_Times.calls k 3 (-4) t293 t294 _ A30.out).mono ?_
  rintro e w71 ⟨rfl, hb⟩
  refine ⟨_, rfl, ?_⟩
  replace BK260 := kb BK260 hb
  replace BK261 := kb BK261 hb
  replace BK269 := kb BK269 hb
  replace BK273 := kb BK273 hb
  replace BK283 := kb BK283 hb
  replace HB := kB HB hb
  (try clear hb); (try clear hb2); (try clear hk); (try clear hi)
  refine hK.out _ _ ⟨kc BK260 0, kc BK260 1, kc BK261 0, kc BK261 1, kc BK269 0, kc BK269 1, kc BK283 0, kc BK283 1⟩ (fun hHeld => ?_)
  clear hK K
  refine norm_ (a' := ?_) ?_ ?_; rotate_left; focus (show Act.put _ (some 91) _ = _; simp only [Act.put, s1, s2, s3, i64_w, i32_w]; rfl)
  refine one_ (i := 51) (N := some 92) #[T, T, T, T, T, T, T, T, T, T, T, T, T, T, T, T, T, T, T, T, T, T, T, T, T, T, T, T, T, T, T, T, T, T, T, T, T, T, T, T, T, T, T, T, T, T, T, T, T, T, T, T, O, O, O] rfl rfl (one_of HT_.out (by kernel_rfl)) (by decide) (fun K hK => ?_)
  refine goes_ Try.func32 (by kernel_rfl) rfl #[.int .i64 (-12)] (by rfl) rfl rfl (by (try simp only [List.map_toArray, List.map_cons, List.map_nil]); first | done | rfl | (simp only [List.length_drop, List.length_take]; rfl)) ?_
  with_reducible refine (wide_Of.calls (-12) t295 t296 _ A31.out).mono ?_
  rintro e w72 ⟨rfl, hb⟩
  refine ⟨_, rfl, ?_⟩
  replace BK260 := kb BK260 hb
  replace BK261 := kb BK261 hb
  replace BK269 := kb BK269 hb
  replace BK273 := kb BK273 hb
  replace BK283 := kb BK283 hb
  replace HB := kB HB hb
  (try clear hb); (try clear hb2); (try clear hk); (try clear hi)
  refine hK.out _ _ ⟨kc BK260 0, kc BK260 1, kc BK261 0, kc BK261 1, kc BK269 0, kc BK269 1, kc BK283 0, kc BK283 1⟩ (fun hHeld => ?_)
  clear hK K
  refine norm_ (a' := ?_) ?_ ?_; rotate_left; focus (show Act.put _ (some 92) _ = _; simp only [Act.put, s1, s2, s3, i64_w, i32_w]; rfl)
  refine pure_ (i := 52) (N := some 93) (v := ?_) (a' := ?_) #[T, T, T, T, T, T, T, T, T, T, T, T, T, T, T, T, T, T, T, T, T, T, T, T, T, T, T, T, T, T, T, T, T, T, T, T, T, T, T, T, T, T, T, T, T, T, T, T, T, T, T, T, T, O, O] rfl rfl (any_of HT_.out (by kernel_rfl)) (fun _ _ _ h => h) (Or.inl ⟨by rfl, ?_⟩) ?_ ?_; rotate_left; focus (intro w'; go_simp; with_reducible rfl)
  rotate_left; focus (simp only [Act.put, s1, s2, s3, i64_w, i32_w]; rfl)
  refine pure_ (i := 53) (N := some 94) (v := ?_) (a' := ?_) #[T, T, T, T, T, T, T, T, T, T, T, T, T, T, T, T, T, T, T, T, T, T, T, T, T, T, T, T, T, T, T, T, T, T, T, T, T, T, T, T, T, T, T, T, T, T, T, T, T, T, T, T, T, T, O] rfl rfl (any_of HT_.out (by kernel_rfl)) (fun _ _ _ h => h) (Or.inl ⟨by rfl, ?_⟩) ?_ ?_; rotate_left; focus (intro w'; go_simp; with_reducible rfl)
  rotate_left; focus (simp only [Act.put, s1, s2, s3, i64_w, i32_w]; rfl)
  refine pure_ (i := 54) (N := some 0) (v := ?_) (a' := ?_) #[T, T, T, T, T, T, T, T, T, T, T, T, T, T, T, T, T, T, T, T, T, T, T, T, T, T, T, T, T, T, T, T, T, T, T, T, T, T, T, T, T, T, T, T, T, T, T, T, T, T, T, T, T, T, T] rfl rfl (any_of HT_.out (by kernel_rfl)) (fun _ _ _ h => h) (Or.inl ⟨by rfl, ?_⟩) ?_ ?_; rotate_left; focus (intro w'; go_simp; with_reducible rfl)
  rotate_left; focus (simp only [Act.put, s1, s2, s3, i64_w, i32_w]; rfl)
  refine done_ (done_of HT_.out (by kernel_rfl)) ?_
  try go_wp2
  go_ret
  exact ⟨by first | rfl | (simp [errW_none, errW_some] <;> rfl) | (simp [*, errW_none, errW_some] <;> rfl), ky HB⟩
end Go.Proofs.Ytpjbniihdndlmaa.Q
