-- Printed by wip/pp.sh (a session's own turning of the kit's print) for this seat.
import Derived.Test.YtpjbniihdndlmaaQx0
import Derived.Test.YtpjbniihdndlmaaQx1
import Derived.Test.YtpjbniihdndlmaaQx2
import Derived.Test.YtpjbniihdndlmaaQx6
import Derived.Test.YtpjbniihdndlmaaQx7
import Derived.Test.YtpjbniihdndlmaaQx27
import Derived.Test.YtpjbniihdndlmaaQx28
import Derived.Test.YtpjbniihdndlmaaQx31
import Derived.Test.YtpjbniihdndlmaaQx33
namespace Go.Proofs.Ytpjbniihdndlmaa.Q
open Go.RowKit Go.Proofs.YtpjbniihdndlmaaW.PrintWords Go.Proofs.YtpjbniihdndlmaaW.PrintLast Go.Proofs.YtpjbniihdndlmaaW.PrintMore
open Go.Proofs.Ytpjbniihdndlmaa.H
attribute [local go_sem] hq_add64 hq_sub64 hq_not64 add64c_nn sub64c_nn sub64c_le
attribute [local go_sem] max2_int min2_int max_two min_two max_three min_three max_four min_four   -- for this text's walks alone
set_option linter.unusedVariables false
set_option linter.unusedSimpArgs false

attribute [local go_sem high] eqA24 eqA62
/-! ### frac_Make: function 46 -/
def frac_Make.j0 : Nat → Bool → Int → Int → Int → Int → Option (Int × Int × Int × Int × Bool)
  | 0, _, _, _, _, _ => none
  | k + 1, x36, x907000, x907001, x911000, x911001 => if x36 = true then (some (0, 0, 0, 0, false)) else (some (x907000, x907001, x911000, x911001, true))
def frac_Make.f (k : Nat) (a0_0 : Int) (a0_1 : Int) (a1_0 : Int) (a1_1 : Int) : Option (Int × Int × Int × Int × Bool) := (wide_Sign.f a1_0 a1_1).bind fun t902 => (if t902 > 0 then (some (a0_0, a0_1, a1_0, a1_1, true)) else ((wide_Neg.f a0_0 a0_1).bind fun bt903 => ((wide_Neg.f a1_0 a1_1).bind fun bt907 => (if bt903.2.2 = true then (if bt907.2.2 = true then ((wide_Sign.f bt907.1 bt907.2.1).bind fun t911 => (frac_Make.j0 k (t911 == 0) bt903.1 bt903.2.1 bt907.1 bt907.2.1)) else (frac_Make.j0 k true bt903.1 bt903.2.1 bt907.1 bt907.2.1)) else (frac_Make.j0 k true bt903.1 bt903.2.1 bt907.1 bt907.2.1)))))
theorem frac_Make.mono_l : ∀ k, (∀ y0 y1 y2 y3 y4, LeO (frac_Make.j0 k y0 y1 y2 y3 y4) (frac_Make.j0 (k + 1) y0 y1 y2 y3 y4))
  | 0 => fun _ _ _ _ _ r h => by simp [frac_Make.j0] at h
  | k + 1 => by
    have ih0 := frac_Make.mono_l k
    · intro y0 y1 y2 y3 y4
      unfold frac_Make.j0
      repeat' first
      | (with_reducible exact ih0 _ _ _ _ _)
      | (with_reducible exact LeO.refl _)
      | (with_reducible exact LeO.none _)
      | (with_reducible refine LeO.ite ?_ ?_)
      | (with_reducible refine LeO.bind ?_ (fun _ => ?_))
      | exact ih0 _ _ _ _ _
      | exact LeO.none _
      | refine LeO.ite ?_ ?_
      | refine LeO.bind ?_ (fun _ => ?_)
theorem frac_Make.mono : ∀ a0 a1 a2 a3 k, LeO (frac_Make.f k a0 a1 a2 a3) (frac_Make.f (k + 1) a0 a1 a2 a3) := by
  intro a0 a1 a2 a3 k
  have ih0 := frac_Make.mono_l k
  unfold frac_Make.f
  repeat' first
      | (with_reducible exact ih0 _ _ _ _ _)
      | (with_reducible exact LeO.refl _)
      | (with_reducible exact LeO.none _)
      | (with_reducible refine LeO.ite ?_ ?_)
      | (with_reducible refine LeO.bind ?_ (fun _ => ?_))
      | exact ih0 _ _ _ _ _
      | exact LeO.none _
      | refine LeO.ite ?_ ?_
      | refine LeO.bind ?_ (fun _ => ?_)
set_option maxHeartbeats 8000000 in
set_option maxRecDepth 100000 in
theorem frac_Make.calls (k : Nat) (a0_0 : Int) (a0_1 : Int) (a1_0 : Int) (a1_1 : Int) (r1 : Int) (r2 : Int) (r3 : Int) (r4 : Int) (r5 : Bool) (w : World) (h : frac_Make.f k a0_0 a0_1 a1_0 a1_1 = some (r1, r2, r3, r4, r5)) :
    Calls Try.prog 46 #[.agg #[.int .i64 a0_0, .int .u64 a0_1], .agg #[.int .i64 a1_0, .int .u64 a1_1]] w fun e w' => e = .returned (.tuple #[.agg #[.int .i64 r1, .int .u64 r2, .int .i64 r3, .int .u64 r4], .bool r5]) ∧ Below w.heap.size w w' := by
  have hu24 := Try.underlying24
  have hu62 := Try.underlying62
  have HB := Aside0.mk (Below.refl w.heap.size w)
  have H : ((wide_Sign.f a1_0 a1_1).bind fun t902 => (if t902 > 0 then (some (a0_0, a0_1, a1_0, a1_1, true)) else ((wide_Neg.f a0_0 a0_1).bind fun bt903 => ((wide_Neg.f a1_0 a1_1).bind fun bt907 => (if bt903.2.2 = true then (if bt907.2.2 = true then ((wide_Sign.f bt907.1 bt907.2.1).bind fun t911 => (frac_Make.j0 k (t911 == 0) bt903.1 bt903.2.1 bt907.1 bt907.2.1)) else (frac_Make.j0 k true bt903.1 bt903.2.1 bt907.1 bt907.2.1)) else (frac_Make.j0 k true bt903.1 bt903.2.1 bt907.1 bt907.2.1)))))) = some (r1, r2, r3, r4, r5) := h
  clear h
  replace H := Option.bind_eq_some_iff.mp H
  obtain ⟨t902, A30, H⟩ := H
  replace H : (if t902 > 0 then (some (a0_0, a0_1, a1_0, a1_1, true)) else ((wide_Neg.f a0_0 a0_1).bind fun bt903 => ((wide_Neg.f a1_0 a1_1).bind fun bt907 => (if bt903.2.2 = true then (if bt907.2.2 = true then ((wide_Sign.f bt907.1 bt907.2.1).bind fun t911 => (frac_Make.j0 k (t911 == 0) bt903.1 bt903.2.1 bt907.1 bt907.2.1)) else (frac_Make.j0 k true bt903.1 bt903.2.1 bt907.1 bt907.2.1)) else (frac_Make.j0 k true bt903.1 bt903.2.1 bt907.1 bt907.2.1))))) = some (r1, r2, r3, r4, r5) := H
  have A3 := Aside0.mk A30
  clear A30
  by_cases c4 : t902 > 0
  · rw [if_pos c4] at H
    have c4b0 : decide (0 < t902) = true := decide_eq_true c4
    clear c4
    simp only [Option.some.injEq, Prod.mk.injEq] at H
    obtain ⟨rfl, rfl, rfl, rfl, rfl⟩ := H
    go_enter Try.func46, Try.ntmps46
    go_wp2_with (first | ((with_reducible refine gate_dst (N := 2) rfl ?_); refine box_event ?hg (N := 2) ?hd (cs := #[.int .i64 a0_0, .int .u64 a0_1]) (t := 24) ?hr ?_; (case hd => rfl); (case hg => rfl); (case hr => first | (go_simp; done) | (go_simp; rfl)); intro gb899 hg w5 hbox hb; have BK899 := Aside0.mk (hbox); have GW899 := kS HB hg; have GE899 := kS HB hg; replace HB := kB HB hb; clear hb hbox hg) | ((with_reducible refine gate_dst (N := 3) rfl ?_); refine box_event ?hg (N := 3) ?hd (cs := #[.int .i64 a1_0, .int .u64 a1_1]) (t := 24) ?hr ?_; (case hd => rfl); (case hg => rfl); (case hr => first | (go_simp; done) | (go_simp; rfl)); intro gb900 hg w6 hbox hb; have BK900 := Aside0.mk (hbox); have GW900 := kS HB hg; have GE900 := kS HB hg; have NB899_900 := kN BK899 hg; have NB900_899 := kM BK899 hg; replace BK899 := kb BK899 hb; replace HB := kB HB hb; clear hb hbox hg) | ((with_reducible refine gate_dst (N := 4) rfl ?_); refine box_event ?hg (N := 4) ?hd (cs := #[.int .i64 0, .int .u64 0, .int .i64 0, .int .u64 0]) (t := 62) ?hr ?_; (case hd => rfl); (case hg => rfl); (case hr => first | (go_simp; done) | (go_simp; rfl)); intro gb901 hg w7 hbox hb; have BK901 := Aside0.mk (hbox); have GW901 := kS HB hg; have GE901 := kS HB hg; have NB899_901 := kN BK899 hg; have NB901_899 := kM BK899 hg; have NB900_901 := kN BK900 hg; have NB901_900 := kM BK900 hg; replace BK899 := kb BK899 hb; replace BK900 := kb BK900 hb; replace HB := kB HB hb; clear hb hbox hg; have hnb8 := NB900_899.out; have hnc8 := NB899_900.out; have hnb9 := NB900_901.out; have hnc9 := NB901_900.out; have hcz10_0 : w7.cell? ⟨gb900, 0, none⟩ = some (.int .i64 a1_0) := kc BK900 0; have hcz10_1 : w7.cell? ⟨gb900, 1, none⟩ = some (.int .u64 a1_1) := kc BK900 1; have hfz10_0 := blk_frozen BK900.out 0; have hfz10_1 := blk_frozen BK900.out 1) | ((with_reducible refine gate_callee (f := 26) rfl ?_); refine goesL_ (some 11) rfl rfl Try.func26 (by kernel_rfl) rfl #[.agg #[.int .i64 a1_0, .int .u64 a1_1]] rfl (by (try simp only [List.map_toArray, List.map_cons, List.map_nil]); first | done | rfl | (simp only [List.length_drop, List.length_take]; rfl)) ?_; (with_reducible refine (wide_Sign.calls a1_0 a1_1 t902 _ A3.out).mono ?_); rintro e w11 ⟨rfl, hb⟩; refine ⟨_, rfl, ?_⟩; replace BK899 := kb BK899 hb; replace BK900 := kb BK900 hb; replace BK901 := kb BK901 hb; replace HB := kB HB hb; (try clear hb); (try clear hb2); (try clear hk); (try clear hi); have hnb12 := NB899_901.out; have hnc12 := NB901_899.out; have hcz13_0 : w11.cell? ⟨gb899, 0, none⟩ = some (.int .i64 a0_0) := kc BK899 0; have hcz13_1 : w11.cell? ⟨gb899, 1, none⟩ = some (.int .u64 a0_1) := kc BK899 1; have hfz13_0 := blk_frozen BK899.out 0; have hfz13_1 := blk_frozen BK899.out 1; have hcz14_0 : w11.cell? ⟨gb900, 0, none⟩ = some (.int .i64 a1_0) := kc BK900 0; have hcz14_1 : w11.cell? ⟨gb900, 1, none⟩ = some (.int .u64 a1_1) := kc BK900 1; have hfz14_0 := blk_frozen BK900.out 0; have hfz14_1 := blk_frozen BK900.out 1; have hcz15_0 : w11.cell? ⟨gb901, 0, none⟩ = some (.int .i64 0) := kc BK901 0; have hcz15_1 : w11.cell? ⟨gb901, 1, none⟩ = some (.int .u64 0) := kc BK901 1; have hcz15_2 : w11.cell? ⟨gb901, 2, none⟩ = some (.int .i64 0) := kc BK901 2; have hcz15_3 : w11.cell? ⟨gb901, 3, none⟩ = some (.int .u64 0) := kc BK901 3; have hfz15_0 := blk_frozen BK901.out 0; have hfz15_1 := blk_frozen BK901.out 1; have hfz15_2 := blk_frozen BK901.out 2; have hfz15_3 := blk_frozen BK901.out 3))
    refine bodyPost_ret (results_ct rfl _ _ gb901 62 #[.int .i64 a0_0, .int .u64 a0_1, .int .i64 a1_0, .int .u64 a1_1] (0, 0) _ rfl (by (with_reducible repeat (first | refine blk_drewN ?_ _ | refine blk_drew ?_ | refine blk_alloc ?_ _)); refine blk_put (cs := #[.int .i64 a0_0, .int .u64 a0_1, .int .i64 a1_0, .int .u64 0]) ?_ 3 _ rfl; (with_reducible repeat (first | refine blk_drewN ?_ _ | refine blk_drew ?_ | refine blk_alloc ?_ _)); refine blk_put (cs := #[.int .i64 a0_0, .int .u64 a0_1, .int .i64 0, .int .u64 0]) ?_ 2 _ rfl; (with_reducible repeat (first | refine blk_drewN ?_ _ | refine blk_drew ?_ | refine blk_alloc ?_ _)); refine blk_put (cs := #[.int .i64 a0_0, .int .u64 0, .int .i64 0, .int .u64 0]) ?_ 1 _ rfl; (with_reducible repeat (first | refine blk_drewN ?_ _ | refine blk_drew ?_ | refine blk_alloc ?_ _)); refine blk_put (cs := #[.int .i64 0, .int .u64 0, .int .i64 0, .int .u64 0]) ?_ 0 _ rfl; (with_reducible repeat (first | refine blk_drewN ?_ _ | refine blk_drew ?_ | refine blk_alloc ?_ _)); exact BK901.out) Try.underlying62 rfl (by kernel_rfl)) rfl ?_
    exact ⟨by first | rfl | (simp [errW_none, errW_some] <;> rfl) | (simp [*, errW_none, errW_some] <;> rfl), ky HB⟩
  rw [if_neg c4] at H
  have c4b0 : decide (0 < t902) = false := decide_eq_false c4
  clear c4
  replace H := Option.bind_eq_some_iff.mp H
  obtain ⟨⟨t903, t904, t905⟩, A160, H⟩ := H
  replace H : ((wide_Neg.f a1_0 a1_1).bind fun bt907 => (if t905 = true then (if bt907.2.2 = true then ((wide_Sign.f bt907.1 bt907.2.1).bind fun t911 => (frac_Make.j0 k (t911 == 0) t903 t904 bt907.1 bt907.2.1)) else (frac_Make.j0 k true t903 t904 bt907.1 bt907.2.1)) else (frac_Make.j0 k true t903 t904 bt907.1 bt907.2.1))) = some (r1, r2, r3, r4, r5) := H
  have A16 := Aside0.mk A160
  clear A160
  replace H := Option.bind_eq_some_iff.mp H
  obtain ⟨⟨t907, t908, t909⟩, A170, H⟩ := H
  replace H : (if t905 = true then (if t909 = true then ((wide_Sign.f t907 t908).bind fun t911 => (frac_Make.j0 k (t911 == 0) t903 t904 t907 t908)) else (frac_Make.j0 k true t903 t904 t907 t908)) else (frac_Make.j0 k true t903 t904 t907 t908)) = some (r1, r2, r3, r4, r5) := H
  have A17 := Aside0.mk A170
  clear A170
  have HC18 := Aside0.mk H
  clear H
  go_enter Try.func46, Try.ntmps46
  go_upto_region 5 with (first | ((with_reducible refine gate_dst (N := 2) rfl ?_); refine box_event ?hg (N := 2) ?hd (cs := #[.int .i64 a0_0, .int .u64 a0_1]) (t := 24) ?hr ?_; (case hd => rfl); (case hg => rfl); (case hr => first | (go_simp; done) | (go_simp; rfl)); intro gb899 hg w19 hbox hb; have BK899 := Aside0.mk (hbox); have GW899 := kS HB hg; have GE899 := kS HB hg; replace HB := kB HB hb; clear hb hbox hg) | ((with_reducible refine gate_dst (N := 3) rfl ?_); refine box_event ?hg (N := 3) ?hd (cs := #[.int .i64 a1_0, .int .u64 a1_1]) (t := 24) ?hr ?_; (case hd => rfl); (case hg => rfl); (case hr => first | (go_simp; done) | (go_simp; rfl)); intro gb900 hg w20 hbox hb; have BK900 := Aside0.mk (hbox); have GW900 := kS HB hg; have GE900 := kS HB hg; have NB899_900 := kN BK899 hg; have NB900_899 := kM BK899 hg; replace BK899 := kb BK899 hb; replace HB := kB HB hb; clear hb hbox hg) | ((with_reducible refine gate_dst (N := 4) rfl ?_); refine box_event ?hg (N := 4) ?hd (cs := #[.int .i64 0, .int .u64 0, .int .i64 0, .int .u64 0]) (t := 62) ?hr ?_; (case hd => rfl); (case hg => rfl); (case hr => first | (go_simp; done) | (go_simp; rfl)); intro gb901 hg w21 hbox hb; have BK901 := Aside0.mk (hbox); have GW901 := kS HB hg; have GE901 := kS HB hg; have NB899_901 := kN BK899 hg; have NB901_899 := kM BK899 hg; have NB900_901 := kN BK900 hg; have NB901_900 := kM BK900 hg; replace BK899 := kb BK899 hb; replace BK900 := kb BK900 hb; replace HB := kB HB hb; clear hb hbox hg; have hnb22 := NB900_899.out; have hnc22 := NB899_900.out; have hnb23 := NB900_901.out; have hnc23 := NB901_900.out; have hcz24_0 : w21.cell? ⟨gb900, 0, none⟩ = some (.int .i64 a1_0) := kc BK900 0; have hcz24_1 : w21.cell? ⟨gb900, 1, none⟩ = some (.int .u64 a1_1) := kc BK900 1; have hfz24_0 := blk_frozen BK900.out 0; have hfz24_1 := blk_frozen BK900.out 1) | ((with_reducible refine gate_callee (f := 26) rfl ?_); refine goesL_ (some 11) rfl rfl Try.func26 (by kernel_rfl) rfl #[.agg #[.int .i64 a1_0, .int .u64 a1_1]] rfl (by (try simp only [List.map_toArray, List.map_cons, List.map_nil]); first | done | rfl | (simp only [List.length_drop, List.length_take]; rfl)) ?_; (with_reducible refine (wide_Sign.calls a1_0 a1_1 t902 _ A3.out).mono ?_); rintro e w25 ⟨rfl, hb⟩; refine ⟨_, rfl, ?_⟩; replace BK899 := kb BK899 hb; replace BK900 := kb BK900 hb; replace BK901 := kb BK901 hb; replace HB := kB HB hb; (try clear hb); (try clear hb2); (try clear hk); (try clear hi); have hnb26 := NB899_901.out; have hnc26 := NB901_899.out; have hcz27_0 : w25.cell? ⟨gb899, 0, none⟩ = some (.int .i64 a0_0) := kc BK899 0; have hcz27_1 : w25.cell? ⟨gb899, 1, none⟩ = some (.int .u64 a0_1) := kc BK899 1; have hfz27_0 := blk_frozen BK899.out 0; have hfz27_1 := blk_frozen BK899.out 1) | ((with_reducible refine gate_callee (f := 44) rfl ?_); refine goesL_ (some 18) rfl rfl Try.func44 (by kernel_rfl) rfl #[.agg #[.int .i64 a0_0, .int .u64 a0_1]] rfl (by (try simp only [List.map_toArray, List.map_cons, List.map_nil]); first | done | rfl | (simp only [List.length_drop, List.length_take]; rfl)) ?_; (with_reducible refine (wide_Neg.calls a0_0 a0_1 t903 t904 t905 _ A16.out).mono ?_); rintro e w28 ⟨rfl, hb⟩; refine ⟨_, rfl, ?_⟩; replace BK899 := kb BK899 hb; replace BK900 := kb BK900 hb; replace BK901 := kb BK901 hb; replace HB := kB HB hb; (try clear hb); (try clear hb2); (try clear hk); (try clear hi)) | ((with_reducible refine gate_dst (N := 6) rfl ?_); refine box_event ?hg (N := 6) ?hd (cs := #[.int .i64 0, .int .u64 0]) (t := 24) ?hr ?_; (case hd => rfl); (case hg => rfl); (case hr => first | (go_simp; done) | (go_simp; rfl)); intro gb906 hg w29 hbox hb; have BK906 := Aside0.mk (hbox); have GW906 := kS HB hg; have GE906 := kS HB hg; have NB899_906 := kN BK899 hg; have NB906_899 := kM BK899 hg; have NB900_906 := kN BK900 hg; have NB906_900 := kM BK900 hg; have NB901_906 := kN BK901 hg; have NB906_901 := kM BK901 hg; replace BK899 := kb BK899 hb; replace BK900 := kb BK900 hb; replace BK901 := kb BK901 hb; replace HB := kB HB hb; clear hb hbox hg; have hnb30 := NB906_899.out; have hnc30 := NB899_906.out; have hnb31 := NB906_900.out; have hnc31 := NB900_906.out; have hnb32 := NB906_901.out; have hnc32 := NB901_906.out; have hcz33_0 : w29.cell? ⟨gb906, 0, none⟩ = some (.int .i64 0) := kc BK906 0; have hcz33_1 : w29.cell? ⟨gb906, 1, none⟩ = some (.int .u64 0) := kc BK906 1; have hfz33_0 := blk_frozen BK906.out 0; have hfz33_1 := blk_frozen BK906.out 1; have hcz34_0 : w29.cell? ⟨gb900, 0, none⟩ = some (.int .i64 a1_0) := kc BK900 0; have hcz34_1 : w29.cell? ⟨gb900, 1, none⟩ = some (.int .u64 a1_1) := kc BK900 1; have hfz34_0 := blk_frozen BK900.out 0; have hfz34_1 := blk_frozen BK900.out 1) | ((with_reducible refine gate_callee (f := 44) rfl ?_); refine goesL_ (some 23) rfl rfl Try.func44 (by kernel_rfl) rfl #[.agg #[.int .i64 a1_0, .int .u64 a1_1]] rfl (by (try simp only [List.map_toArray, List.map_cons, List.map_nil]); first | done | rfl | (simp only [List.length_drop, List.length_take]; rfl)) ?_; (with_reducible refine (wide_Neg.calls a1_0 a1_1 t907 t908 t909 _ A17.out).mono ?_); rintro e w35 ⟨rfl, hb⟩; refine ⟨_, rfl, ?_⟩; have n0_ := kb BK899 hb; have n1_ := kb BK900 hb; have n2_ := kb BK901 hb; have n3_ := Aside0.mk (blk_below (g := gb906) (o := .cells #[.int .i64 t903, .int .u64 t904] 24 (0, 0)) (by (with_reducible repeat (first | refine blk_drewN ?_ _ | refine blk_drew ?_ | refine blk_alloc ?_ _)); refine blk_put (cs := #[.int .i64 t903, .int .u64 0]) ?_ 1 _ rfl; (with_reducible repeat (first | refine blk_drewN ?_ _ | refine blk_drew ?_ | refine blk_alloc ?_ _)); refine blk_put (cs := #[.int .i64 0, .int .u64 0]) ?_ 0 _ rfl; (with_reducible repeat (first | refine blk_drewN ?_ _ | refine blk_drew ?_ | refine blk_alloc ?_ _)); exact BK906.out) hb); have n4_ := kB HB hb; clear BK899; clear BK900; clear BK901; clear BK906; clear HB; have BK899 := n0_; have BK900 := n1_; have BK901 := n2_; have BK906 := n3_; have HB := n4_; clear n0_ n1_ n2_ n3_ n4_; (try clear hb); (try clear hb2); (try clear hk); (try clear hi)) | ((with_reducible refine gate_dst (N := 8) rfl ?_); refine box_event ?hg (N := 8) ?hd (cs := #[.int .i64 0, .int .u64 0]) (t := 24) ?hr ?_; (case hd => rfl); (case hg => rfl); (case hr => first | (go_simp; done) | (go_simp; rfl)); intro gb910 hg w36 hbox hb; have BK910 := Aside0.mk (hbox); have GW910 := kS HB hg; have GE910 := kS HB hg; have NB899_910 := kN BK899 hg; have NB910_899 := kM BK899 hg; have NB900_910 := kN BK900 hg; have NB910_900 := kM BK900 hg; have NB901_910 := kN BK901 hg; have NB910_901 := kM BK901 hg; have NB906_910 := kN BK906 hg; have NB910_906 := kM BK906 hg; replace BK899 := kb BK899 hb; replace BK900 := kb BK900 hb; replace BK901 := kb BK901 hb; replace BK906 := kb BK906 hb; replace HB := kB HB hb; clear hb hbox hg; have hnb37 := NB910_899.out; have hnc37 := NB899_910.out; have hnb38 := NB910_900.out; have hnc38 := NB900_910.out; have hnb39 := NB910_901.out; have hnc39 := NB901_910.out; have hnb40 := NB910_906.out; have hnc40 := NB906_910.out; have hcz41_0 : w36.cell? ⟨gb910, 0, none⟩ = some (.int .i64 0) := kc BK910 0; have hcz41_1 : w36.cell? ⟨gb910, 1, none⟩ = some (.int .u64 0) := kc BK910 1; have hfz41_0 := blk_frozen BK910.out 0; have hfz41_1 := blk_frozen BK910.out 1))
  (try simp only [Act.put, s1, s2, s3])
  go_cut [36] (fun v36 wc => ∃ (kq : Nat) (x36_17 : Bool), v36 = .bool x36_17 ∧ Aside0 (frac_Make.j0 kq x36_17 t903 t904 t907 t908 = some (r1, r2, r3, r4, r5)) ∧ Aside0 (kq ≤ k) ∧ Aside0 (wc.heap[gb899]? = some (.cells #[.int .i64 a0_0, .int .u64 a0_1] 24 (0, 0))) ∧ Aside0 (wc.heap[gb900]? = some (.cells #[.int .i64 a1_0, .int .u64 a1_1] 24 (0, 0))) ∧ Aside0 (wc.heap[gb901]? = some (.cells #[.int .i64 0, .int .u64 0, .int .i64 0, .int .u64 0] 62 (0, 0))) ∧ Aside0 (wc.heap[gb906]? = some (.cells #[.int .i64 t903, .int .u64 t904] 24 (0, 0))) ∧ Aside0 (wc.heap[gb910]? = some (.cells #[.int .i64 t907, .int .u64 t908] 24 (0, 0))) ∧ Aside0 (Below w.heap.size w wc))
  case first =>
    have H := HC18.out; clear HC18
    by_cases c42 : t905 = true
    rotate_left
    · replace c42 := Bool.eq_false_iff.mpr c42
      subst c42
      have H1 : (frac_Make.j0 k true t903 t904 t907 t908) = some (r1, r2, r3, r4, r5) := by rw [if_neg (show ¬ (false = true) by decide)] at H; exact H
      clear H; have H := H1; clear H1
      have H' := Aside0.mk H
      clear H
      go_wp2
      go_meet
      case rel => exact ⟨_, (true), (by first | rfl | (simp; done) | (simp [*]; done)), H', ⟨by first | omega | exact Nat.le_refl _⟩, ⟨kx BK899⟩, ⟨kx BK900⟩, ⟨kx BK901⟩, ⟨kx BK906⟩, ⟨by (with_reducible repeat (first | refine blk_drewN ?_ _ | refine blk_drew ?_ | refine blk_alloc ?_ _)); refine blk_put (cs := #[.int .i64 t907, .int .u64 0]) ?_ 1 _ rfl; (with_reducible repeat (first | refine blk_drewN ?_ _ | refine blk_drew ?_ | refine blk_alloc ?_ _)); refine blk_put (cs := #[.int .i64 0, .int .u64 0]) ?_ 0 _ rfl; (with_reducible repeat (first | refine blk_drewN ?_ _ | refine blk_drew ?_ | refine blk_alloc ?_ _)); exact BK910.out⟩, ⟨ky HB⟩⟩
    subst c42
    have H1 : (if t909 = true then ((wide_Sign.f t907 t908).bind fun t911 => (frac_Make.j0 k (t911 == 0) t903 t904 t907 t908)) else (frac_Make.j0 k true t903 t904 t907 t908)) = some (r1, r2, r3, r4, r5) := by rw [if_pos rfl] at H; exact H
    clear H; have H := H1; clear H1
    by_cases c43 : t909 = true
    rotate_left
    · replace c43 := Bool.eq_false_iff.mpr c43
      subst c43
      have H1 : (frac_Make.j0 k true t903 t904 t907 t908) = some (r1, r2, r3, r4, r5) := by rw [if_neg (show ¬ (false = true) by decide)] at H; exact H
      clear H; have H := H1; clear H1
      have H' := Aside0.mk H
      clear H
      go_wp2
      go_meet
      case rel => exact ⟨_, (true), (by first | rfl | (simp; done) | (simp [*]; done)), H', ⟨by first | omega | exact Nat.le_refl _⟩, ⟨kx BK899⟩, ⟨kx BK900⟩, ⟨kx BK901⟩, ⟨kx BK906⟩, ⟨by (with_reducible repeat (first | refine blk_drewN ?_ _ | refine blk_drew ?_ | refine blk_alloc ?_ _)); refine blk_put (cs := #[.int .i64 t907, .int .u64 0]) ?_ 1 _ rfl; (with_reducible repeat (first | refine blk_drewN ?_ _ | refine blk_drew ?_ | refine blk_alloc ?_ _)); refine blk_put (cs := #[.int .i64 0, .int .u64 0]) ?_ 0 _ rfl; (with_reducible repeat (first | refine blk_drewN ?_ _ | refine blk_drew ?_ | refine blk_alloc ?_ _)); exact BK910.out⟩, ⟨ky HB⟩⟩
    subst c43
    have H1 : ((wide_Sign.f t907 t908).bind fun t911 => (frac_Make.j0 k (t911 == 0) t903 t904 t907 t908)) = some (r1, r2, r3, r4, r5) := by rw [if_pos rfl] at H; exact H
    clear H; have H := H1; clear H1
    replace H := Option.bind_eq_some_iff.mp H
    obtain ⟨t911, A440, H⟩ := H
    replace H : (frac_Make.j0 k (t911 == 0) t903 t904 t907 t908) = some (r1, r2, r3, r4, r5) := H
    have A44 := Aside0.mk A440
    clear A440
    have H' := Aside0.mk H
    clear H; have hnb45 := NB910_899.out; have hnc45 := NB899_910.out; have hnb46 := NB910_900.out; have hnc46 := NB900_910.out; have hnb47 := NB910_901.out; have hnc47 := NB901_910.out; have hnb48 := NB910_906.out; have hnc48 := NB906_910.out
    have hcz49_0 : w36.cell? ⟨gb910, 0, none⟩ = some (.int .i64 0) := kc BK910 0
    have hcz49_1 : w36.cell? ⟨gb910, 1, none⟩ = some (.int .u64 0) := kc BK910 1
    have hfz49_0 := blk_frozen BK910.out 0
    have hfz49_1 := blk_frozen BK910.out 1
    go_wp2_with (first | (go_at_call 26; (with_reducible refine (wide_Sign.calls t907 t908 t911 _ A44.out).mono ?_); rintro e w50 ⟨rfl, hb⟩; have n0_ := kb BK899 hb; have n1_ := kb BK900 hb; have n2_ := kb BK901 hb; have n3_ := kb BK906 hb; have n4_ := Aside0.mk (blk_below (g := gb910) (o := .cells #[.int .i64 t907, .int .u64 t908] 24 (0, 0)) (by (with_reducible repeat (first | refine blk_drewN ?_ _ | refine blk_drew ?_ | refine blk_alloc ?_ _)); refine blk_put (cs := #[.int .i64 t907, .int .u64 0]) ?_ 1 _ rfl; (with_reducible repeat (first | refine blk_drewN ?_ _ | refine blk_drew ?_ | refine blk_alloc ?_ _)); refine blk_put (cs := #[.int .i64 0, .int .u64 0]) ?_ 0 _ rfl; (with_reducible repeat (first | refine blk_drewN ?_ _ | refine blk_drew ?_ | refine blk_alloc ?_ _)); exact BK910.out) hb); have n5_ := kB HB hb; clear BK899; clear BK900; clear BK901; clear BK906; clear BK910; clear HB; have BK899 := n0_; have BK900 := n1_; have BK901 := n2_; have BK906 := n3_; have BK910 := n4_; have HB := n5_; clear n0_ n1_ n2_ n3_ n4_ n5_; (try clear hb); (try clear hb2); (try clear hk); (try clear hi)))
    go_meet
    case rel => exact ⟨_, ((t911 == 0)), (by first | rfl | (simp; done) | (simp [*]; done)), H', ⟨by first | omega | exact Nat.le_refl _⟩, ⟨kx BK899⟩, ⟨kx BK900⟩, ⟨kx BK901⟩, ⟨kx BK906⟩, ⟨kx BK910⟩, ⟨ky HB⟩⟩
  case rest =>
    clear HC18; try clear c1; try clear c2; try clear p2; try clear c3; try clear c4; try clear c4b0; try clear c8; try clear c9; try clear c12; try clear c22; try clear c23; try clear c26; try clear c30; try clear c31; try clear c32; try clear c37; try clear c38; try clear c39; try clear c40; try clear c42; try clear c43; try clear c44; try clear c45; try clear c46; try clear c47; try clear c48; try clear hcz10_0; try clear hcz10_1; try clear hcz13_0; try clear hcz13_1; try clear hcz14_0; try clear hcz14_1; try clear hcz15_0; try clear hcz15_1; try clear hcz15_2; try clear hcz15_3; try clear hcz24_0; try clear hcz24_1; try clear hcz27_0; try clear hcz27_1; try clear hcz33_0; try clear hcz33_1; try clear hcz34_0; try clear hcz34_1; try clear hcz41_0; try clear hcz41_1; try clear hcz49_0; try clear hcz49_1; try clear hfz10_0; try clear hfz10_1; try clear hfz13_0; try clear hfz13_1; try clear hfz14_0; try clear hfz14_1; try clear hfz15_0; try clear hfz15_1; try clear hfz15_2; try clear hfz15_3; try clear hfz24_0; try clear hfz24_1; try clear hfz27_0; try clear hfz27_1; try clear hfz33_0; try clear hfz33_1; try clear hfz34_0; try clear hfz34_1; try clear hfz41_0; try clear hfz41_1; try clear hfz49_0; try clear hfz49_1
    obtain ⟨kq, x36_17, rfl, HA, HJ17, BK899, BK900, BK901, BK906, BK910, HB⟩ := hcut
    cases kq with
    | zero => exact absurd HA.out (by simp [frac_Make.j0])
    | succ kj17 =>
      have H := HA.out; clear HA
      simp only [frac_Make.j0] at H
      by_cases c51 : x36_17 = true
      · subst c51
        have H1 : (some (0, 0, 0, 0, false)) = some (r1, r2, r3, r4, r5) := by rw [if_pos rfl] at H; exact H
        clear H; have H := H1; clear H1
        simp only [Option.some.injEq, Prod.mk.injEq] at H
        obtain ⟨rfl, rfl, rfl, rfl, rfl⟩ := H
        have hnb52 := NB901_899.out; have hnc52 := NB899_901.out; have hnb53 := NB901_900.out; have hnc53 := NB900_901.out; have hnb54 := NB901_906.out; have hnc54 := NB906_901.out; have hnb55 := NB901_910.out; have hnc55 := NB910_901.out
        have hcz56_0 : wc.cell? ⟨gb901, 0, none⟩ = some (.int .i64 0) := kc BK901 0
        have hcz56_1 : wc.cell? ⟨gb901, 1, none⟩ = some (.int .u64 0) := kc BK901 1
        have hcz56_2 : wc.cell? ⟨gb901, 2, none⟩ = some (.int .i64 0) := kc BK901 2
        have hcz56_3 : wc.cell? ⟨gb901, 3, none⟩ = some (.int .u64 0) := kc BK901 3
        have hfz56_0 := blk_frozen BK901.out 0
        have hfz56_1 := blk_frozen BK901.out 1
        have hfz56_2 := blk_frozen BK901.out 2
        have hfz56_3 := blk_frozen BK901.out 3
        go_wp2
        refine bodyPost_ret (results_ct rfl _ _ gb901 62 #[.int .i64 0, .int .u64 0, .int .i64 0, .int .u64 0] (0, 0) _ rfl (by (with_reducible repeat (first | refine blk_drewN ?_ _ | refine blk_drew ?_ | refine blk_alloc ?_ _)); refine blk_put (cs := #[.int .i64 0, .int .u64 0, .int .i64 0, .int .u64 0]) ?_ 3 _ rfl; (with_reducible repeat (first | refine blk_drewN ?_ _ | refine blk_drew ?_ | refine blk_alloc ?_ _)); refine blk_put (cs := #[.int .i64 0, .int .u64 0, .int .i64 0, .int .u64 0]) ?_ 2 _ rfl; (with_reducible repeat (first | refine blk_drewN ?_ _ | refine blk_drew ?_ | refine blk_alloc ?_ _)); refine blk_put (cs := #[.int .i64 0, .int .u64 0, .int .i64 0, .int .u64 0]) ?_ 1 _ rfl; (with_reducible repeat (first | refine blk_drewN ?_ _ | refine blk_drew ?_ | refine blk_alloc ?_ _)); refine blk_put (cs := #[.int .i64 0, .int .u64 0, .int .i64 0, .int .u64 0]) ?_ 0 _ rfl; (with_reducible repeat (first | refine blk_drewN ?_ _ | refine blk_drew ?_ | refine blk_alloc ?_ _)); exact BK901.out) Try.underlying62 rfl (by kernel_rfl)) rfl ?_
        exact ⟨by first | rfl | (simp [errW_none, errW_some] <;> rfl) | (simp [*, errW_none, errW_some] <;> rfl), ky HB⟩
      replace c51 := Bool.eq_false_iff.mpr c51
      subst c51
      have H1 : (some (t903, t904, t907, t908, true)) = some (r1, r2, r3, r4, r5) := by rw [if_neg (show ¬ (false = true) by decide)] at H; exact H
      clear H; have H := H1; clear H1
      simp only [Option.some.injEq, Prod.mk.injEq] at H
      obtain ⟨rfl, rfl, rfl, rfl, rfl⟩ := H
      have hnb57 := NB906_899.out; have hnc57 := NB899_906.out; have hnb58 := NB906_900.out; have hnc58 := NB900_906.out; have hnb59 := NB906_901.out; have hnc59 := NB901_906.out; have hnb60 := NB906_910.out; have hnc60 := NB910_906.out
      have hcz61_0 : wc.cell? ⟨gb906, 0, none⟩ = some (.int .i64 t903) := kc BK906 0
      have hcz61_1 : wc.cell? ⟨gb906, 1, none⟩ = some (.int .u64 t904) := kc BK906 1
      have hfz61_0 := blk_frozen BK906.out 0
      have hfz61_1 := blk_frozen BK906.out 1
      have hnb62 := NB910_899.out; have hnc62 := NB899_910.out; have hnb63 := NB910_900.out; have hnc63 := NB900_910.out; have hnb64 := NB910_901.out; have hnc64 := NB901_910.out
      have hcz65_0 : wc.cell? ⟨gb910, 0, none⟩ = some (.int .i64 t907) := kc BK910 0
      have hcz65_1 : wc.cell? ⟨gb910, 1, none⟩ = some (.int .u64 t908) := kc BK910 1
      have hfz65_0 := blk_frozen BK910.out 0
      have hfz65_1 := blk_frozen BK910.out 1
      have hnb66 := NB901_899.out; have hnc66 := NB899_901.out; have hnb67 := NB901_900.out; have hnc67 := NB900_901.out
      have hcz68_0 : wc.cell? ⟨gb901, 0, none⟩ = some (.int .i64 0) := kc BK901 0
      have hcz68_1 : wc.cell? ⟨gb901, 1, none⟩ = some (.int .u64 0) := kc BK901 1
      have hcz68_2 : wc.cell? ⟨gb901, 2, none⟩ = some (.int .i64 0) := kc BK901 2
      have hcz68_3 : wc.cell? ⟨gb901, 3, none⟩ = some (.int .u64 0) := kc BK901 3
      have hfz68_0 := blk_frozen BK901.out 0
      have hfz68_1 := blk_frozen BK901.out 1
      have hfz68_2 := blk_frozen BK901.out 2
      have hfz68_3 := blk_frozen BK901.out 3
      go_wp2
      refine bodyPost_ret (results_ct rfl _ _ gb901 62 #[.int .i64 t903, .int .u64 t904, .int .i64 t907, .int .u64 t908] (0, 0) _ rfl (by (with_reducible repeat (first | refine blk_drewN ?_ _ | refine blk_drew ?_ | refine blk_alloc ?_ _)); refine blk_put (cs := #[.int .i64 t903, .int .u64 t904, .int .i64 t907, .int .u64 0]) ?_ 3 _ rfl; (with_reducible repeat (first | refine blk_drewN ?_ _ | refine blk_drew ?_ | refine blk_alloc ?_ _)); refine blk_put (cs := #[.int .i64 t903, .int .u64 t904, .int .i64 0, .int .u64 0]) ?_ 2 _ rfl; (with_reducible repeat (first | refine blk_drewN ?_ _ | refine blk_drew ?_ | refine blk_alloc ?_ _)); refine blk_put (cs := #[.int .i64 t903, .int .u64 0, .int .i64 0, .int .u64 0]) ?_ 1 _ rfl; (with_reducible repeat (first | refine blk_drewN ?_ _ | refine blk_drew ?_ | refine blk_alloc ?_ _)); refine blk_put (cs := #[.int .i64 0, .int .u64 0, .int .i64 0, .int .u64 0]) ?_ 0 _ rfl; (with_reducible repeat (first | refine blk_drewN ?_ _ | refine blk_drew ?_ | refine blk_alloc ?_ _)); exact BK901.out) Try.underlying62 rfl (by kernel_rfl)) rfl ?_
      exact ⟨by first | rfl | (simp [errW_none, errW_some] <;> rfl) | (simp [*, errW_none, errW_some] <;> rfl), ky HB⟩

/-! ### cobweblaw02_alive: function 39 -/
def cobweblaw02_alive.f (k : Nat)  : Option (Bool) := (wide_Of.f (-7)).bind fun bt912 => ((wide_Of.f (-2)).bind fun bt914 => ((frac_Make.f k bt912.1 bt912.2 bt914.1 bt914.2).bind fun bt916 => ((wide_Of.f 1).bind fun bt922 => ((wide_Of.f 0).bind fun bt924 => ((frac_Make.f k bt922.1 bt922.2 bt924.1 bt924.2).bind fun bt926 => ((frac_Snap.f k bt916.1 bt916.2.1 bt916.2.2.1 bt916.2.2.2.1 1).bind fun bt932 => (if bt916.2.2.2.2 = true then ((wide_Of.f 7).bind fun bt936 => ((wide_Of.f 2).bind fun bt938 => (if ((bt916.1 == bt936.1 && (bt916.2.1 == bt936.2)) && ((bt916.2.2.1 == bt938.1 && (bt916.2.2.2.1 == bt938.2)))) = true then (if bt926.2.2.2.2 = true then (none) else ((frac_Right.f bt916.1 bt916.2.1 bt916.2.2.1 bt916.2.2.2.1).bind fun t940 => (if t940 = true then ((frac_Right.f 0 0 0 0).bind fun t941 => (if t941 = true then (none) else ((frac_Floor.f k bt916.1 bt916.2.1 bt916.2.2.1 bt916.2.2.2.1).bind fun bt942 => ((wide_Of.f 3).bind fun bt944 => (if (bt942.1 == bt944.1 && (bt942.2 == bt944.2)) = true then (if bt932.2.2 = true then ((wide_Of.f 2).bind fun bt946 => (if (bt932.1 == bt946.1 && (bt932.2.1 == bt946.2)) = true then ((frac_Of.f 4).bind fun bt948 => ((frac_Cmp.f k bt916.1 bt916.2.1 bt916.2.2.1 bt916.2.2.2.1 bt948.1 bt948.2.1 bt948.2.2.1 bt948.2.2.2).bind fun t952 => (some (t952 == (-1))))) else (none))) else (none)) else (none)))))) else (none)))) else (none)))) else (none))))))))
theorem cobweblaw02_alive.mono : ∀ k, LeO (cobweblaw02_alive.f k ) (cobweblaw02_alive.f (k + 1) ) := by
  intro  k
  unfold cobweblaw02_alive.f
  repeat' first
      | (with_reducible exact frac_Cmp.mono _ _ _ _ _ _ _ _ _)
      | (with_reducible exact frac_Floor.mono _ _ _ _ _)
      | (with_reducible exact frac_Make.mono _ _ _ _ _)
      | (with_reducible exact frac_Snap.mono _ _ _ _ _ _)
      | (with_reducible exact LeO.refl _)
      | (with_reducible exact LeO.none _)
      | (with_reducible refine LeO.ite ?_ ?_)
      | (with_reducible refine LeO.bind ?_ (fun _ => ?_))
      | exact frac_Cmp.mono _ _ _ _ _ _ _ _ _
      | exact frac_Floor.mono _ _ _ _ _
      | exact frac_Make.mono _ _ _ _ _
      | exact frac_Snap.mono _ _ _ _ _ _
      | exact LeO.none _
      | refine LeO.ite ?_ ?_
      | refine LeO.bind ?_ (fun _ => ?_)
def cobweblaw02_alive.T4 : Bool × List (List Nat × List Nat) := (true, [([], []), ([0], [0]), ([1], [1]), ([1, 1], [1]), ([3, 1], [1]), ([3, 4, 1], [1, 3, 4]), ([2, 5, 1], [1, 2, 5]), ([1, 6], [1, 6]), ([7, 4], [7]), ([8], [8]), ([9, 8], [8, 9]), ([8, 10], [8, 10]), ([11, 8], [11]), ([12], [12]), ([13, 12, 12], [12, 13]), ([12, 14], [12, 14]), ([15, 14], [15]), ([16], [16]), ([17, 16, 16], [16, 17]), ([18, 16], [16, 18]), ([16, 19], [16, 19]), ([20, 18], [20]), ([21], [21]), ([22, 21, 21], [21, 22]), ([23, 21], [21]), ([23, 24, 21], [21, 23, 24]), ([21, 25], [21, 25]), ([26, 24], [26]), ([27], [27]), ([27, 28], [27, 28]), ([29, 27], [29]), ([30], [30]), ([30, 30], [30]), ([31, 32, 30], [30, 31, 32]), ([30, 33], [30, 33]), ([34, 32], [34]), ([35], [35]), ([35, 35], [35]), ([36, 37, 37, 35], [35, 36, 37]), ([38, 35], [35, 38]), ([35, 39], [35, 39]), ([40, 38, 0, 1, 2, 3, 4, 5, 6, 7, 8, 9, 10, 11, 12, 13, 14, 15, 16, 17, 18, 19, 20, 21, 22, 23, 24, 25, 26, 27, 28, 29, 30, 31, 32, 33, 34, 35, 36, 37, 38, 39, 40], [40])])
def cobweblaw02_alive.B4 : List Nat := [0, 1, 3, 3, 11, 27, 63, 127, 255, 511, 1023, 2047, 4095, 8191, 16383, 32767, 65535, 131071, 262143, 524287, 1048575, 2097151, 4194303, 8388607, 16777215, 33554431, 67108863, 134217727, 268435455, 536870911, 1073741823, 2147483647, 2147483647, 8589934591, 17179869183, 34359738367, 68719476735, 68719476735, 274877906943, 549755813887, 1099511627775, 2199023255551]
theorem cobweblaw02_alive.tab4 : rtab .any (opsOf Try.f39 4) = cobweblaw02_alive.T4 := by kernel_rfl
theorem cobweblaw02_alive.bits4 : waitsOk cobweblaw02_alive.T4.2 cobweblaw02_alive.B4 = true := by kernel_rfl
set_option maxHeartbeats 8000000 in
set_option maxRecDepth 100000 in
theorem cobweblaw02_alive.calls (k : Nat)  (r : Bool) (w : World) (h : cobweblaw02_alive.f k  = some r) :
    Calls Try.prog 39 #[] w fun e w' => e = .returned (.bool r) ∧ Below w.heap.size w w' := by
  have hu62 := Try.underlying62
  have hu24 := Try.underlying24
  have HB := Aside0.mk (Below.refl w.heap.size w)
  have H : ((wide_Of.f (-7)).bind fun bt912 => ((wide_Of.f (-2)).bind fun bt914 => ((frac_Make.f k bt912.1 bt912.2 bt914.1 bt914.2).bind fun bt916 => ((wide_Of.f 1).bind fun bt922 => ((wide_Of.f 0).bind fun bt924 => ((frac_Make.f k bt922.1 bt922.2 bt924.1 bt924.2).bind fun bt926 => ((frac_Snap.f k bt916.1 bt916.2.1 bt916.2.2.1 bt916.2.2.2.1 1).bind fun bt932 => (if bt916.2.2.2.2 = true then ((wide_Of.f 7).bind fun bt936 => ((wide_Of.f 2).bind fun bt938 => (if ((bt916.1 == bt936.1 && (bt916.2.1 == bt936.2)) && ((bt916.2.2.1 == bt938.1 && (bt916.2.2.2.1 == bt938.2)))) = true then (if bt926.2.2.2.2 = true then (none) else ((frac_Right.f bt916.1 bt916.2.1 bt916.2.2.1 bt916.2.2.2.1).bind fun t940 => (if t940 = true then ((frac_Right.f 0 0 0 0).bind fun t941 => (if t941 = true then (none) else ((frac_Floor.f k bt916.1 bt916.2.1 bt916.2.2.1 bt916.2.2.2.1).bind fun bt942 => ((wide_Of.f 3).bind fun bt944 => (if (bt942.1 == bt944.1 && (bt942.2 == bt944.2)) = true then (if bt932.2.2 = true then ((wide_Of.f 2).bind fun bt946 => (if (bt932.1 == bt946.1 && (bt932.2.1 == bt946.2)) = true then ((frac_Of.f 4).bind fun bt948 => ((frac_Cmp.f k bt916.1 bt916.2.1 bt916.2.2.1 bt916.2.2.2.1 bt948.1 bt948.2.1 bt948.2.2.1 bt948.2.2.2).bind fun t952 => (some (t952 == (-1))))) else (none))) else (none)) else (none)))))) else (none)))) else (none)))) else (none))))))))) = some r := h
  clear h
  replace H := Option.bind_eq_some_iff.mp H
  obtain ⟨⟨t912, t913⟩, A10, H⟩ := H
  replace H : ((wide_Of.f (-2)).bind fun bt914 => ((frac_Make.f k t912 t913 bt914.1 bt914.2).bind fun bt916 => ((wide_Of.f 1).bind fun bt922 => ((wide_Of.f 0).bind fun bt924 => ((frac_Make.f k bt922.1 bt922.2 bt924.1 bt924.2).bind fun bt926 => ((frac_Snap.f k bt916.1 bt916.2.1 bt916.2.2.1 bt916.2.2.2.1 1).bind fun bt932 => (if bt916.2.2.2.2 = true then ((wide_Of.f 7).bind fun bt936 => ((wide_Of.f 2).bind fun bt938 => (if ((bt916.1 == bt936.1 && (bt916.2.1 == bt936.2)) && ((bt916.2.2.1 == bt938.1 && (bt916.2.2.2.1 == bt938.2)))) = true then (if bt926.2.2.2.2 = true then (none) else ((frac_Right.f bt916.1 bt916.2.1 bt916.2.2.1 bt916.2.2.2.1).bind fun t940 => (if t940 = true then ((frac_Right.f 0 0 0 0).bind fun t941 => (if t941 = true then (none) else ((frac_Floor.f k bt916.1 bt916.2.1 bt916.2.2.1 bt916.2.2.2.1).bind fun bt942 => ((wide_Of.f 3).bind fun bt944 => (if (bt942.1 == bt944.1 && (bt942.2 == bt944.2)) = true then (if bt932.2.2 = true then ((wide_Of.f 2).bind fun bt946 => (if (bt932.1 == bt946.1 && (bt932.2.1 == bt946.2)) = true then ((frac_Of.f 4).bind fun bt948 => ((frac_Cmp.f k bt916.1 bt916.2.1 bt916.2.2.1 bt916.2.2.2.1 bt948.1 bt948.2.1 bt948.2.2.1 bt948.2.2.2).bind fun t952 => (some (t952 == (-1))))) else (none))) else (none)) else (none)))))) else (none)))) else (none)))) else (none)))))))) = some r := H
  have A1 := Aside0.mk A10
  clear A10
  replace H := Option.bind_eq_some_iff.mp H
  obtain ⟨⟨t914, t915⟩, A20, H⟩ := H
  replace H : ((frac_Make.f k t912 t913 t914 t915).bind fun bt916 => ((wide_Of.f 1).bind fun bt922 => ((wide_Of.f 0).bind fun bt924 => ((frac_Make.f k bt922.1 bt922.2 bt924.1 bt924.2).bind fun bt926 => ((frac_Snap.f k bt916.1 bt916.2.1 bt916.2.2.1 bt916.2.2.2.1 1).bind fun bt932 => (if bt916.2.2.2.2 = true then ((wide_Of.f 7).bind fun bt936 => ((wide_Of.f 2).bind fun bt938 => (if ((bt916.1 == bt936.1 && (bt916.2.1 == bt936.2)) && ((bt916.2.2.1 == bt938.1 && (bt916.2.2.2.1 == bt938.2)))) = true then (if bt926.2.2.2.2 = true then (none) else ((frac_Right.f bt916.1 bt916.2.1 bt916.2.2.1 bt916.2.2.2.1).bind fun t940 => (if t940 = true then ((frac_Right.f 0 0 0 0).bind fun t941 => (if t941 = true then (none) else ((frac_Floor.f k bt916.1 bt916.2.1 bt916.2.2.1 bt916.2.2.2.1).bind fun bt942 => ((wide_Of.f 3).bind fun bt944 => (if (bt942.1 == bt944.1 && (bt942.2 == bt944.2)) = true then (if bt932.2.2 = true then ((wide_Of.f 2).bind fun bt946 => (if (bt932.1 == bt946.1 && (bt932.2.1 == bt946.2)) = true then ((frac_Of.f 4).bind fun bt948 => ((frac_Cmp.f k bt916.1 bt916.2.1 bt916.2.2.1 bt916.2.2.2.1 bt948.1 bt948.2.1 bt948.2.2.1 bt948.2.2.2).bind fun t952 => (some (t952 == (-1))))) else (none))) else (none)) else (none)))))) else (none)))) else (none)))) else (none))))))) = some r := H
  have A2 := Aside0.mk A20
  clear A20
  replace H := Option.bind_eq_some_iff.mp H
  obtain ⟨⟨t916, t917, t918, t919, t920⟩, A30, H⟩ := H
  replace H : ((wide_Of.f 1).bind fun bt922 => ((wide_Of.f 0).bind fun bt924 => ((frac_Make.f k bt922.1 bt922.2 bt924.1 bt924.2).bind fun bt926 => ((frac_Snap.f k t916 t917 t918 t919 1).bind fun bt932 => (if t920 = true then ((wide_Of.f 7).bind fun bt936 => ((wide_Of.f 2).bind fun bt938 => (if ((t916 == bt936.1 && (t917 == bt936.2)) && ((t918 == bt938.1 && (t919 == bt938.2)))) = true then (if bt926.2.2.2.2 = true then (none) else ((frac_Right.f t916 t917 t918 t919).bind fun t940 => (if t940 = true then ((frac_Right.f 0 0 0 0).bind fun t941 => (if t941 = true then (none) else ((frac_Floor.f k t916 t917 t918 t919).bind fun bt942 => ((wide_Of.f 3).bind fun bt944 => (if (bt942.1 == bt944.1 && (bt942.2 == bt944.2)) = true then (if bt932.2.2 = true then ((wide_Of.f 2).bind fun bt946 => (if (bt932.1 == bt946.1 && (bt932.2.1 == bt946.2)) = true then ((frac_Of.f 4).bind fun bt948 => ((frac_Cmp.f k t916 t917 t918 t919 bt948.1 bt948.2.1 bt948.2.2.1 bt948.2.2.2).bind fun t952 => (some (t952 == (-1))))) else (none))) else (none)) else (none)))))) else (none)))) else (none)))) else (none)))))) = some r := H
  have A3 := Aside0.mk A30
  clear A30
  replace H := Option.bind_eq_some_iff.mp H
  obtain ⟨⟨t922, t923⟩, A40, H⟩ := H
  replace H : ((wide_Of.f 0).bind fun bt924 => ((frac_Make.f k t922 t923 bt924.1 bt924.2).bind fun bt926 => ((frac_Snap.f k t916 t917 t918 t919 1).bind fun bt932 => (if t920 = true then ((wide_Of.f 7).bind fun bt936 => ((wide_Of.f 2).bind fun bt938 => (if ((t916 == bt936.1 && (t917 == bt936.2)) && ((t918 == bt938.1 && (t919 == bt938.2)))) = true then (if bt926.2.2.2.2 = true then (none) else ((frac_Right.f t916 t917 t918 t919).bind fun t940 => (if t940 = true then ((frac_Right.f 0 0 0 0).bind fun t941 => (if t941 = true then (none) else ((frac_Floor.f k t916 t917 t918 t919).bind fun bt942 => ((wide_Of.f 3).bind fun bt944 => (if (bt942.1 == bt944.1 && (bt942.2 == bt944.2)) = true then (if bt932.2.2 = true then ((wide_Of.f 2).bind fun bt946 => (if (bt932.1 == bt946.1 && (bt932.2.1 == bt946.2)) = true then ((frac_Of.f 4).bind fun bt948 => ((frac_Cmp.f k t916 t917 t918 t919 bt948.1 bt948.2.1 bt948.2.2.1 bt948.2.2.2).bind fun t952 => (some (t952 == (-1))))) else (none))) else (none)) else (none)))))) else (none)))) else (none)))) else (none))))) = some r := H
  have A4 := Aside0.mk A40
  clear A40
  replace H := Option.bind_eq_some_iff.mp H
  obtain ⟨⟨t924, t925⟩, A50, H⟩ := H
  replace H : ((frac_Make.f k t922 t923 t924 t925).bind fun bt926 => ((frac_Snap.f k t916 t917 t918 t919 1).bind fun bt932 => (if t920 = true then ((wide_Of.f 7).bind fun bt936 => ((wide_Of.f 2).bind fun bt938 => (if ((t916 == bt936.1 && (t917 == bt936.2)) && ((t918 == bt938.1 && (t919 == bt938.2)))) = true then (if bt926.2.2.2.2 = true then (none) else ((frac_Right.f t916 t917 t918 t919).bind fun t940 => (if t940 = true then ((frac_Right.f 0 0 0 0).bind fun t941 => (if t941 = true then (none) else ((frac_Floor.f k t916 t917 t918 t919).bind fun bt942 => ((wide_Of.f 3).bind fun bt944 => (if (bt942.1 == bt944.1 && (bt942.2 == bt944.2)) = true then (if bt932.2.2 = true then ((wide_Of.f 2).bind fun bt946 => (if (bt932.1 == bt946.1 && (bt932.2.1 == bt946.2)) = true then ((frac_Of.f 4).bind fun bt948 => ((frac_Cmp.f k t916 t917 t918 t919 bt948.1 bt948.2.1 bt948.2.2.1 bt948.2.2.2).bind fun t952 => (some (t952 == (-1))))) else (none))) else (none)) else (none)))))) else (none)))) else (none)))) else (none)))) = some r := H
  have A5 := Aside0.mk A50
  clear A50
  replace H := Option.bind_eq_some_iff.mp H
  obtain ⟨⟨t926, t927, t928, t929, t930⟩, A60, H⟩ := H
  replace H : ((frac_Snap.f k t916 t917 t918 t919 1).bind fun bt932 => (if t920 = true then ((wide_Of.f 7).bind fun bt936 => ((wide_Of.f 2).bind fun bt938 => (if ((t916 == bt936.1 && (t917 == bt936.2)) && ((t918 == bt938.1 && (t919 == bt938.2)))) = true then (if t930 = true then (none) else ((frac_Right.f t916 t917 t918 t919).bind fun t940 => (if t940 = true then ((frac_Right.f 0 0 0 0).bind fun t941 => (if t941 = true then (none) else ((frac_Floor.f k t916 t917 t918 t919).bind fun bt942 => ((wide_Of.f 3).bind fun bt944 => (if (bt942.1 == bt944.1 && (bt942.2 == bt944.2)) = true then (if bt932.2.2 = true then ((wide_Of.f 2).bind fun bt946 => (if (bt932.1 == bt946.1 && (bt932.2.1 == bt946.2)) = true then ((frac_Of.f 4).bind fun bt948 => ((frac_Cmp.f k t916 t917 t918 t919 bt948.1 bt948.2.1 bt948.2.2.1 bt948.2.2.2).bind fun t952 => (some (t952 == (-1))))) else (none))) else (none)) else (none)))))) else (none)))) else (none)))) else (none))) = some r := H
  have A6 := Aside0.mk A60
  clear A60
  replace H := Option.bind_eq_some_iff.mp H
  obtain ⟨⟨t932, t933, t934⟩, A70, H⟩ := H
  replace H : (if t920 = true then ((wide_Of.f 7).bind fun bt936 => ((wide_Of.f 2).bind fun bt938 => (if ((t916 == bt936.1 && (t917 == bt936.2)) && ((t918 == bt938.1 && (t919 == bt938.2)))) = true then (if t930 = true then (none) else ((frac_Right.f t916 t917 t918 t919).bind fun t940 => (if t940 = true then ((frac_Right.f 0 0 0 0).bind fun t941 => (if t941 = true then (none) else ((frac_Floor.f k t916 t917 t918 t919).bind fun bt942 => ((wide_Of.f 3).bind fun bt944 => (if (bt942.1 == bt944.1 && (bt942.2 == bt944.2)) = true then (if t934 = true then ((wide_Of.f 2).bind fun bt946 => (if (t932 == bt946.1 && (t933 == bt946.2)) = true then ((frac_Of.f 4).bind fun bt948 => ((frac_Cmp.f k t916 t917 t918 t919 bt948.1 bt948.2.1 bt948.2.2.1 bt948.2.2.2).bind fun t952 => (some (t952 == (-1))))) else (none))) else (none)) else (none)))))) else (none)))) else (none)))) else (none)) = some r := H
  have A7 := Aside0.mk A70
  clear A70
  by_cases c8 : t920 = true
  rotate_left
  · replace c8 := Bool.eq_false_iff.mpr c8
    subst c8
    have H1 : (none) = some r := by rw [if_neg (show ¬ (false = true) by decide)] at H; exact H
    clear H; have H := H1; clear H1
    exact absurd H (by simp)

  subst c8
  have H1 : ((wide_Of.f 7).bind fun bt936 => ((wide_Of.f 2).bind fun bt938 => (if ((t916 == bt936.1 && (t917 == bt936.2)) && ((t918 == bt938.1 && (t919 == bt938.2)))) = true then (if t930 = true then (none) else ((frac_Right.f t916 t917 t918 t919).bind fun t940 => (if t940 = true then ((frac_Right.f 0 0 0 0).bind fun t941 => (if t941 = true then (none) else ((frac_Floor.f k t916 t917 t918 t919).bind fun bt942 => ((wide_Of.f 3).bind fun bt944 => (if (bt942.1 == bt944.1 && (bt942.2 == bt944.2)) = true then (if t934 = true then ((wide_Of.f 2).bind fun bt946 => (if (t932 == bt946.1 && (t933 == bt946.2)) = true then ((frac_Of.f 4).bind fun bt948 => ((frac_Cmp.f k t916 t917 t918 t919 bt948.1 bt948.2.1 bt948.2.2.1 bt948.2.2.2).bind fun t952 => (some (t952 == (-1))))) else (none))) else (none)) else (none)))))) else (none)))) else (none)))) = some r := by rw [if_pos rfl] at H; exact H
  clear H; have H := H1; clear H1
  replace H := Option.bind_eq_some_iff.mp H
  obtain ⟨⟨t936, t937⟩, A90, H⟩ := H
  replace H : ((wide_Of.f 2).bind fun bt938 => (if ((t916 == t936 && (t917 == t937)) && ((t918 == bt938.1 && (t919 == bt938.2)))) = true then (if t930 = true then (none) else ((frac_Right.f t916 t917 t918 t919).bind fun t940 => (if t940 = true then ((frac_Right.f 0 0 0 0).bind fun t941 => (if t941 = true then (none) else ((frac_Floor.f k t916 t917 t918 t919).bind fun bt942 => ((wide_Of.f 3).bind fun bt944 => (if (bt942.1 == bt944.1 && (bt942.2 == bt944.2)) = true then (if t934 = true then ((wide_Of.f 2).bind fun bt946 => (if (t932 == bt946.1 && (t933 == bt946.2)) = true then ((frac_Of.f 4).bind fun bt948 => ((frac_Cmp.f k t916 t917 t918 t919 bt948.1 bt948.2.1 bt948.2.2.1 bt948.2.2.2).bind fun t952 => (some (t952 == (-1))))) else (none))) else (none)) else (none)))))) else (none)))) else (none))) = some r := H
  have A9 := Aside0.mk A90
  clear A90
  replace H := Option.bind_eq_some_iff.mp H
  obtain ⟨⟨t938, t939⟩, A100, H⟩ := H
  replace H : (if ((t916 == t936 && (t917 == t937)) && ((t918 == t938 && (t919 == t939)))) = true then (if t930 = true then (none) else ((frac_Right.f t916 t917 t918 t919).bind fun t940 => (if t940 = true then ((frac_Right.f 0 0 0 0).bind fun t941 => (if t941 = true then (none) else ((frac_Floor.f k t916 t917 t918 t919).bind fun bt942 => ((wide_Of.f 3).bind fun bt944 => (if (bt942.1 == bt944.1 && (bt942.2 == bt944.2)) = true then (if t934 = true then ((wide_Of.f 2).bind fun bt946 => (if (t932 == bt946.1 && (t933 == bt946.2)) = true then ((frac_Of.f 4).bind fun bt948 => ((frac_Cmp.f k t916 t917 t918 t919 bt948.1 bt948.2.1 bt948.2.2.1 bt948.2.2.2).bind fun t952 => (some (t952 == (-1))))) else (none))) else (none)) else (none)))))) else (none)))) else (none)) = some r := H
  have A10 := Aside0.mk A100
  clear A100
  by_cases c11 : ((t916 == t936 && (t917 == t937)) && ((t918 == t938 && (t919 == t939)))) = true
  rotate_left
  · rw [if_neg c11] at H
    exact absurd H (by simp)
  rw [if_pos c11] at H
  have c11b0 : ((t916 == t936 && (t917 == t937)) && ((t918 == t938 && (t919 == t939)))) = true := c11
  clear c11
  by_cases c12 : t930 = true
  · subst c12
    have H1 : (none) = some r := by rw [if_pos rfl] at H; exact H
    clear H; have H := H1; clear H1
    exact absurd H (by simp)
  replace c12 := Bool.eq_false_iff.mpr c12
  subst c12
  have H1 : ((frac_Right.f t916 t917 t918 t919).bind fun t940 => (if t940 = true then ((frac_Right.f 0 0 0 0).bind fun t941 => (if t941 = true then (none) else ((frac_Floor.f k t916 t917 t918 t919).bind fun bt942 => ((wide_Of.f 3).bind fun bt944 => (if (bt942.1 == bt944.1 && (bt942.2 == bt944.2)) = true then (if t934 = true then ((wide_Of.f 2).bind fun bt946 => (if (t932 == bt946.1 && (t933 == bt946.2)) = true then ((frac_Of.f 4).bind fun bt948 => ((frac_Cmp.f k t916 t917 t918 t919 bt948.1 bt948.2.1 bt948.2.2.1 bt948.2.2.2).bind fun t952 => (some (t952 == (-1))))) else (none))) else (none)) else (none)))))) else (none))) = some r := by rw [if_neg (show ¬ (false = true) by decide)] at H; exact H
  clear H; have H := H1; clear H1
  replace H := Option.bind_eq_some_iff.mp H
  obtain ⟨t940, A130, H⟩ := H
  replace H : (if t940 = true then ((frac_Right.f 0 0 0 0).bind fun t941 => (if t941 = true then (none) else ((frac_Floor.f k t916 t917 t918 t919).bind fun bt942 => ((wide_Of.f 3).bind fun bt944 => (if (bt942.1 == bt944.1 && (bt942.2 == bt944.2)) = true then (if t934 = true then ((wide_Of.f 2).bind fun bt946 => (if (t932 == bt946.1 && (t933 == bt946.2)) = true then ((frac_Of.f 4).bind fun bt948 => ((frac_Cmp.f k t916 t917 t918 t919 bt948.1 bt948.2.1 bt948.2.2.1 bt948.2.2.2).bind fun t952 => (some (t952 == (-1))))) else (none))) else (none)) else (none)))))) else (none)) = some r := H
  have A13 := Aside0.mk A130
  clear A130
  by_cases c14 : t940 = true
  rotate_left
  · replace c14 := Bool.eq_false_iff.mpr c14
    subst c14
    have H1 : (none) = some r := by rw [if_neg (show ¬ (false = true) by decide)] at H; exact H
    clear H; have H := H1; clear H1
    exact absurd H (by simp)
  subst c14
  have H1 : ((frac_Right.f 0 0 0 0).bind fun t941 => (if t941 = true then (none) else ((frac_Floor.f k t916 t917 t918 t919).bind fun bt942 => ((wide_Of.f 3).bind fun bt944 => (if (bt942.1 == bt944.1 && (bt942.2 == bt944.2)) = true then (if t934 = true then ((wide_Of.f 2).bind fun bt946 => (if (t932 == bt946.1 && (t933 == bt946.2)) = true then ((frac_Of.f 4).bind fun bt948 => ((frac_Cmp.f k t916 t917 t918 t919 bt948.1 bt948.2.1 bt948.2.2.1 bt948.2.2.2).bind fun t952 => (some (t952 == (-1))))) else (none))) else (none)) else (none)))))) = some r := by rw [if_pos rfl] at H; exact H
  clear H; have H := H1; clear H1
  replace H := Option.bind_eq_some_iff.mp H
  obtain ⟨t941, A150, H⟩ := H
  replace H : (if t941 = true then (none) else ((frac_Floor.f k t916 t917 t918 t919).bind fun bt942 => ((wide_Of.f 3).bind fun bt944 => (if (bt942.1 == bt944.1 && (bt942.2 == bt944.2)) = true then (if t934 = true then ((wide_Of.f 2).bind fun bt946 => (if (t932 == bt946.1 && (t933 == bt946.2)) = true then ((frac_Of.f 4).bind fun bt948 => ((frac_Cmp.f k t916 t917 t918 t919 bt948.1 bt948.2.1 bt948.2.2.1 bt948.2.2.2).bind fun t952 => (some (t952 == (-1))))) else (none))) else (none)) else (none))))) = some r := H
  have A15 := Aside0.mk A150
  clear A150
  by_cases c16 : t941 = true
  · subst c16
    have H1 : (none) = some r := by rw [if_pos rfl] at H; exact H
    clear H; have H := H1; clear H1
    exact absurd H (by simp)
  replace c16 := Bool.eq_false_iff.mpr c16
  subst c16
  have H1 : ((frac_Floor.f k t916 t917 t918 t919).bind fun bt942 => ((wide_Of.f 3).bind fun bt944 => (if (bt942.1 == bt944.1 && (bt942.2 == bt944.2)) = true then (if t934 = true then ((wide_Of.f 2).bind fun bt946 => (if (t932 == bt946.1 && (t933 == bt946.2)) = true then ((frac_Of.f 4).bind fun bt948 => ((frac_Cmp.f k t916 t917 t918 t919 bt948.1 bt948.2.1 bt948.2.2.1 bt948.2.2.2).bind fun t952 => (some (t952 == (-1))))) else (none))) else (none)) else (none)))) = some r := by rw [if_neg (show ¬ (false = true) by decide)] at H; exact H
  clear H; have H := H1; clear H1
  replace H := Option.bind_eq_some_iff.mp H
  obtain ⟨⟨t942, t943⟩, A170, H⟩ := H
  replace H : ((wide_Of.f 3).bind fun bt944 => (if (t942 == bt944.1 && (t943 == bt944.2)) = true then (if t934 = true then ((wide_Of.f 2).bind fun bt946 => (if (t932 == bt946.1 && (t933 == bt946.2)) = true then ((frac_Of.f 4).bind fun bt948 => ((frac_Cmp.f k t916 t917 t918 t919 bt948.1 bt948.2.1 bt948.2.2.1 bt948.2.2.2).bind fun t952 => (some (t952 == (-1))))) else (none))) else (none)) else (none))) = some r := H
  have A17 := Aside0.mk A170
  clear A170
  replace H := Option.bind_eq_some_iff.mp H
  obtain ⟨⟨t944, t945⟩, A180, H⟩ := H
  replace H : (if (t942 == t944 && (t943 == t945)) = true then (if t934 = true then ((wide_Of.f 2).bind fun bt946 => (if (t932 == bt946.1 && (t933 == bt946.2)) = true then ((frac_Of.f 4).bind fun bt948 => ((frac_Cmp.f k t916 t917 t918 t919 bt948.1 bt948.2.1 bt948.2.2.1 bt948.2.2.2).bind fun t952 => (some (t952 == (-1))))) else (none))) else (none)) else (none)) = some r := H
  have A18 := Aside0.mk A180
  clear A180
  by_cases c19 : (t942 == t944 && (t943 == t945)) = true
  rotate_left
  · rw [if_neg c19] at H
    exact absurd H (by simp)
  rw [if_pos c19] at H
  have c19b0 : (t942 == t944 && (t943 == t945)) = true := c19
  (try (have c19b1 : decide (t942 = t944 && (t943 == t945)) = true := by simpa using c19))
  (try (have c19b2 : (t942 == t944 && (t943 == t945)) = true := by simpa using c19))
  clear c19
  by_cases c20 : t934 = true
  rotate_left
  · replace c20 := Bool.eq_false_iff.mpr c20
    subst c20
    have H1 : (none) = some r := by rw [if_neg (show ¬ (false = true) by decide)] at H; exact H
    clear H; have H := H1; clear H1
    exact absurd H (by simp)
  subst c20
  have H1 : ((wide_Of.f 2).bind fun bt946 => (if (t932 == bt946.1 && (t933 == bt946.2)) = true then ((frac_Of.f 4).bind fun bt948 => ((frac_Cmp.f k t916 t917 t918 t919 bt948.1 bt948.2.1 bt948.2.2.1 bt948.2.2.2).bind fun t952 => (some (t952 == (-1))))) else (none))) = some r := by rw [if_pos rfl] at H; exact H
  clear H; have H := H1; clear H1
  replace H := Option.bind_eq_some_iff.mp H
  obtain ⟨⟨t946, t947⟩, A210, H⟩ := H
  replace H : (if (t932 == t946 && (t933 == t947)) = true then ((frac_Of.f 4).bind fun bt948 => ((frac_Cmp.f k t916 t917 t918 t919 bt948.1 bt948.2.1 bt948.2.2.1 bt948.2.2.2).bind fun t952 => (some (t952 == (-1))))) else (none)) = some r := H
  have A21 := Aside0.mk A210
  clear A210
  by_cases c22 : (t932 == t946 && (t933 == t947)) = true
  rotate_left
  · rw [if_neg c22] at H
    exact absurd H (by simp)
  rw [if_pos c22] at H
  have c22b0 : (t932 == t946 && (t933 == t947)) = true := c22
  (try (have c22b1 : decide (t932 = t946 && (t933 == t947)) = true := by simpa using c22))
  (try (have c22b2 : (t932 == t946 && (t933 == t947)) = true := by simpa using c22))
  clear c22
  replace H := Option.bind_eq_some_iff.mp H
  obtain ⟨⟨t948, t949, t950, t951⟩, A230, H⟩ := H
  replace H : ((frac_Cmp.f k t916 t917 t918 t919 t948 t949 t950 t951).bind fun t952 => (some (t952 == (-1)))) = some r := H
  have A23 := Aside0.mk A230
  clear A230
  replace H := Option.bind_eq_some_iff.mp H
  obtain ⟨t952, A240, H⟩ := H
  replace H : (some (t952 == (-1))) = some r := H
  have A24 := Aside0.mk A240
  clear A240
  obtain rfl := Option.some.inj H
  go_enter Try.func39, Try.ntmps39
  try go_wp2_with (first | ((with_reducible refine gate_callee (f := 32) rfl ?_); refine goesL_ (some 8) rfl rfl Try.func32 (by kernel_rfl) rfl #[.int .i64 (-7)] rfl (by (try simp only [List.map_toArray, List.map_cons, List.map_nil]); first | done | rfl | (simp only [List.length_drop, List.length_take]; rfl)) ?_; (with_reducible refine (wide_Of.calls (-7) t912 t913 _ A1.out).mono ?_); rintro e w25 ⟨rfl, hb⟩; refine ⟨_, rfl, ?_⟩; replace HB := kB HB hb; (try clear hb); (try clear hb2); (try clear hk); (try clear hi)) | ((with_reducible refine gate_callee (f := 32) rfl ?_); refine goesL_ (some 9) rfl rfl Try.func32 (by kernel_rfl) rfl #[.int .i64 (-2)] rfl (by (try simp only [List.map_toArray, List.map_cons, List.map_nil]); first | done | rfl | (simp only [List.length_drop, List.length_take]; rfl)) ?_; (with_reducible refine (wide_Of.calls (-2) t914 t915 _ A2.out).mono ?_); rintro e w26 ⟨rfl, hb⟩; refine ⟨_, rfl, ?_⟩; replace HB := kB HB hb; (try clear hb); (try clear hb2); (try clear hk); (try clear hi)) | ((with_reducible refine gate_callee (f := 46) rfl ?_); refine goesL_ (some 10) rfl rfl Try.func46 (by kernel_rfl) rfl #[.agg #[.int .i64 t912, .int .u64 t913], .agg #[.int .i64 t914, .int .u64 t915]] rfl (by (try simp only [List.map_toArray, List.map_cons, List.map_nil]); first | done | rfl | (simp only [List.length_drop, List.length_take]; rfl)) ?_; (with_reducible refine (frac_Make.calls k t912 t913 t914 t915 t916 t917 t918 t919 true _ A3.out).mono ?_); rintro e w27 ⟨rfl, hb⟩; refine ⟨_, rfl, ?_⟩; replace HB := kB HB hb; (try clear hb); (try clear hb2); (try clear hk); (try clear hi)) | ((with_reducible refine gate_dst (N := 1) rfl ?_); refine box_event ?hg (N := 1) ?hd (cs := #[.int .i64 0, .int .u64 0, .int .i64 0, .int .u64 0]) (t := 62) ?hr ?_; (case hd => rfl); (case hg => rfl); (case hr => first | (go_simp; done) | (go_simp; rfl)); intro gb921 hg w28 hbox hb; have BK921 := Aside0.mk (hbox); have GW921 := kS HB hg; have GE921 := kS HB hg; replace HB := kB HB hb; clear hb hbox hg; have hcz29_0 : w28.cell? ⟨gb921, 0, none⟩ = some (.int .i64 0) := kc BK921 0; have hcz29_1 : w28.cell? ⟨gb921, 1, none⟩ = some (.int .u64 0) := kc BK921 1; have hcz29_2 : w28.cell? ⟨gb921, 2, none⟩ = some (.int .i64 0) := kc BK921 2; have hcz29_3 : w28.cell? ⟨gb921, 3, none⟩ = some (.int .u64 0) := kc BK921 3; have hfz29_0 := blk_frozen BK921.out 0; have hfz29_1 := blk_frozen BK921.out 1; have hfz29_2 := blk_frozen BK921.out 2; have hfz29_3 := blk_frozen BK921.out 3) | ((with_reducible refine gate_callee (f := 32) rfl ?_); refine goesL_ (some 14) rfl rfl Try.func32 (by kernel_rfl) rfl #[.int .i64 1] rfl (by (try simp only [List.map_toArray, List.map_cons, List.map_nil]); first | done | rfl | (simp only [List.length_drop, List.length_take]; rfl)) ?_; (with_reducible refine (wide_Of.calls 1 t922 t923 _ A4.out).mono ?_); rintro e w30 ⟨rfl, hb⟩; refine ⟨_, rfl, ?_⟩; have n0_ := Aside0.mk (blk_below (g := gb921) (o := .cells #[.int .i64 t916, .int .u64 t917, .int .i64 t918, .int .u64 t919] 62 (0, 0)) (by (with_reducible repeat (first | refine blk_drewN ?_ _ | refine blk_drew ?_ | refine blk_alloc ?_ _)); refine blk_put (cs := #[.int .i64 t916, .int .u64 t917, .int .i64 t918, .int .u64 0]) ?_ 3 _ rfl; (with_reducible repeat (first | refine blk_drewN ?_ _ | refine blk_drew ?_ | refine blk_alloc ?_ _)); refine blk_put (cs := #[.int .i64 t916, .int .u64 t917, .int .i64 0, .int .u64 0]) ?_ 2 _ rfl; (with_reducible repeat (first | refine blk_drewN ?_ _ | refine blk_drew ?_ | refine blk_alloc ?_ _)); refine blk_put (cs := #[.int .i64 t916, .int .u64 0, .int .i64 0, .int .u64 0]) ?_ 1 _ rfl; (with_reducible repeat (first | refine blk_drewN ?_ _ | refine blk_drew ?_ | refine blk_alloc ?_ _)); refine blk_put (cs := #[.int .i64 0, .int .u64 0, .int .i64 0, .int .u64 0]) ?_ 0 _ rfl; (with_reducible repeat (first | refine blk_drewN ?_ _ | refine blk_drew ?_ | refine blk_alloc ?_ _)); exact BK921.out) hb); have n1_ := kB HB hb; clear BK921; clear HB; have BK921 := n0_; have HB := n1_; clear n0_ n1_; (try clear hb); (try clear hb2); (try clear hk); (try clear hi)) | ((with_reducible refine gate_callee (f := 32) rfl ?_); refine goesL_ (some 15) rfl rfl Try.func32 (by kernel_rfl) rfl #[.int .i64 0] rfl (by (try simp only [List.map_toArray, List.map_cons, List.map_nil]); first | done | rfl | (simp only [List.length_drop, List.length_take]; rfl)) ?_; (with_reducible refine (wide_Of.calls 0 t924 t925 _ A5.out).mono ?_); rintro e w31 ⟨rfl, hb⟩; refine ⟨_, rfl, ?_⟩; replace BK921 := kb BK921 hb; replace HB := kB HB hb; (try clear hb); (try clear hb2); (try clear hk); (try clear hi)) | ((with_reducible refine gate_callee (f := 46) rfl ?_); refine goesL_ (some 16) rfl rfl Try.func46 (by kernel_rfl) rfl #[.agg #[.int .i64 t922, .int .u64 t923], .agg #[.int .i64 t924, .int .u64 t925]] rfl (by (try simp only [List.map_toArray, List.map_cons, List.map_nil]); first | done | rfl | (simp only [List.length_drop, List.length_take]; rfl)) ?_; (with_reducible refine (frac_Make.calls k t922 t923 t924 t925 t926 t927 t928 t929 false _ A6.out).mono ?_); rintro e w32 ⟨rfl, hb⟩; refine ⟨_, rfl, ?_⟩; replace BK921 := kb BK921 hb; replace HB := kB HB hb; (try clear hb); (try clear hb2); (try clear hk); (try clear hi)) | ((with_reducible refine gate_dst (N := 3) rfl ?_); refine box_event ?hg (N := 3) ?hd (cs := #[.int .i64 0, .int .u64 0, .int .i64 0, .int .u64 0]) (t := 62) ?hr ?_; (case hd => rfl); (case hg => rfl); (case hr => first | (go_simp; done) | (go_simp; rfl)); intro gb931 hg w33 hbox hb; have BK931 := Aside0.mk (hbox); have GW931 := kS HB hg; have GE931 := kS HB hg; have NB921_931 := kN BK921 hg; have NB931_921 := kM BK921 hg; replace BK921 := kb BK921 hb; replace HB := kB HB hb; clear hb hbox hg; have hnb34 := NB931_921.out; have hnc34 := NB921_931.out; have hcz35_0 : w33.cell? ⟨gb931, 0, none⟩ = some (.int .i64 0) := kc BK931 0; have hcz35_1 : w33.cell? ⟨gb931, 1, none⟩ = some (.int .u64 0) := kc BK931 1; have hcz35_2 : w33.cell? ⟨gb931, 2, none⟩ = some (.int .i64 0) := kc BK931 2; have hcz35_3 : w33.cell? ⟨gb931, 3, none⟩ = some (.int .u64 0) := kc BK931 3; have hfz35_0 := blk_frozen BK931.out 0; have hfz35_1 := blk_frozen BK931.out 1; have hfz35_2 := blk_frozen BK931.out 2; have hfz35_3 := blk_frozen BK931.out 3; have hcz36_0 : w33.cell? ⟨gb921, 0, none⟩ = some (.int .i64 t916) := kc BK921 0; have hcz36_1 : w33.cell? ⟨gb921, 1, none⟩ = some (.int .u64 t917) := kc BK921 1; have hcz36_2 : w33.cell? ⟨gb921, 2, none⟩ = some (.int .i64 t918) := kc BK921 2; have hcz36_3 : w33.cell? ⟨gb921, 3, none⟩ = some (.int .u64 t919) := kc BK921 3; have hfz36_0 := blk_frozen BK921.out 0; have hfz36_1 := blk_frozen BK921.out 1; have hfz36_2 := blk_frozen BK921.out 2; have hfz36_3 := blk_frozen BK921.out 3) | ((with_reducible refine gate_callee (f := 40) rfl ?_); refine goesL_ (some 21) rfl rfl Try.func40 (by kernel_rfl) rfl #[.agg #[.int .i64 t916, .int .u64 t917, .int .i64 t918, .int .u64 t919], .int .i64 1] rfl (by (try simp only [List.map_toArray, List.map_cons, List.map_nil]); first | done | rfl | (simp only [List.length_drop, List.length_take]; rfl)) ?_; (with_reducible refine (frac_Snap.calls k t916 t917 t918 t919 1 t932 t933 true _ A7.out).mono ?_); rintro e w37 ⟨rfl, hb⟩; refine ⟨_, rfl, ?_⟩; have n0_ := kb BK921 hb; have n1_ := Aside0.mk (blk_below (g := gb931) (o := .cells #[.int .i64 t926, .int .u64 t927, .int .i64 t928, .int .u64 t929] 62 (0, 0)) (by (with_reducible repeat (first | refine blk_drewN ?_ _ | refine blk_drew ?_ | refine blk_alloc ?_ _)); refine blk_put (cs := #[.int .i64 t926, .int .u64 t927, .int .i64 t928, .int .u64 0]) ?_ 3 _ rfl; (with_reducible repeat (first | refine blk_drewN ?_ _ | refine blk_drew ?_ | refine blk_alloc ?_ _)); refine blk_put (cs := #[.int .i64 t926, .int .u64 t927, .int .i64 0, .int .u64 0]) ?_ 2 _ rfl; (with_reducible repeat (first | refine blk_drewN ?_ _ | refine blk_drew ?_ | refine blk_alloc ?_ _)); refine blk_put (cs := #[.int .i64 t926, .int .u64 0, .int .i64 0, .int .u64 0]) ?_ 1 _ rfl; (with_reducible repeat (first | refine blk_drewN ?_ _ | refine blk_drew ?_ | refine blk_alloc ?_ _)); refine blk_put (cs := #[.int .i64 0, .int .u64 0, .int .i64 0, .int .u64 0]) ?_ 0 _ rfl; (with_reducible repeat (first | refine blk_drewN ?_ _ | refine blk_drew ?_ | refine blk_alloc ?_ _)); exact BK931.out) hb); have n2_ := kB HB hb; clear BK921; clear BK931; clear HB; have BK921 := n0_; have BK931 := n1_; have HB := n2_; clear n0_ n1_ n2_; (try clear hb); (try clear hb2); (try clear hk); (try clear hi)) | ((with_reducible refine gate_dst (N := 5) rfl ?_); refine box_event ?hg (N := 5) ?hd (cs := #[.int .i64 0, .int .u64 0]) (t := 24) ?hr ?_; (case hd => rfl); (case hg => rfl); (case hr => first | (go_simp; done) | (go_simp; rfl)); intro gb935 hg w38 hbox hb; have BK935 := Aside0.mk (hbox); have GW935 := kS HB hg; have GE935 := kS HB hg; have NB921_935 := kN BK921 hg; have NB935_921 := kM BK921 hg; have NB931_935 := kN BK931 hg; have NB935_931 := kM BK931 hg; replace BK921 := kb BK921 hb; replace BK931 := kb BK931 hb; replace HB := kB HB hb; clear hb hbox hg; have hnb39 := NB935_921.out; have hnc39 := NB921_935.out; have hnb40 := NB935_931.out; have hnc40 := NB931_935.out; have hcz41_0 : w38.cell? ⟨gb935, 0, none⟩ = some (.int .i64 0) := kc BK935 0; have hcz41_1 : w38.cell? ⟨gb935, 1, none⟩ = some (.int .u64 0) := kc BK935 1; have hfz41_0 := blk_frozen BK935.out 0; have hfz41_1 := blk_frozen BK935.out 1))
  have n0_ : Aside0 (((w38.setCell ⟨gb935, 0, none⟩ (.int .i64 t932)).setCell ⟨gb935, 1, none⟩ (.int .u64 t933)).heap[gb921]? = some (.cells #[.int .i64 t916, .int .u64 t917, .int .i64 t918, .int .u64 t919] 62 (0, 0))) := ⟨kx BK921⟩
  have n1_ : Aside0 (((w38.setCell ⟨gb935, 0, none⟩ (.int .i64 t932)).setCell ⟨gb935, 1, none⟩ (.int .u64 t933)).heap[gb931]? = some (.cells #[.int .i64 t926, .int .u64 t927, .int .i64 t928, .int .u64 t929] 62 (0, 0))) := ⟨kx BK931⟩
  have n2_ : Aside0 (((w38.setCell ⟨gb935, 0, none⟩ (.int .i64 t932)).setCell ⟨gb935, 1, none⟩ (.int .u64 t933)).heap[gb935]? = some (.cells #[.int .i64 t932, .int .u64 t933] 24 (0, 0))) := ⟨by (with_reducible repeat (first | refine blk_drewN ?_ _ | refine blk_drew ?_ | refine blk_alloc ?_ _)); refine blk_put (cs := #[.int .i64 t932, .int .u64 0]) ?_ 1 _ rfl; (with_reducible repeat (first | refine blk_drewN ?_ _ | refine blk_drew ?_ | refine blk_alloc ?_ _)); refine blk_put (cs := #[.int .i64 0, .int .u64 0]) ?_ 0 _ rfl; (with_reducible repeat (first | refine blk_drewN ?_ _ | refine blk_drew ?_ | refine blk_alloc ?_ _)); exact BK935.out⟩
  have n3_ : Aside0 (Below w.heap.size w ((w38.setCell ⟨gb935, 0, none⟩ (.int .i64 t932)).setCell ⟨gb935, 1, none⟩ (.int .u64 t933))) := ⟨ky HB⟩
  (try clear BK921); (try clear BK931); (try clear BK935); (try clear HB)
  generalize ((w38.setCell ⟨gb935, 0, none⟩ (.int .i64 t932)).setCell ⟨gb935, 1, none⟩ (.int .u64 t933)) = w42 at n0_ n1_ n2_ n3_ ⊢
  have BK921 := n0_; have BK931 := n1_; have BK935 := n2_; have HB := n3_
  clear n0_ n1_ n2_ n3_
  replace BK921 := Aside0.mk (blk_drew BK921.out)
  replace BK931 := Aside0.mk (blk_drew BK931.out)
  replace BK935 := Aside0.mk (blk_drew BK935.out)
  replace HB := Aside0.mk (below_drew1 HB.out)
  refine start_ (n := 42) (S := fun w' => w'.cell? ⟨gb921, 0, none⟩ = some (.int .i64 t916) ∧ w'.cell? ⟨gb921, 1, none⟩ = some (.int .u64 t917) ∧ w'.cell? ⟨gb921, 2, none⟩ = some (.int .i64 t918) ∧ w'.cell? ⟨gb921, 3, none⟩ = some (.int .u64 t919) ∧ w'.cell? ⟨gb935, 0, none⟩ = some (.int .i64 t932) ∧ w'.cell? ⟨gb935, 1, none⟩ = some (.int .u64 t933)) (ds := []) #[O, O, O, O, O, O, O, O, O, O, O, O, O, O, O, O, O, O, O, O, O, O, O, O, O, O, O, O, O, O, O, O, O, O, O, O, O, O, O, O, O, O] (by kernel_rfl) rfl rfl ⟨kc BK921 0, kc BK921 1, kc BK921 2, kc BK921 3, kc BK935 0, kc BK935 1⟩ (fun hHeld => ?_); refine with_tabW cobweblaw02_alive.tab4 cobweblaw02_alive.bits4 (fun HT_ HW_ => ?_)
  generalize w42.drew = w43 at BK921 BK931 BK935 HB hHeld ⊢
  refine pure_ (i := 0) (N := some 24) (v := ?_) (a' := ?_) #[T, O, O, O, O, O, O, O, O, O, O, O, O, O, O, O, O, O, O, O, O, O, O, O, O, O, O, O, O, O, O, O, O, O, O, O, O, O, O, O, O, O] rfl rfl (any_of HT_.out (by kernel_rfl)) (fun _ _ _ h => h) (Or.inl ⟨by rfl, ?_⟩) ?_ ?_; rotate_left; focus (intro w'; go_simp; with_reducible rfl)
  rotate_left; focus (simp only [Act.put, s1, s2, s3, i64_w, i32_w]; rfl)
  refine pure_ (i := 1) (N := some 25) (v := ?_) (a' := ?_) #[T, T, O, O, O, O, O, O, O, O, O, O, O, O, O, O, O, O, O, O, O, O, O, O, O, O, O, O, O, O, O, O, O, O, O, O, O, O, O, O, O, O] rfl rfl (any_of HT_.out (by kernel_rfl)) (fun _ _ _ h => h) (Or.inl ⟨by rfl, ?_⟩) ?_ ?_; rotate_left; focus (intro w'; go_simp; with_reducible rfl)
  rotate_left; focus (simp only [Act.put, s1, s2, s3, i64_w, i32_w]; rfl)
  refine take_ (i := 2) (N := some 26) (v := ?_) (a' := ?_) #[T, T, T, O, O, O, O, O, O, O, O, O, O, O, O, O, O, O, O, O, O, O, O, O, O, O, O, O, O, O, O, O, O, O, O, O, O, O, O, O, O, O] rfl rfl (take_ofW HT_.out HW_.out (by kernel_rfl)) (fun _ _ _ h => h) (Or.inl ⟨by rfl, ?_⟩) hHeld ?_ ?_; rotate_left; focus (rintro w' ⟨s0, s1, s2, s3, s4, s5⟩; go_simp; with_reducible rfl)
  rotate_left; focus (simp only [Act.put, s1, s2, s3, i64_w, i32_w]; rfl)
  refine one_ (i := 3) (N := some 27) #[T, T, T, T, O, O, O, O, O, O, O, O, O, O, O, O, O, O, O, O, O, O, O, O, O, O, O, O, O, O, O, O, O, O, O, O, O, O, O, O, O, O] rfl rfl (one_of HT_.out (by kernel_rfl)) (by decide) (fun K hK => ?_)
  refine goes_ Try.func32 (by kernel_rfl) rfl #[.int .i64 7] (by rfl) rfl rfl (by (try simp only [List.map_toArray, List.map_cons, List.map_nil]); first | done | rfl | (simp only [List.length_drop, List.length_take]; rfl)) ?_
  with_reducible refine (wide_Of.calls 7 t936 t937 _ A9.out).mono ?_
  rintro e w44 ⟨rfl, hb⟩
  refine ⟨_, rfl, ?_⟩
  replace BK921 := kb BK921 hb
  replace BK931 := kb BK931 hb
  replace BK935 := kb BK935 hb
  replace HB := kB HB hb
  (try clear hb); (try clear hb2); (try clear hk); (try clear hi)
  refine hK.out _ _ ⟨kc BK921 0, kc BK921 1, kc BK921 2, kc BK921 3, kc BK935 0, kc BK935 1⟩ (fun hHeld => ?_)
  clear hK K
  refine norm_ (a' := ?_) ?_ ?_; rotate_left; focus (show Act.put _ (some 27) _ = _; simp only [Act.put, s1, s2, s3, i64_w, i32_w]; rfl)
  refine one_ (i := 4) (N := some 28) #[T, T, T, T, T, O, O, O, O, O, O, O, O, O, O, O, O, O, O, O, O, O, O, O, O, O, O, O, O, O, O, O, O, O, O, O, O, O, O, O, O, O] rfl rfl (one_of HT_.out (by kernel_rfl)) (by decide) (fun K hK => ?_)
  refine goes_ Try.func32 (by kernel_rfl) rfl #[.int .i64 2] (by rfl) rfl rfl (by (try simp only [List.map_toArray, List.map_cons, List.map_nil]); first | done | rfl | (simp only [List.length_drop, List.length_take]; rfl)) ?_
  with_reducible refine (wide_Of.calls 2 t938 t939 _ A10.out).mono ?_
  rintro e w45 ⟨rfl, hb⟩
  refine ⟨_, rfl, ?_⟩
  replace BK921 := kb BK921 hb
  replace BK931 := kb BK931 hb
  replace BK935 := kb BK935 hb
  replace HB := kB HB hb
  (try clear hb); (try clear hb2); (try clear hk); (try clear hi)
  refine hK.out _ _ ⟨kc BK921 0, kc BK921 1, kc BK921 2, kc BK921 3, kc BK935 0, kc BK935 1⟩ (fun hHeld => ?_)
  clear hK K
  refine norm_ (a' := ?_) ?_ ?_; rotate_left; focus (show Act.put _ (some 28) _ = _; simp only [Act.put, s1, s2, s3, i64_w, i32_w]; rfl)
  refine pure_ (i := 5) (N := some 29) (v := ?_) (a' := ?_) #[T, T, T, T, T, T, O, O, O, O, O, O, O, O, O, O, O, O, O, O, O, O, O, O, O, O, O, O, O, O, O, O, O, O, O, O, O, O, O, O, O, O] rfl rfl (any_of HT_.out (by kernel_rfl)) (fun _ _ _ h => h) (Or.inl ⟨by rfl, ?_⟩) ?_ ?_; rotate_left; focus (intro w'; go_simp; with_reducible rfl)
  rotate_left; focus (simp only [Act.put, s1, s2, s3, i64_w, i32_w]; rfl)
  refine pure_ (i := 6) (N := some 30) (v := ?_) (a' := ?_) #[T, T, T, T, T, T, T, O, O, O, O, O, O, O, O, O, O, O, O, O, O, O, O, O, O, O, O, O, O, O, O, O, O, O, O, O, O, O, O, O, O, O] rfl rfl (any_of HT_.out (by kernel_rfl)) (fun _ _ _ h => h) (Or.inl ⟨by rfl, ?_⟩) ?_ ?_; rotate_left; focus (intro w'; go_simp; with_reducible rfl)
  rotate_left; focus (simp only [Act.put, s1, s2, s3, i64_w, i32_w]; rfl)
  refine pure_ (i := 7) (N := some 31) (v := ?_) (a' := ?_) #[T, T, T, T, T, T, T, T, O, O, O, O, O, O, O, O, O, O, O, O, O, O, O, O, O, O, O, O, O, O, O, O, O, O, O, O, O, O, O, O, O, O] rfl rfl (any_of HT_.out (by kernel_rfl)) (fun _ _ _ h => h) (Or.inl ⟨by rfl, ?_⟩) ?_ ?_; rotate_left; focus (intro w'; go_simp; with_reducible rfl)
  rotate_left; focus (simp only [Act.put, s1, s2, s3, i64_w, i32_w]; rfl)
  refine pure_ (i := 8) (N := some 32) (v := ?_) (a' := ?_) #[T, T, T, T, T, T, T, T, T, O, O, O, O, O, O, O, O, O, O, O, O, O, O, O, O, O, O, O, O, O, O, O, O, O, O, O, O, O, O, O, O, O] rfl rfl (any_of HT_.out (by kernel_rfl)) (fun _ _ _ h => h) (Or.inl ⟨by rfl, ?_⟩) ?_ ?_; rotate_left; focus (intro w'; go_simp; with_reducible rfl)
  rotate_left; focus (simp only [Act.put, s1, s2, s3, i64_w, i32_w]; rfl)
  refine pure_ (i := 9) (N := some 33) (v := ?_) (a' := ?_) #[T, T, T, T, T, T, T, T, T, T, O, O, O, O, O, O, O, O, O, O, O, O, O, O, O, O, O, O, O, O, O, O, O, O, O, O, O, O, O, O, O, O] rfl rfl (any_of HT_.out (by kernel_rfl)) (fun _ _ _ h => h) (Or.inl ⟨by rfl, ?_⟩) ?_ ?_; rotate_left; focus (intro w'; go_simp; with_reducible rfl)
  rotate_left; focus (simp only [Act.put, s1, s2, s3, i64_w, i32_w]; rfl)
  refine pure_ (i := 10) (N := some 34) (v := ?_) (a' := ?_) #[T, T, T, T, T, T, T, T, T, T, T, O, O, O, O, O, O, O, O, O, O, O, O, O, O, O, O, O, O, O, O, O, O, O, O, O, O, O, O, O, O, O] rfl rfl (any_of HT_.out (by kernel_rfl)) (fun _ _ _ h => h) (Or.inl ⟨by rfl, ?_⟩) ?_ ?_; rotate_left; focus (intro w'; go_simp; with_reducible rfl)
  rotate_left; focus (simp only [Act.put, s1, s2, s3, i64_w, i32_w]; rfl)
  refine pure_ (i := 11) (N := some 35) (v := ?_) (a' := ?_) #[T, T, T, T, T, T, T, T, T, T, T, T, O, O, O, O, O, O, O, O, O, O, O, O, O, O, O, O, O, O, O, O, O, O, O, O, O, O, O, O, O, O] rfl rfl (any_of HT_.out (by kernel_rfl)) (fun _ _ _ h => h) (Or.inl ⟨by rfl, ?_⟩) ?_ ?_; rotate_left; focus (intro w'; go_simp; with_reducible rfl)
  rotate_left; focus (simp only [Act.put, s1, s2, s3, i64_w, i32_w]; rfl)
  refine pure_ (i := 12) (N := some 36) (v := ?_) (a' := ?_) #[T, T, T, T, T, T, T, T, T, T, T, T, T, O, O, O, O, O, O, O, O, O, O, O, O, O, O, O, O, O, O, O, O, O, O, O, O, O, O, O, O, O] rfl rfl (any_of HT_.out (by kernel_rfl)) (fun _ _ _ h => h) (Or.inl ⟨by rfl, ?_⟩) ?_ ?_; rotate_left; focus (intro w'; go_simp; with_reducible rfl)
  rotate_left; focus (simp only [Act.put, s1, s2, s3, i64_w, i32_w]; rfl)
  refine take_ (i := 13) (N := some 37) (v := ?_) (a' := ?_) #[T, T, T, T, T, T, T, T, T, T, T, T, T, T, O, O, O, O, O, O, O, O, O, O, O, O, O, O, O, O, O, O, O, O, O, O, O, O, O, O, O, O] rfl rfl (take_ofW HT_.out HW_.out (by kernel_rfl)) (fun _ _ _ h => h) (Or.inl ⟨by rfl, ?_⟩) hHeld ?_ ?_; rotate_left; focus (rintro w' ⟨s0, s1, s2, s3, s4, s5⟩; go_simp; with_reducible rfl)
  rotate_left; focus (simp only [Act.put, s1, s2, s3, i64_w, i32_w]; rfl)
  refine one_ (i := 14) (N := some 38) #[T, T, T, T, T, T, T, T, T, T, T, T, T, T, T, O, O, O, O, O, O, O, O, O, O, O, O, O, O, O, O, O, O, O, O, O, O, O, O, O, O, O] rfl rfl (one_of HT_.out (by kernel_rfl)) (by decide) (fun K hK => ?_)
  refine goes_ Try.func49 (by kernel_rfl) rfl #[.agg #[.int .i64 t916, .int .u64 t917, .int .i64 t918, .int .u64 t919]] (by rfl) rfl rfl (by (try simp only [List.map_toArray, List.map_cons, List.map_nil]); first | done | rfl | (simp only [List.length_drop, List.length_take]; rfl)) ?_
  with_reducible refine (frac_Right.calls t916 t917 t918 t919 true _ A13.out).mono ?_
  rintro e w46 ⟨rfl, hb⟩
  refine ⟨_, rfl, ?_⟩
  replace BK921 := kb BK921 hb
  replace BK931 := kb BK931 hb
  replace BK935 := kb BK935 hb
  replace HB := kB HB hb
  (try clear hb); (try clear hb2); (try clear hk); (try clear hi)
  refine hK.out _ _ ⟨kc BK921 0, kc BK921 1, kc BK921 2, kc BK921 3, kc BK935 0, kc BK935 1⟩ (fun hHeld => ?_)
  clear hK K
  refine norm_ (a' := ?_) ?_ ?_; rotate_left; focus (show Act.put _ (some 38) _ = _; simp only [Act.put, s1, s2, s3, i64_w, i32_w]; rfl)
  refine pure_ (i := 15) (N := some 39) (v := ?_) (a' := ?_) #[T, T, T, T, T, T, T, T, T, T, T, T, T, T, T, T, O, O, O, O, O, O, O, O, O, O, O, O, O, O, O, O, O, O, O, O, O, O, O, O, O, O] rfl rfl (any_of HT_.out (by kernel_rfl)) (fun _ _ _ h => h) (Or.inl ⟨by rfl, ?_⟩) ?_ ?_; rotate_left; focus (intro w'; go_simp; with_reducible rfl)
  rotate_left; focus (simp only [Act.put, s1, s2, s3, i64_w, i32_w]; rfl)
  refine pure_ (i := 16) (N := some 40) (v := ?_) (a' := ?_) #[T, T, T, T, T, T, T, T, T, T, T, T, T, T, T, T, T, O, O, O, O, O, O, O, O, O, O, O, O, O, O, O, O, O, O, O, O, O, O, O, O, O] rfl rfl (any_of HT_.out (by kernel_rfl)) (fun _ _ _ h => h) (Or.inl ⟨by rfl, ?_⟩) ?_ ?_; rotate_left; focus (intro w'; go_simp; with_reducible rfl)
  rotate_left; focus (simp only [Act.put, s1, s2, s3, i64_w, i32_w]; rfl)
  refine pure_ (i := 17) (N := some 41) (v := ?_) (a' := ?_) #[T, T, T, T, T, T, T, T, T, T, T, T, T, T, T, T, T, T, O, O, O, O, O, O, O, O, O, O, O, O, O, O, O, O, O, O, O, O, O, O, O, O] rfl rfl (any_of HT_.out (by kernel_rfl)) (fun _ _ _ h => h) (Or.inl ⟨by rfl, ?_⟩) ?_ ?_; rotate_left; focus (intro w'; go_simp; with_reducible rfl)
  rotate_left; focus (simp only [Act.put, s1, s2, s3, i64_w, i32_w]; rfl)
  refine one_ (i := 18) (N := some 42) #[T, T, T, T, T, T, T, T, T, T, T, T, T, T, T, T, T, T, T, O, O, O, O, O, O, O, O, O, O, O, O, O, O, O, O, O, O, O, O, O, O, O] rfl rfl (one_of HT_.out (by kernel_rfl)) (by decide) (fun K hK => ?_)
  refine goes_ Try.func49 (by kernel_rfl) rfl #[.agg #[.int .i64 0, .int .u64 0, .int .i64 0, .int .u64 0]] (by rfl) rfl rfl (by (try simp only [List.map_toArray, List.map_cons, List.map_nil]); first | done | rfl | (simp only [List.length_drop, List.length_take]; rfl)) ?_
  with_reducible refine (frac_Right.calls 0 0 0 0 false _ A15.out).mono ?_
  rintro e w47 ⟨rfl, hb⟩
  refine ⟨_, rfl, ?_⟩
  replace BK921 := kb BK921 hb
  replace BK931 := kb BK931 hb
  replace BK935 := kb BK935 hb
  replace HB := kB HB hb
  (try clear hb); (try clear hb2); (try clear hk); (try clear hi)
  refine hK.out _ _ ⟨kc BK921 0, kc BK921 1, kc BK921 2, kc BK921 3, kc BK935 0, kc BK935 1⟩ (fun hHeld => ?_)
  clear hK K
  refine norm_ (a' := ?_) ?_ ?_; rotate_left; focus (show Act.put _ (some 42) _ = _; simp only [Act.put, s1, s2, s3, i64_w, i32_w]; rfl)
  refine pure_ (i := 19) (N := some 43) (v := ?_) (a' := ?_) #[T, T, T, T, T, T, T, T, T, T, T, T, T, T, T, T, T, T, T, T, O, O, O, O, O, O, O, O, O, O, O, O, O, O, O, O, O, O, O, O, O, O] rfl rfl (any_of HT_.out (by kernel_rfl)) (fun _ _ _ h => h) (Or.inl ⟨by rfl, ?_⟩) ?_ ?_; rotate_left; focus (intro w'; go_simp; with_reducible rfl)
  rotate_left; focus (simp only [Act.put, s1, s2, s3, i64_w, i32_w]; rfl)
  refine pure_ (i := 20) (N := some 44) (v := ?_) (a' := ?_) #[T, T, T, T, T, T, T, T, T, T, T, T, T, T, T, T, T, T, T, T, T, O, O, O, O, O, O, O, O, O, O, O, O, O, O, O, O, O, O, O, O, O] rfl rfl (any_of HT_.out (by kernel_rfl)) (fun _ _ _ h => h) (Or.inl ⟨by rfl, ?_⟩) ?_ ?_; rotate_left; focus (intro w'; go_simp; with_reducible rfl)
  rotate_left; focus (simp only [Act.put, s1, s2, s3, i64_w, i32_w]; rfl)
  refine pure_ (i := 21) (N := some 45) (v := ?_) (a' := ?_) #[T, T, T, T, T, T, T, T, T, T, T, T, T, T, T, T, T, T, T, T, T, T, O, O, O, O, O, O, O, O, O, O, O, O, O, O, O, O, O, O, O, O] rfl rfl (any_of HT_.out (by kernel_rfl)) (fun _ _ _ h => h) (Or.inl ⟨by rfl, ?_⟩) ?_ ?_; rotate_left; focus (intro w'; go_simp; with_reducible rfl)
  rotate_left; focus (simp only [Act.put, s1, s2, s3, i64_w, i32_w]; rfl)
  refine take_ (i := 22) (N := some 46) (v := ?_) (a' := ?_) #[T, T, T, T, T, T, T, T, T, T, T, T, T, T, T, T, T, T, T, T, T, T, T, O, O, O, O, O, O, O, O, O, O, O, O, O, O, O, O, O, O, O] rfl rfl (take_ofW HT_.out HW_.out (by kernel_rfl)) (fun _ _ _ h => h) (Or.inl ⟨by rfl, ?_⟩) hHeld ?_ ?_; rotate_left; focus (rintro w' ⟨s0, s1, s2, s3, s4, s5⟩; go_simp; with_reducible rfl)
  rotate_left; focus (simp only [Act.put, s1, s2, s3, i64_w, i32_w]; rfl)
  refine one_ (i := 23) (N := some 47) #[T, T, T, T, T, T, T, T, T, T, T, T, T, T, T, T, T, T, T, T, T, T, T, T, O, O, O, O, O, O, O, O, O, O, O, O, O, O, O, O, O, O] rfl rfl (one_of HT_.out (by kernel_rfl)) (by decide) (fun K hK => ?_)
  refine goes_ Try.func42 (by kernel_rfl) rfl #[.agg #[.int .i64 t916, .int .u64 t917, .int .i64 t918, .int .u64 t919]] (by rfl) rfl rfl (by (try simp only [List.map_toArray, List.map_cons, List.map_nil]); first | done | rfl | (simp only [List.length_drop, List.length_take]; rfl)) ?_
  with_reducible refine (frac_Floor.calls k t916 t917 t918 t919 t942 t943 _ A17.out).mono ?_
  rintro e w48 ⟨rfl, hb⟩
  refine ⟨_, rfl, ?_⟩
  replace BK921 := kb BK921 hb
  replace BK931 := kb BK931 hb
  replace BK935 := kb BK935 hb
  replace HB := kB HB hb
  (try clear hb); (try clear hb2); (try clear hk); (try clear hi)
  refine hK.out _ _ ⟨kc BK921 0, kc BK921 1, kc BK921 2, kc BK921 3, kc BK935 0, kc BK935 1⟩ (fun hHeld => ?_)
  clear hK K
  refine norm_ (a' := ?_) ?_ ?_; rotate_left; focus (show Act.put _ (some 47) _ = _; simp only [Act.put, s1, s2, s3, i64_w, i32_w]; rfl)
  refine one_ (i := 24) (N := some 48) #[T, T, T, T, T, T, T, T, T, T, T, T, T, T, T, T, T, T, T, T, T, T, T, T, T, O, O, O, O, O, O, O, O, O, O, O, O, O, O, O, O, O] rfl rfl (one_of HT_.out (by kernel_rfl)) (by decide) (fun K hK => ?_)
  refine goes_ Try.func32 (by kernel_rfl) rfl #[.int .i64 3] (by rfl) rfl rfl (by (try simp only [List.map_toArray, List.map_cons, List.map_nil]); first | done | rfl | (simp only [List.length_drop, List.length_take]; rfl)) ?_
  with_reducible refine (wide_Of.calls 3 t944 t945 _ A18.out).mono ?_
  rintro e w49 ⟨rfl, hb⟩
  refine ⟨_, rfl, ?_⟩
  replace BK921 := kb BK921 hb
  replace BK931 := kb BK931 hb
  replace BK935 := kb BK935 hb
  replace HB := kB HB hb
  (try clear hb); (try clear hb2); (try clear hk); (try clear hi)
  refine hK.out _ _ ⟨kc BK921 0, kc BK921 1, kc BK921 2, kc BK921 3, kc BK935 0, kc BK935 1⟩ (fun hHeld => ?_)
  clear hK K
  refine norm_ (a' := ?_) ?_ ?_; rotate_left; focus (show Act.put _ (some 48) _ = _; simp only [Act.put, s1, s2, s3, i64_w, i32_w]; rfl)
  refine pure_ (i := 25) (N := some 49) (v := ?_) (a' := ?_) #[T, T, T, T, T, T, T, T, T, T, T, T, T, T, T, T, T, T, T, T, T, T, T, T, T, T, O, O, O, O, O, O, O, O, O, O, O, O, O, O, O, O] rfl rfl (any_of HT_.out (by kernel_rfl)) (fun _ _ _ h => h) (Or.inl ⟨by rfl, ?_⟩) ?_ ?_; rotate_left; focus (intro w'; go_simp; with_reducible rfl)
  rotate_left; focus (simp only [Act.put, s1, s2, s3, i64_w, i32_w]; rfl)
  refine pure_ (i := 26) (N := some 50) (v := ?_) (a' := ?_) #[T, T, T, T, T, T, T, T, T, T, T, T, T, T, T, T, T, T, T, T, T, T, T, T, T, T, T, O, O, O, O, O, O, O, O, O, O, O, O, O, O, O] rfl rfl (any_of HT_.out (by kernel_rfl)) (fun _ _ _ h => h) (Or.inl ⟨by rfl, ?_⟩) ?_ ?_; rotate_left; focus (intro w'; go_simp; with_reducible rfl)
  rotate_left; focus (simp only [Act.put, s1, s2, s3, i64_w, i32_w]; rfl)
  refine pure_ (i := 27) (N := some 51) (v := ?_) (a' := ?_) #[T, T, T, T, T, T, T, T, T, T, T, T, T, T, T, T, T, T, T, T, T, T, T, T, T, T, T, T, O, O, O, O, O, O, O, O, O, O, O, O, O, O] rfl rfl (any_of HT_.out (by kernel_rfl)) (fun _ _ _ h => h) (Or.inl ⟨by rfl, ?_⟩) ?_ ?_; rotate_left; focus (intro w'; go_simp; with_reducible rfl)
  rotate_left; focus (simp only [Act.put, s1, s2, s3, i64_w, i32_w]; rfl)
  refine pure_ (i := 28) (N := some 52) (v := ?_) (a' := ?_) #[T, T, T, T, T, T, T, T, T, T, T, T, T, T, T, T, T, T, T, T, T, T, T, T, T, T, T, T, T, O, O, O, O, O, O, O, O, O, O, O, O, O] rfl rfl (any_of HT_.out (by kernel_rfl)) (fun _ _ _ h => h) (Or.inl ⟨by rfl, ?_⟩) ?_ ?_; rotate_left; focus (intro w'; go_simp; with_reducible rfl)
  rotate_left; focus (simp only [Act.put, s1, s2, s3, i64_w, i32_w]; rfl)
  refine pure_ (i := 29) (N := some 53) (v := ?_) (a' := ?_) #[T, T, T, T, T, T, T, T, T, T, T, T, T, T, T, T, T, T, T, T, T, T, T, T, T, T, T, T, T, T, O, O, O, O, O, O, O, O, O, O, O, O] rfl rfl (any_of HT_.out (by kernel_rfl)) (fun _ _ _ h => h) (Or.inl ⟨by rfl, ?_⟩) ?_ ?_; rotate_left; focus (intro w'; go_simp; with_reducible rfl)
  rotate_left; focus (simp only [Act.put, s1, s2, s3, i64_w, i32_w]; rfl)
  refine pure_ (i := 30) (N := some 54) (v := ?_) (a' := ?_) #[T, T, T, T, T, T, T, T, T, T, T, T, T, T, T, T, T, T, T, T, T, T, T, T, T, T, T, T, T, T, T, O, O, O, O, O, O, O, O, O, O, O] rfl rfl (any_of HT_.out (by kernel_rfl)) (fun _ _ _ h => h) (Or.inl ⟨by rfl, ?_⟩) ?_ ?_; rotate_left; focus (intro w'; go_simp; with_reducible rfl)
  rotate_left; focus (simp only [Act.put, s1, s2, s3, i64_w, i32_w]; rfl)
  refine take_ (i := 31) (N := some 55) (v := ?_) (a' := ?_) #[T, T, T, T, T, T, T, T, T, T, T, T, T, T, T, T, T, T, T, T, T, T, T, T, T, T, T, T, T, T, T, T, O, O, O, O, O, O, O, O, O, O] rfl rfl (take_ofW HT_.out HW_.out (by kernel_rfl)) (fun _ _ _ h => h) (Or.inl ⟨by rfl, ?_⟩) hHeld ?_ ?_; rotate_left; focus (rintro w' ⟨s0, s1, s2, s3, s4, s5⟩; go_simp; with_reducible rfl)
  rotate_left; focus (simp only [Act.put, s1, s2, s3, i64_w, i32_w]; rfl)
  refine one_ (i := 32) (N := some 56) #[T, T, T, T, T, T, T, T, T, T, T, T, T, T, T, T, T, T, T, T, T, T, T, T, T, T, T, T, T, T, T, T, T, O, O, O, O, O, O, O, O, O] rfl rfl (one_of HT_.out (by kernel_rfl)) (by decide) (fun K hK => ?_)
  refine goes_ Try.func32 (by kernel_rfl) rfl #[.int .i64 2] (by rfl) rfl rfl (by (try simp only [List.map_toArray, List.map_cons, List.map_nil]); first | done | rfl | (simp only [List.length_drop, List.length_take]; rfl)) ?_
  with_reducible refine (wide_Of.calls 2 t946 t947 _ A21.out).mono ?_
  rintro e w50 ⟨rfl, hb⟩
  refine ⟨_, rfl, ?_⟩
  replace BK921 := kb BK921 hb
  replace BK931 := kb BK931 hb
  replace BK935 := kb BK935 hb
  replace HB := kB HB hb
  (try clear hb); (try clear hb2); (try clear hk); (try clear hi)
  refine hK.out _ _ ⟨kc BK921 0, kc BK921 1, kc BK921 2, kc BK921 3, kc BK935 0, kc BK935 1⟩ (fun hHeld => ?_)
  clear hK K
  refine norm_ (a' := ?_) ?_ ?_; rotate_left; focus (show Act.put _ (some 56) _ = _; simp only [Act.put, s1, s2, s3, i64_w, i32_w]; rfl)
  refine pure_ (i := 33) (N := some 57) (v := ?_) (a' := ?_) #[T, T, T, T, T, T, T, T, T, T, T, T, T, T, T, T, T, T, T, T, T, T, T, T, T, T, T, T, T, T, T, T, T, T, O, O, O, O, O, O, O, O] rfl rfl (any_of HT_.out (by kernel_rfl)) (fun _ _ _ h => h) (Or.inl ⟨by rfl, ?_⟩) ?_ ?_; rotate_left; focus (intro w'; go_simp; with_reducible rfl)
  rotate_left; focus (simp only [Act.put, s1, s2, s3, i64_w, i32_w]; rfl)
  refine pure_ (i := 34) (N := some 58) (v := ?_) (a' := ?_) #[T, T, T, T, T, T, T, T, T, T, T, T, T, T, T, T, T, T, T, T, T, T, T, T, T, T, T, T, T, T, T, T, T, T, T, O, O, O, O, O, O, O] rfl rfl (any_of HT_.out (by kernel_rfl)) (fun _ _ _ h => h) (Or.inl ⟨by rfl, ?_⟩) ?_ ?_; rotate_left; focus (intro w'; go_simp; with_reducible rfl)
  rotate_left; focus (simp only [Act.put, s1, s2, s3, i64_w, i32_w]; rfl)
  refine pure_ (i := 35) (N := some 59) (v := ?_) (a' := ?_) #[T, T, T, T, T, T, T, T, T, T, T, T, T, T, T, T, T, T, T, T, T, T, T, T, T, T, T, T, T, T, T, T, T, T, T, T, O, O, O, O, O, O] rfl rfl (any_of HT_.out (by kernel_rfl)) (fun _ _ _ h => h) (Or.inl ⟨by rfl, ?_⟩) ?_ ?_; rotate_left; focus (intro w'; go_simp; with_reducible rfl)
  rotate_left; focus (simp only [Act.put, s1, s2, s3, i64_w, i32_w]; rfl)
  refine take_ (i := 36) (N := some 60) (v := ?_) (a' := ?_) #[T, T, T, T, T, T, T, T, T, T, T, T, T, T, T, T, T, T, T, T, T, T, T, T, T, T, T, T, T, T, T, T, T, T, T, T, T, O, O, O, O, O] rfl rfl (take_ofW HT_.out HW_.out (by kernel_rfl)) (fun _ _ _ h => h) (Or.inl ⟨by rfl, ?_⟩) hHeld ?_ ?_; rotate_left; focus (rintro w' ⟨s0, s1, s2, s3, s4, s5⟩; go_simp; with_reducible rfl)
  rotate_left; focus (simp only [Act.put, s1, s2, s3, i64_w, i32_w]; rfl)
  refine one_ (i := 37) (N := some 61) #[T, T, T, T, T, T, T, T, T, T, T, T, T, T, T, T, T, T, T, T, T, T, T, T, T, T, T, T, T, T, T, T, T, T, T, T, T, T, O, O, O, O] rfl rfl (one_of HT_.out (by kernel_rfl)) (by decide) (fun K hK => ?_)
  refine goes_ Try.func50 (by kernel_rfl) rfl #[.int .i64 4] (by rfl) rfl rfl (by (try simp only [List.map_toArray, List.map_cons, List.map_nil]); first | done | rfl | (simp only [List.length_drop, List.length_take]; rfl)) ?_
  with_reducible refine (frac_Of.calls 4 t948 t949 t950 t951 _ A23.out).mono ?_
  rintro e w51 ⟨rfl, hb⟩
  refine ⟨_, rfl, ?_⟩
  replace BK921 := kb BK921 hb
  replace BK931 := kb BK931 hb
  replace BK935 := kb BK935 hb
  replace HB := kB HB hb
  (try clear hb); (try clear hb2); (try clear hk); (try clear hi)
  refine hK.out _ _ ⟨kc BK921 0, kc BK921 1, kc BK921 2, kc BK921 3, kc BK935 0, kc BK935 1⟩ (fun hHeld => ?_)
  clear hK K
  refine norm_ (a' := ?_) ?_ ?_; rotate_left; focus (show Act.put _ (some 61) _ = _; simp only [Act.put, s1, s2, s3, i64_w, i32_w]; rfl)
  refine one_ (i := 38) (N := some 62) #[T, T, T, T, T, T, T, T, T, T, T, T, T, T, T, T, T, T, T, T, T, T, T, T, T, T, T, T, T, T, T, T, T, T, T, T, T, T, T, O, O, O] rfl rfl (one_of HT_.out (by kernel_rfl)) (by decide) (fun K hK => ?_)
  refine goes_ Try.func41 (by kernel_rfl) rfl #[.agg #[.int .i64 t916, .int .u64 t917, .int .i64 t918, .int .u64 t919], .agg #[.int .i64 t948, .int .u64 t949, .int .i64 t950, .int .u64 t951]] (by rfl) rfl rfl (by (try simp only [List.map_toArray, List.map_cons, List.map_nil]); first | done | rfl | (simp only [List.length_drop, List.length_take]; rfl)) ?_
  with_reducible refine (frac_Cmp.calls k t916 t917 t918 t919 t948 t949 t950 t951 t952 _ A24.out).mono ?_
  rintro e w52 ⟨rfl, hb⟩
  refine ⟨_, rfl, ?_⟩
  replace BK921 := kb BK921 hb
  replace BK931 := kb BK931 hb
  replace BK935 := kb BK935 hb
  replace HB := kB HB hb
  (try clear hb); (try clear hb2); (try clear hk); (try clear hi)
  refine hK.out _ _ ⟨kc BK921 0, kc BK921 1, kc BK921 2, kc BK921 3, kc BK935 0, kc BK935 1⟩ (fun hHeld => ?_)
  clear hK K
  refine norm_ (a' := ?_) ?_ ?_; rotate_left; focus (show Act.put _ (some 62) _ = _; simp only [Act.put, s1, s2, s3, i64_w, i32_w]; rfl)
  refine pure_ (i := 39) (N := some 63) (v := ?_) (a' := ?_) #[T, T, T, T, T, T, T, T, T, T, T, T, T, T, T, T, T, T, T, T, T, T, T, T, T, T, T, T, T, T, T, T, T, T, T, T, T, T, T, T, O, O] rfl rfl (any_of HT_.out (by kernel_rfl)) (fun _ _ _ h => h) (Or.inl ⟨by rfl, ?_⟩) ?_ ?_; rotate_left; focus (intro w'; go_simp; with_reducible rfl)
  rotate_left; focus (simp only [Act.put, s1, s2, s3, i64_w, i32_w]; rfl)
  refine pure_ (i := 40) (N := some 64) (v := ?_) (a' := ?_) #[T, T, T, T, T, T, T, T, T, T, T, T, T, T, T, T, T, T, T, T, T, T, T, T, T, T, T, T, T, T, T, T, T, T, T, T, T, T, T, T, T, O] rfl rfl (any_of HT_.out (by kernel_rfl)) (fun _ _ _ h => h) (Or.inl ⟨by rfl, ?_⟩) ?_ ?_; rotate_left; focus (intro w'; go_simp; with_reducible rfl)
  rotate_left; focus (simp only [Act.put, s1, s2, s3, i64_w, i32_w]; rfl)
  refine pure_ (i := 41) (N := some 0) (v := ?_) (a' := ?_) #[T, T, T, T, T, T, T, T, T, T, T, T, T, T, T, T, T, T, T, T, T, T, T, T, T, T, T, T, T, T, T, T, T, T, T, T, T, T, T, T, T, T] rfl rfl (any_of HT_.out (by kernel_rfl)) (fun _ _ _ h => h) (Or.inl ⟨by rfl, ?_⟩) ?_ ?_; rotate_left; focus (intro w'; go_simp; with_reducible rfl)
  rotate_left; focus (simp only [Act.put, s1, s2, s3, i64_w, i32_w]; rfl)
  refine done_ (done_of HT_.out (by kernel_rfl)) ?_
  try go_wp2
  go_ret
  exact ⟨by first | rfl | (simp [errW_none, errW_some] <;> rfl) | (simp [*, errW_none, errW_some] <;> rfl), ky HB⟩
end Go.Proofs.Ytpjbniihdndlmaa.Q
