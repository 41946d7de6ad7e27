-- Printed by wip/pp.sh (a session's own turning of the kit's print) for this seat.
import Derived.Test.YtpjbniihdndlmaaQx0
import Derived.Test.YtpjbniihdndlmaaQx1
import Derived.Test.YtpjbniihdndlmaaQx7
import Derived.Test.YtpjbniihdndlmaaQx8
import Derived.Test.YtpjbniihdndlmaaQx9
import Derived.Test.YtpjbniihdndlmaaQx13
namespace Go.Proofs.Ytpjbniihdndlmaa.Q
open Go.RowKit Go.Proofs.YtpjbniihdndlmaaW.PrintWords Go.Proofs.YtpjbniihdndlmaaW.PrintLast Go.Proofs.YtpjbniihdndlmaaW.PrintMore
open Go.Proofs.Ytpjbniihdndlmaa.H
attribute [local go_sem] hq_add64 hq_sub64 hq_not64 add64c_nn sub64c_nn sub64c_le
attribute [local go_sem] max2_int min2_int max_two min_two max_three min_three max_four min_four   -- for this text's walks alone
set_option linter.unusedVariables false
set_option linter.unusedSimpArgs false

attribute [local go_sem high] eqA24
/-! ### cobweblaw01_WideScales: function 11 -/
def cobweblaw01_WideScales.f (k : Nat) (a0_0 : Int) (a0_1 : Int) (a1_0 : Int) (a1_1 : Int) (a2 : Int) : Option (Bool) := (wide_Of.f 1).bind fun bt981 => ((wide_Shl.f k bt981.1 bt981.2 (Int.tmod (wrap64 (a2)) 127)).bind fun bt983 => ((wide_Shl.f k a0_0 a0_1 (Int.tmod (wrap64 (a2)) 127)).bind fun bt987 => ((wide_Mul.f k a0_0 a0_1 bt983.1 bt983.2.1).bind fun bt991 => ((wide_Mul.f k a0_0 a0_1 a1_0 a1_1).bind fun bt995 => ((wide_Mul.f k a1_0 a1_1 a0_0 a0_1).bind fun bt999 => ((cobweblaw01_alive.f k).bind fun t1003 => (if t1003 = true then (if (bt987.2.2 == bt991.2.2) = true then (if (bt987.1 == bt991.1 && (bt987.2.1 == bt991.2.1)) = true then (if (bt995.2.2 == bt999.2.2) = true then (if (bt995.1 == bt999.1 && (bt995.2.1 == bt999.2.1)) = true then (if bt995.2.2 = true then ((wide_Sign.f bt995.1 bt995.2.1).bind fun t1004 => ((wide_Sign.f a0_0 a0_1).bind fun t1005 => ((wide_Sign.f a1_0 a1_1).bind fun t1006 => (some (t1004 == (wrap64 (t1005 * t1006))))))) else (some true)) else (none)) else (none)) else (none)) else (none)) else (none))))))))
theorem cobweblaw01_WideScales.mono : ∀ a0 a1 a2 a3 a4 k, LeO (cobweblaw01_WideScales.f k a0 a1 a2 a3 a4) (cobweblaw01_WideScales.f (k + 1) a0 a1 a2 a3 a4) := by
  intro a0 a1 a2 a3 a4 k
  unfold cobweblaw01_WideScales.f
  repeat' first
      | (with_reducible exact cobweblaw01_alive.mono _)
      | (with_reducible exact wide_Mul.mono _ _ _ _ _)
      | (with_reducible exact wide_Shl.mono _ _ _ _)
      | (with_reducible exact LeO.refl _)
      | (with_reducible exact LeO.none _)
      | (with_reducible refine LeO.ite ?_ ?_)
      | (with_reducible refine LeO.bind ?_ (fun _ => ?_))
      | exact cobweblaw01_alive.mono _
      | exact wide_Mul.mono _ _ _ _ _
      | exact wide_Shl.mono _ _ _ _
      | exact LeO.none _
      | refine LeO.ite ?_ ?_
      | refine LeO.bind ?_ (fun _ => ?_)
def cobweblaw01_WideScales.T7 : Bool × List (List Nat × List Nat) := (true, [([], []), ([0, 0], [0]), ([1], [1]), ([1], [1]), ([2, 3, 1], [1, 2, 3]), ([1, 4], [1, 4]), ([5, 1], [5]), ([6], [6]), ([6], [6]), ([7, 8, 6], [6, 7, 8]), ([6, 9], [6, 9]), ([10, 6], [10]), ([11], [11]), ([11], [11]), ([12, 13, 11], [11, 12, 13]), ([11, 14], [11, 14]), ([15, 11], [15]), ([16], [16]), ([16], [16]), ([17, 18, 16], [16, 17, 18]), ([16, 19], [16, 19]), ([20, 16], [20]), ([21], [21]), ([22, 21], [21, 22]), ([23, 21, 21], [21, 23]), ([24], [24]), ([25, 24, 24], [24, 25]), ([24], [24]), ([27, 26, 24], [24, 27]), ([24], [24]), ([29, 28, 24], [24, 29]), ([28, 30, 24], [24, 28, 30]), ([26, 31, 24], [24, 26, 31]), ([24, 32, 21], [21, 24, 32]), ([21, 33], [21, 33]), ([34, 30, 0, 1, 2, 3, 4, 5, 6, 7, 8, 9, 10, 11, 12, 13, 14, 15, 16, 17, 18, 19, 20, 21, 22, 23, 24, 25, 26, 27, 28, 29, 30, 31, 32, 33, 34], [34])])
def cobweblaw01_WideScales.B7 : List Nat := [0, 1, 3, 3, 15, 31, 63, 127, 127, 511, 1023, 2047, 4095, 4095, 16383, 32767, 65535, 131071, 131071, 524287, 1048575, 2097151, 4194303, 8388607, 16777215, 33554431, 67108863, 33554431, 268435455, 33554431, 1073741823, 2147483647, 4294967295, 8589934591, 17179869183, 34359738367]
theorem cobweblaw01_WideScales.tab7 : rtab .any (opsOf Try.f11 7) = cobweblaw01_WideScales.T7 := by kernel_rfl
theorem cobweblaw01_WideScales.bits7 : waitsOk cobweblaw01_WideScales.T7.2 cobweblaw01_WideScales.B7 = true := by kernel_rfl
set_option maxHeartbeats 8000000 in
set_option maxRecDepth 100000 in
theorem cobweblaw01_WideScales.calls (k : Nat) (a0_0 : Int) (a0_1 : Int) (a1_0 : Int) (a1_1 : Int) (a2 : Int) (r : Bool) (w : World) (h : cobweblaw01_WideScales.f k a0_0 a0_1 a1_0 a1_1 a2 = some r) :
    Calls Try.prog 11 #[.agg #[.int .i64 a0_0, .int .u64 a0_1], .agg #[.int .i64 a1_0, .int .u64 a1_1], .int .u8 a2] w fun e w' => e = .returned (.bool r) ∧ Below w.heap.size w w' := by
  have hu24 := Try.underlying24
  have HB := Aside0.mk (Below.refl w.heap.size w)
  have H : ((wide_Of.f 1).bind fun bt981 => ((wide_Shl.f k bt981.1 bt981.2 (Int.tmod (wrap64 (a2)) 127)).bind fun bt983 => ((wide_Shl.f k a0_0 a0_1 (Int.tmod (wrap64 (a2)) 127)).bind fun bt987 => ((wide_Mul.f k a0_0 a0_1 bt983.1 bt983.2.1).bind fun bt991 => ((wide_Mul.f k a0_0 a0_1 a1_0 a1_1).bind fun bt995 => ((wide_Mul.f k a1_0 a1_1 a0_0 a0_1).bind fun bt999 => ((cobweblaw01_alive.f k).bind fun t1003 => (if t1003 = true then (if (bt987.2.2 == bt991.2.2) = true then (if (bt987.1 == bt991.1 && (bt987.2.1 == bt991.2.1)) = true then (if (bt995.2.2 == bt999.2.2) = true then (if (bt995.1 == bt999.1 && (bt995.2.1 == bt999.2.1)) = true then (if bt995.2.2 = true then ((wide_Sign.f bt995.1 bt995.2.1).bind fun t1004 => ((wide_Sign.f a0_0 a0_1).bind fun t1005 => ((wide_Sign.f a1_0 a1_1).bind fun t1006 => (some (t1004 == (wrap64 (t1005 * t1006))))))) else (some true)) else (none)) else (none)) else (none)) else (none)) else (none))))))))) = some r := h
  clear h
  replace H := Option.bind_eq_some_iff.mp H
  obtain ⟨⟨t981, t982⟩, A40, H⟩ := H
  replace H : ((wide_Shl.f k t981 t982 (Int.tmod (wrap64 (a2)) 127)).bind fun bt983 => ((wide_Shl.f k a0_0 a0_1 (Int.tmod (wrap64 (a2)) 127)).bind fun bt987 => ((wide_Mul.f k a0_0 a0_1 bt983.1 bt983.2.1).bind fun bt991 => ((wide_Mul.f k a0_0 a0_1 a1_0 a1_1).bind fun bt995 => ((wide_Mul.f k a1_0 a1_1 a0_0 a0_1).bind fun bt999 => ((cobweblaw01_alive.f k).bind fun t1003 => (if t1003 = true then (if (bt987.2.2 == bt991.2.2) = true then (if (bt987.1 == bt991.1 && (bt987.2.1 == bt991.2.1)) = true then (if (bt995.2.2 == bt999.2.2) = true then (if (bt995.1 == bt999.1 && (bt995.2.1 == bt999.2.1)) = true then (if bt995.2.2 = true then ((wide_Sign.f bt995.1 bt995.2.1).bind fun t1004 => ((wide_Sign.f a0_0 a0_1).bind fun t1005 => ((wide_Sign.f a1_0 a1_1).bind fun t1006 => (some (t1004 == (wrap64 (t1005 * t1006))))))) else (some true)) else (none)) else (none)) else (none)) else (none)) else (none)))))))) = some r := H
  have A4 := Aside0.mk A40
  clear A40
  replace H := Option.bind_eq_some_iff.mp H
  obtain ⟨⟨t983, t984, t985⟩, A50, H⟩ := H
  replace H : ((wide_Shl.f k a0_0 a0_1 (Int.tmod (wrap64 (a2)) 127)).bind fun bt987 => ((wide_Mul.f k a0_0 a0_1 t983 t984).bind fun bt991 => ((wide_Mul.f k a0_0 a0_1 a1_0 a1_1).bind fun bt995 => ((wide_Mul.f k a1_0 a1_1 a0_0 a0_1).bind fun bt999 => ((cobweblaw01_alive.f k).bind fun t1003 => (if t1003 = true then (if (bt987.2.2 == bt991.2.2) = true then (if (bt987.1 == bt991.1 && (bt987.2.1 == bt991.2.1)) = true then (if (bt995.2.2 == bt999.2.2) = true then (if (bt995.1 == bt999.1 && (bt995.2.1 == bt999.2.1)) = true then (if bt995.2.2 = true then ((wide_Sign.f bt995.1 bt995.2.1).bind fun t1004 => ((wide_Sign.f a0_0 a0_1).bind fun t1005 => ((wide_Sign.f a1_0 a1_1).bind fun t1006 => (some (t1004 == (wrap64 (t1005 * t1006))))))) else (some true)) else (none)) else (none)) else (none)) else (none)) else (none))))))) = some r := H
  have A5 := Aside0.mk A50
  clear A50
  replace H := Option.bind_eq_some_iff.mp H
  obtain ⟨⟨t987, t988, t989⟩, A60, H⟩ := H
  replace H : ((wide_Mul.f k a0_0 a0_1 t983 t984).bind fun bt991 => ((wide_Mul.f k a0_0 a0_1 a1_0 a1_1).bind fun bt995 => ((wide_Mul.f k a1_0 a1_1 a0_0 a0_1).bind fun bt999 => ((cobweblaw01_alive.f k).bind fun t1003 => (if t1003 = true then (if (t989 == bt991.2.2) = true then (if (t987 == bt991.1 && (t988 == bt991.2.1)) = true then (if (bt995.2.2 == bt999.2.2) = true then (if (bt995.1 == bt999.1 && (bt995.2.1 == bt999.2.1)) = true then (if bt995.2.2 = true then ((wide_Sign.f bt995.1 bt995.2.1).bind fun t1004 => ((wide_Sign.f a0_0 a0_1).bind fun t1005 => ((wide_Sign.f a1_0 a1_1).bind fun t1006 => (some (t1004 == (wrap64 (t1005 * t1006))))))) else (some true)) else (none)) else (none)) else (none)) else (none)) else (none)))))) = some r := H
  have A6 := Aside0.mk A60
  clear A60
  replace H := Option.bind_eq_some_iff.mp H
  obtain ⟨⟨t991, t992, t993⟩, A70, H⟩ := H
  replace H : ((wide_Mul.f k a0_0 a0_1 a1_0 a1_1).bind fun bt995 => ((wide_Mul.f k a1_0 a1_1 a0_0 a0_1).bind fun bt999 => ((cobweblaw01_alive.f k).bind fun t1003 => (if t1003 = true then (if (t989 == t993) = true then (if (t987 == t991 && (t988 == t992)) = true then (if (bt995.2.2 == bt999.2.2) = true then (if (bt995.1 == bt999.1 && (bt995.2.1 == bt999.2.1)) = true then (if bt995.2.2 = true then ((wide_Sign.f bt995.1 bt995.2.1).bind fun t1004 => ((wide_Sign.f a0_0 a0_1).bind fun t1005 => ((wide_Sign.f a1_0 a1_1).bind fun t1006 => (some (t1004 == (wrap64 (t1005 * t1006))))))) else (some true)) else (none)) else (none)) else (none)) else (none)) else (none))))) = some r := H
  have A7 := Aside0.mk A70
  clear A70
  replace H := Option.bind_eq_some_iff.mp H
  obtain ⟨⟨t995, t996, t997⟩, A80, H⟩ := H
  replace H : ((wide_Mul.f k a1_0 a1_1 a0_0 a0_1).bind fun bt999 => ((cobweblaw01_alive.f k).bind fun t1003 => (if t1003 = true then (if (t989 == t993) = true then (if (t987 == t991 && (t988 == t992)) = true then (if (t997 == bt999.2.2) = true then (if (t995 == bt999.1 && (t996 == bt999.2.1)) = true then (if t997 = true then ((wide_Sign.f t995 t996).bind fun t1004 => ((wide_Sign.f a0_0 a0_1).bind fun t1005 => ((wide_Sign.f a1_0 a1_1).bind fun t1006 => (some (t1004 == (wrap64 (t1005 * t1006))))))) else (some true)) else (none)) else (none)) else (none)) else (none)) else (none)))) = some r := H
  have A8 := Aside0.mk A80
  clear A80
  replace H := Option.bind_eq_some_iff.mp H
  obtain ⟨⟨t999, t1000, t1001⟩, A90, H⟩ := H
  replace H : ((cobweblaw01_alive.f k).bind fun t1003 => (if t1003 = true then (if (t989 == t993) = true then (if (t987 == t991 && (t988 == t992)) = true then (if (t997 == t1001) = true then (if (t995 == t999 && (t996 == t1000)) = true then (if t997 = true then ((wide_Sign.f t995 t996).bind fun t1004 => ((wide_Sign.f a0_0 a0_1).bind fun t1005 => ((wide_Sign.f a1_0 a1_1).bind fun t1006 => (some (t1004 == (wrap64 (t1005 * t1006))))))) else (some true)) else (none)) else (none)) else (none)) else (none)) else (none))) = some r := H
  have A9 := Aside0.mk A90
  clear A90
  replace H := Option.bind_eq_some_iff.mp H
  obtain ⟨t1003, A100, H⟩ := H
  replace H : (if t1003 = true then (if (t989 == t993) = true then (if (t987 == t991 && (t988 == t992)) = true then (if (t997 == t1001) = true then (if (t995 == t999 && (t996 == t1000)) = true then (if t997 = true then ((wide_Sign.f t995 t996).bind fun t1004 => ((wide_Sign.f a0_0 a0_1).bind fun t1005 => ((wide_Sign.f a1_0 a1_1).bind fun t1006 => (some (t1004 == (wrap64 (t1005 * t1006))))))) else (some true)) else (none)) else (none)) else (none)) else (none)) else (none)) = some r := H
  have A10 := Aside0.mk A100
  clear A100
  by_cases c11 : t1003 = true
  rotate_left
  · replace c11 := Bool.eq_false_iff.mpr c11
    subst c11
    have H1 : (none) = some r := by rw [if_neg (show ¬ (false = true) by decide)] at H; exact H
    clear H; have H := H1; clear H1
    exact absurd H (by simp)

  subst c11
  have H1 : (if (t989 == t993) = true then (if (t987 == t991 && (t988 == t992)) = true then (if (t997 == t1001) = true then (if (t995 == t999 && (t996 == t1000)) = true then (if t997 = true then ((wide_Sign.f t995 t996).bind fun t1004 => ((wide_Sign.f a0_0 a0_1).bind fun t1005 => ((wide_Sign.f a1_0 a1_1).bind fun t1006 => (some (t1004 == (wrap64 (t1005 * t1006))))))) else (some true)) else (none)) else (none)) else (none)) else (none)) = some r := by rw [if_pos rfl] at H; exact H
  clear H; have H := H1; clear H1
  by_cases c12 : (t989 == t993) = true
  rotate_left
  · rw [if_neg c12] at H
    exact absurd H (by simp)
  rw [if_pos c12] at H
  have c12b0 : (t989 == t993) = true := c12
  (try (have c12b1 : decide (t989 = t993) = true := by simpa using c12))
  (try (have c12b2 : (t989 == t993) = true := by simpa using c12))
  clear c12
  by_cases c13 : (t987 == t991 && (t988 == t992)) = true
  rotate_left
  · rw [if_neg c13] at H
    exact absurd H (by simp)
  rw [if_pos c13] at H
  have c13b0 : (t987 == t991 && (t988 == t992)) = true := c13
  (try (have c13b1 : decide (t987 = t991 && (t988 == t992)) = true := by simpa using c13))
  (try (have c13b2 : (t987 == t991 && (t988 == t992)) = true := by simpa using c13))
  clear c13
  by_cases c14 : (t997 == t1001) = true
  rotate_left
  · rw [if_neg c14] at H
    exact absurd H (by simp)
  rw [if_pos c14] at H
  have c14b0 : (t997 == t1001) = true := c14
  (try (have c14b1 : decide (t997 = t1001) = true := by simpa using c14))
  (try (have c14b2 : (t997 == t1001) = true := by simpa using c14))
  clear c14
  by_cases c15 : (t995 == t999 && (t996 == t1000)) = true
  rotate_left
  · rw [if_neg c15] at H
    exact absurd H (by simp)
  rw [if_pos c15] at H
  have c15b0 : (t995 == t999 && (t996 == t1000)) = true := c15
  (try (have c15b1 : decide (t995 = t999 && (t996 == t1000)) = true := by simpa using c15))
  (try (have c15b2 : (t995 == t999 && (t996 == t1000)) = true := by simpa using c15))
  clear c15
  by_cases c16 : t997 = true
  rotate_left
  · replace c16 := Bool.eq_false_iff.mpr c16
    subst c16
    have H1 : (some true) = some r := by rw [if_neg (show ¬ (false = true) by decide)] at H; exact H
    clear H; have H := H1; clear H1
    obtain rfl := Option.some.inj H
    go_enter Try.func11, Try.ntmps11
    try go_wp2_with (first | ((with_reducible refine gate_dst (N := 3) rfl ?_); refine box_event ?hg (N := 3) ?hd (cs := #[.int .i64 a0_0, .int .u64 a0_1]) (t := 24) ?hr ?_; (case hd => rfl); (case hg => rfl); (case hr => first | (go_simp; done) | (go_simp; rfl)); intro gb979 hg w72 hbox hb; have BK979 := Aside0.mk (hbox); have GW979 := kS HB hg; have GE979 := kS HB hg; replace HB := kB HB hb; clear hb hbox hg) | ((with_reducible refine gate_dst (N := 4) rfl ?_); refine box_event ?hg (N := 4) ?hd (cs := #[.int .i64 a1_0, .int .u64 a1_1]) (t := 24) ?hr ?_; (case hd => rfl); (case hg => rfl); (case hr => first | (go_simp; done) | (go_simp; rfl)); intro gb980 hg w73 hbox hb; have BK980 := Aside0.mk (hbox); have GW980 := kS HB hg; have GE980 := kS HB hg; have NB979_980 := kN BK979 hg; have NB980_979 := kM BK979 hg; replace BK979 := kb BK979 hb; replace HB := kB HB hb; clear hb hbox hg) | ((with_reducible refine gate_callee (f := 32) rfl ?_); refine goesL_ (some 22) rfl rfl Try.func32 (by kernel_rfl) rfl #[.int .i64 1] rfl (by (try simp only [List.map_toArray, List.map_cons, List.map_nil]); first | done | rfl | (simp only [List.length_drop, List.length_take]; rfl)) ?_; (with_reducible refine (wide_Of.calls 1 t981 t982 _ A4.out).mono ?_); rintro e w74 ⟨rfl, hb⟩; refine ⟨_, rfl, ?_⟩; replace BK979 := kb BK979 hb; replace BK980 := kb BK980 hb; replace HB := kB HB hb; (try clear hb); (try clear hb2); (try clear hk); (try clear hi)) | ((with_reducible refine gate_callee (f := 22) rfl ?_); refine goesL_ (some 24) rfl rfl Try.func22 (by kernel_rfl) rfl #[.agg #[.int .i64 t981, .int .u64 t982], .int .i64 (Int.tmod (wrap64 (a2)) 127)] rfl (by (try simp only [List.map_toArray, List.map_cons, List.map_nil]); first | done | rfl | (simp only [List.length_drop, List.length_take]; rfl)) ?_; (with_reducible refine (wide_Shl.calls k t981 t982 (Int.tmod (wrap64 (a2)) 127) t983 t984 t985 _ A5.out).mono ?_); rintro e w75 ⟨rfl, hb⟩; refine ⟨_, rfl, ?_⟩; replace BK979 := kb BK979 hb; replace BK980 := kb BK980 hb; replace HB := kB HB hb; (try clear hb); (try clear hb2); (try clear hk); (try clear hi)) | ((with_reducible refine gate_dst (N := 8) rfl ?_); refine box_event ?hg (N := 8) ?hd (cs := #[.int .i64 0, .int .u64 0]) (t := 24) ?hr ?_; (case hd => rfl); (case hg => rfl); (case hr => first | (go_simp; done) | (go_simp; rfl)); intro gb986 hg w76 hbox hb; have BK986 := Aside0.mk (hbox); have GW986 := kS HB hg; have GE986 := kS HB hg; have NB979_986 := kN BK979 hg; have NB986_979 := kM BK979 hg; have NB980_986 := kN BK980 hg; have NB986_980 := kM BK980 hg; replace BK979 := kb BK979 hb; replace BK980 := kb BK980 hb; replace HB := kB HB hb; clear hb hbox hg; have hnb77 := NB986_979.out; have hnc77 := NB979_986.out; have hnb78 := NB986_980.out; have hnc78 := NB980_986.out; have hcz79_0 : w76.cell? ⟨gb986, 0, none⟩ = some (.int .i64 0) := kc BK986 0; have hcz79_1 : w76.cell? ⟨gb986, 1, none⟩ = some (.int .u64 0) := kc BK986 1; have hfz79_0 := blk_frozen BK986.out 0; have hfz79_1 := blk_frozen BK986.out 1; have hnb80 := NB979_980.out; have hnc80 := NB980_979.out; have hcz81_0 : w76.cell? ⟨gb979, 0, none⟩ = some (.int .i64 a0_0) := kc BK979 0; have hcz81_1 : w76.cell? ⟨gb979, 1, none⟩ = some (.int .u64 a0_1) := kc BK979 1; have hfz81_0 := blk_frozen BK979.out 0; have hfz81_1 := blk_frozen BK979.out 1) | ((with_reducible refine gate_callee (f := 22) rfl ?_); refine goesL_ (some 30) rfl rfl Try.func22 (by kernel_rfl) rfl #[.agg #[.int .i64 a0_0, .int .u64 a0_1], .int .i64 (Int.tmod (wrap64 (a2)) 127)] rfl (by (try simp only [List.map_toArray, List.map_cons, List.map_nil]); first | done | rfl | (simp only [List.length_drop, List.length_take]; rfl)) ?_; (with_reducible refine (wide_Shl.calls k a0_0 a0_1 (Int.tmod (wrap64 (a2)) 127) t987 t988 t989 _ A6.out).mono ?_); rintro e w82 ⟨rfl, hb⟩; refine ⟨_, rfl, ?_⟩; have n0_ := kb BK979 hb; have n1_ := kb BK980 hb; have n2_ := Aside0.mk (blk_below (g := gb986) (o := .cells #[.int .i64 t983, .int .u64 t984] 24 (0, 0)) (by (with_reducible repeat (first | refine blk_drewN ?_ _ | refine blk_drew ?_ | refine blk_alloc ?_ _)); refine blk_put (cs := #[.int .i64 t983, .int .u64 0]) ?_ 1 _ rfl; (with_reducible repeat (first | refine blk_drewN ?_ _ | refine blk_drew ?_ | refine blk_alloc ?_ _)); refine blk_put (cs := #[.int .i64 0, .int .u64 0]) ?_ 0 _ rfl; (with_reducible repeat (first | refine blk_drewN ?_ _ | refine blk_drew ?_ | refine blk_alloc ?_ _)); exact BK986.out) hb); have n3_ := kB HB hb; clear BK979; clear BK980; clear BK986; clear HB; have BK979 := n0_; have BK980 := n1_; have BK986 := n2_; have HB := n3_; clear n0_ n1_ n2_ n3_; (try clear hb); (try clear hb2); (try clear hk); (try clear hi)) | ((with_reducible refine gate_dst (N := 10) rfl ?_); refine box_event ?hg (N := 10) ?hd (cs := #[.int .i64 0, .int .u64 0]) (t := 24) ?hr ?_; (case hd => rfl); (case hg => rfl); (case hr => first | (go_simp; done) | (go_simp; rfl)); intro gb990 hg w83 hbox hb; have BK990 := Aside0.mk (hbox); have GW990 := kS HB hg; have GE990 := kS HB hg; have NB979_990 := kN BK979 hg; have NB990_979 := kM BK979 hg; have NB980_990 := kN BK980 hg; have NB990_980 := kM BK980 hg; have NB986_990 := kN BK986 hg; have NB990_986 := kM BK986 hg; replace BK979 := kb BK979 hb; replace BK980 := kb BK980 hb; replace BK986 := kb BK986 hb; replace HB := kB HB hb; clear hb hbox hg; have hnb84 := NB990_979.out; have hnc84 := NB979_990.out; have hnb85 := NB990_980.out; have hnc85 := NB980_990.out; have hnb86 := NB990_986.out; have hnc86 := NB986_990.out; have hcz87_0 : w83.cell? ⟨gb990, 0, none⟩ = some (.int .i64 0) := kc BK990 0; have hcz87_1 : w83.cell? ⟨gb990, 1, none⟩ = some (.int .u64 0) := kc BK990 1; have hfz87_0 := blk_frozen BK990.out 0; have hfz87_1 := blk_frozen BK990.out 1; have hcz88_0 : w83.cell? ⟨gb979, 0, none⟩ = some (.int .i64 a0_0) := kc BK979 0; have hcz88_1 : w83.cell? ⟨gb979, 1, none⟩ = some (.int .u64 a0_1) := kc BK979 1; have hfz88_0 := blk_frozen BK979.out 0; have hfz88_1 := blk_frozen BK979.out 1; have hcz89_0 : w83.cell? ⟨gb986, 0, none⟩ = some (.int .i64 t983) := kc BK986 0; have hcz89_1 : w83.cell? ⟨gb986, 1, none⟩ = some (.int .u64 t984) := kc BK986 1; have hfz89_0 := blk_frozen BK986.out 0; have hfz89_1 := blk_frozen BK986.out 1) | ((with_reducible refine gate_callee (f := 15) rfl ?_); refine goesL_ (some 36) rfl rfl Try.func15 (by kernel_rfl) rfl #[.agg #[.int .i64 a0_0, .int .u64 a0_1], .agg #[.int .i64 t983, .int .u64 t984]] rfl (by (try simp only [List.map_toArray, List.map_cons, List.map_nil]); first | done | rfl | (simp only [List.length_drop, List.length_take]; rfl)) ?_; (with_reducible refine (wide_Mul.calls k a0_0 a0_1 t983 t984 t991 t992 t993 _ A7.out).mono ?_); rintro e w90 ⟨rfl, hb⟩; refine ⟨_, rfl, ?_⟩; have n0_ := kb BK979 hb; have n1_ := kb BK980 hb; have n2_ := kb BK986 hb; have n3_ := Aside0.mk (blk_below (g := gb990) (o := .cells #[.int .i64 t987, .int .u64 t988] 24 (0, 0)) (by (with_reducible repeat (first | refine blk_drewN ?_ _ | refine blk_drew ?_ | refine blk_alloc ?_ _)); refine blk_put (cs := #[.int .i64 t987, .int .u64 0]) ?_ 1 _ rfl; (with_reducible repeat (first | refine blk_drewN ?_ _ | refine blk_drew ?_ | refine blk_alloc ?_ _)); refine blk_put (cs := #[.int .i64 0, .int .u64 0]) ?_ 0 _ rfl; (with_reducible repeat (first | refine blk_drewN ?_ _ | refine blk_drew ?_ | refine blk_alloc ?_ _)); exact BK990.out) hb); have n4_ := kB HB hb; clear BK979; clear BK980; clear BK986; clear BK990; clear HB; have BK979 := n0_; have BK980 := n1_; have BK986 := n2_; have BK990 := n3_; have HB := n4_; clear n0_ n1_ n2_ n3_ n4_; (try clear hb); (try clear hb2); (try clear hk); (try clear hi)) | ((with_reducible refine gate_dst (N := 12) rfl ?_); refine box_event ?hg (N := 12) ?hd (cs := #[.int .i64 0, .int .u64 0]) (t := 24) ?hr ?_; (case hd => rfl); (case hg => rfl); (case hr => first | (go_simp; done) | (go_simp; rfl)); intro gb994 hg w91 hbox hb; have BK994 := Aside0.mk (hbox); have GW994 := kS HB hg; have GE994 := kS HB hg; have NB979_994 := kN BK979 hg; have NB994_979 := kM BK979 hg; have NB980_994 := kN BK980 hg; have NB994_980 := kM BK980 hg; have NB986_994 := kN BK986 hg; have NB994_986 := kM BK986 hg; have NB990_994 := kN BK990 hg; have NB994_990 := kM BK990 hg; replace BK979 := kb BK979 hb; replace BK980 := kb BK980 hb; replace BK986 := kb BK986 hb; replace BK990 := kb BK990 hb; replace HB := kB HB hb; clear hb hbox hg; have hnb92 := NB994_979.out; have hnc92 := NB979_994.out; have hnb93 := NB994_980.out; have hnc93 := NB980_994.out; have hnb94 := NB994_986.out; have hnc94 := NB986_994.out; have hnb95 := NB994_990.out; have hnc95 := NB990_994.out; have hcz96_0 : w91.cell? ⟨gb994, 0, none⟩ = some (.int .i64 0) := kc BK994 0; have hcz96_1 : w91.cell? ⟨gb994, 1, none⟩ = some (.int .u64 0) := kc BK994 1; have hfz96_0 := blk_frozen BK994.out 0; have hfz96_1 := blk_frozen BK994.out 1; have hcz97_0 : w91.cell? ⟨gb979, 0, none⟩ = some (.int .i64 a0_0) := kc BK979 0; have hcz97_1 : w91.cell? ⟨gb979, 1, none⟩ = some (.int .u64 a0_1) := kc BK979 1; have hfz97_0 := blk_frozen BK979.out 0; have hfz97_1 := blk_frozen BK979.out 1; have hcz98_0 : w91.cell? ⟨gb980, 0, none⟩ = some (.int .i64 a1_0) := kc BK980 0; have hcz98_1 : w91.cell? ⟨gb980, 1, none⟩ = some (.int .u64 a1_1) := kc BK980 1; have hfz98_0 := blk_frozen BK980.out 0; have hfz98_1 := blk_frozen BK980.out 1) | ((with_reducible refine gate_callee (f := 15) rfl ?_); refine goesL_ (some 42) rfl rfl Try.func15 (by kernel_rfl) rfl #[.agg #[.int .i64 a0_0, .int .u64 a0_1], .agg #[.int .i64 a1_0, .int .u64 a1_1]] rfl (by (try simp only [List.map_toArray, List.map_cons, List.map_nil]); first | done | rfl | (simp only [List.length_drop, List.length_take]; rfl)) ?_; (with_reducible refine (wide_Mul.calls k a0_0 a0_1 a1_0 a1_1 t995 t996 false _ A8.out).mono ?_); rintro e w99 ⟨rfl, hb⟩; refine ⟨_, rfl, ?_⟩; have n0_ := kb BK979 hb; have n1_ := kb BK980 hb; have n2_ := kb BK986 hb; have n3_ := kb BK990 hb; have n4_ := Aside0.mk (blk_below (g := gb994) (o := .cells #[.int .i64 t991, .int .u64 t992] 24 (0, 0)) (by (with_reducible repeat (first | refine blk_drewN ?_ _ | refine blk_drew ?_ | refine blk_alloc ?_ _)); refine blk_put (cs := #[.int .i64 t991, .int .u64 0]) ?_ 1 _ rfl; (with_reducible repeat (first | refine blk_drewN ?_ _ | refine blk_drew ?_ | refine blk_alloc ?_ _)); refine blk_put (cs := #[.int .i64 0, .int .u64 0]) ?_ 0 _ rfl; (with_reducible repeat (first | refine blk_drewN ?_ _ | refine blk_drew ?_ | refine blk_alloc ?_ _)); exact BK994.out) hb); have n5_ := kB HB hb; clear BK979; clear BK980; clear BK986; clear BK990; clear BK994; clear HB; have BK979 := n0_; have BK980 := n1_; have BK986 := n2_; have BK990 := n3_; have BK994 := n4_; have HB := n5_; clear n0_ n1_ n2_ n3_ n4_ n5_; (try clear hb); (try clear hb2); (try clear hk); (try clear hi)) | ((with_reducible refine gate_dst (N := 14) rfl ?_); refine box_event ?hg (N := 14) ?hd (cs := #[.int .i64 0, .int .u64 0]) (t := 24) ?hr ?_; (case hd => rfl); (case hg => rfl); (case hr => first | (go_simp; done) | (go_simp; rfl)); intro gb998 hg w100 hbox hb; have BK998 := Aside0.mk (hbox); have GW998 := kS HB hg; have GE998 := kS HB hg; have NB979_998 := kN BK979 hg; have NB998_979 := kM BK979 hg; have NB980_998 := kN BK980 hg; have NB998_980 := kM BK980 hg; have NB986_998 := kN BK986 hg; have NB998_986 := kM BK986 hg; have NB990_998 := kN BK990 hg; have NB998_990 := kM BK990 hg; have NB994_998 := kN BK994 hg; have NB998_994 := kM BK994 hg; replace BK979 := kb BK979 hb; replace BK980 := kb BK980 hb; replace BK986 := kb BK986 hb; replace BK990 := kb BK990 hb; replace BK994 := kb BK994 hb; replace HB := kB HB hb; clear hb hbox hg; have hnb101 := NB998_979.out; have hnc101 := NB979_998.out; have hnb102 := NB998_980.out; have hnc102 := NB980_998.out; have hnb103 := NB998_986.out; have hnc103 := NB986_998.out; have hnb104 := NB998_990.out; have hnc104 := NB990_998.out; have hnb105 := NB998_994.out; have hnc105 := NB994_998.out; have hcz106_0 : w100.cell? ⟨gb998, 0, none⟩ = some (.int .i64 0) := kc BK998 0; have hcz106_1 : w100.cell? ⟨gb998, 1, none⟩ = some (.int .u64 0) := kc BK998 1; have hfz106_0 := blk_frozen BK998.out 0; have hfz106_1 := blk_frozen BK998.out 1; have hcz107_0 : w100.cell? ⟨gb980, 0, none⟩ = some (.int .i64 a1_0) := kc BK980 0; have hcz107_1 : w100.cell? ⟨gb980, 1, none⟩ = some (.int .u64 a1_1) := kc BK980 1; have hfz107_0 := blk_frozen BK980.out 0; have hfz107_1 := blk_frozen BK980.out 1; have hcz108_0 : w100.cell? ⟨gb979, 0, none⟩ = some (.int .i64 a0_0) := kc BK979 0; have hcz108_1 : w100.cell? ⟨gb979, 1, none⟩ = some (.int .u64 a0_1) := kc BK979 1; have hfz108_0 := blk_frozen BK979.out 0; have hfz108_1 := blk_frozen BK979.out 1) | ((with_reducible refine gate_callee (f := 15) rfl ?_); refine goesL_ (some 48) rfl rfl Try.func15 (by kernel_rfl) rfl #[.agg #[.int .i64 a1_0, .int .u64 a1_1], .agg #[.int .i64 a0_0, .int .u64 a0_1]] rfl (by (try simp only [List.map_toArray, List.map_cons, List.map_nil]); first | done | rfl | (simp only [List.length_drop, List.length_take]; rfl)) ?_; (with_reducible refine (wide_Mul.calls k a1_0 a1_1 a0_0 a0_1 t999 t1000 t1001 _ A9.out).mono ?_); rintro e w109 ⟨rfl, hb⟩; refine ⟨_, rfl, ?_⟩; have n0_ := kb BK979 hb; have n1_ := kb BK980 hb; have n2_ := kb BK986 hb; have n3_ := kb BK990 hb; have n4_ := kb BK994 hb; have n5_ := Aside0.mk (blk_below (g := gb998) (o := .cells #[.int .i64 t995, .int .u64 t996] 24 (0, 0)) (by (with_reducible repeat (first | refine blk_drewN ?_ _ | refine blk_drew ?_ | refine blk_alloc ?_ _)); refine blk_put (cs := #[.int .i64 t995, .int .u64 0]) ?_ 1 _ rfl; (with_reducible repeat (first | refine blk_drewN ?_ _ | refine blk_drew ?_ | refine blk_alloc ?_ _)); refine blk_put (cs := #[.int .i64 0, .int .u64 0]) ?_ 0 _ rfl; (with_reducible repeat (first | refine blk_drewN ?_ _ | refine blk_drew ?_ | refine blk_alloc ?_ _)); exact BK998.out) hb); have n6_ := kB HB hb; clear BK979; clear BK980; clear BK986; clear BK990; clear BK994; clear BK998; clear HB; have BK979 := n0_; have BK980 := n1_; have BK986 := n2_; have BK990 := n3_; have BK994 := n4_; have BK998 := n5_; have HB := n6_; clear n0_ n1_ n2_ n3_ n4_ n5_ n6_; (try clear hb); (try clear hb2); (try clear hk); (try clear hi)) | ((with_reducible refine gate_dst (N := 16) rfl ?_); refine box_event ?hg (N := 16) ?hd (cs := #[.int .i64 0, .int .u64 0]) (t := 24) ?hr ?_; (case hd => rfl); (case hg => rfl); (case hr => first | (go_simp; done) | (go_simp; rfl)); intro gb1002 hg w110 hbox hb; have BK1002 := Aside0.mk (hbox); have GW1002 := kS HB hg; have GE1002 := kS HB hg; have NB979_1002 := kN BK979 hg; have NB1002_979 := kM BK979 hg; have NB980_1002 := kN BK980 hg; have NB1002_980 := kM BK980 hg; have NB986_1002 := kN BK986 hg; have NB1002_986 := kM BK986 hg; have NB990_1002 := kN BK990 hg; have NB1002_990 := kM BK990 hg; have NB994_1002 := kN BK994 hg; have NB1002_994 := kM BK994 hg; have NB998_1002 := kN BK998 hg; have NB1002_998 := kM BK998 hg; replace BK979 := kb BK979 hb; replace BK980 := kb BK980 hb; replace BK986 := kb BK986 hb; replace BK990 := kb BK990 hb; replace BK994 := kb BK994 hb; replace BK998 := kb BK998 hb; replace HB := kB HB hb; clear hb hbox hg; have hnb111 := NB1002_979.out; have hnc111 := NB979_1002.out; have hnb112 := NB1002_980.out; have hnc112 := NB980_1002.out; have hnb113 := NB1002_986.out; have hnc113 := NB986_1002.out; have hnb114 := NB1002_990.out; have hnc114 := NB990_1002.out; have hnb115 := NB1002_994.out; have hnc115 := NB994_1002.out; have hnb116 := NB1002_998.out; have hnc116 := NB998_1002.out; have hcz117_0 : w110.cell? ⟨gb1002, 0, none⟩ = some (.int .i64 0) := kc BK1002 0; have hcz117_1 : w110.cell? ⟨gb1002, 1, none⟩ = some (.int .u64 0) := kc BK1002 1; have hfz117_0 := blk_frozen BK1002.out 0; have hfz117_1 := blk_frozen BK1002.out 1))
    have n0_ : Aside0 (((w110.setCell ⟨gb1002, 0, none⟩ (.int .i64 t999)).setCell ⟨gb1002, 1, none⟩ (.int .u64 t1000)).heap[gb979]? = some (.cells #[.int .i64 a0_0, .int .u64 a0_1] 24 (0, 0))) := ⟨kx BK979⟩
    have n1_ : Aside0 (((w110.setCell ⟨gb1002, 0, none⟩ (.int .i64 t999)).setCell ⟨gb1002, 1, none⟩ (.int .u64 t1000)).heap[gb980]? = some (.cells #[.int .i64 a1_0, .int .u64 a1_1] 24 (0, 0))) := ⟨kx BK980⟩
    have n2_ : Aside0 (((w110.setCell ⟨gb1002, 0, none⟩ (.int .i64 t999)).setCell ⟨gb1002, 1, none⟩ (.int .u64 t1000)).heap[gb986]? = some (.cells #[.int .i64 t983, .int .u64 t984] 24 (0, 0))) := ⟨kx BK986⟩
    have n3_ : Aside0 (((w110.setCell ⟨gb1002, 0, none⟩ (.int .i64 t999)).setCell ⟨gb1002, 1, none⟩ (.int .u64 t1000)).heap[gb990]? = some (.cells #[.int .i64 t987, .int .u64 t988] 24 (0, 0))) := ⟨kx BK990⟩
    have n4_ : Aside0 (((w110.setCell ⟨gb1002, 0, none⟩ (.int .i64 t999)).setCell ⟨gb1002, 1, none⟩ (.int .u64 t1000)).heap[gb994]? = some (.cells #[.int .i64 t991, .int .u64 t992] 24 (0, 0))) := ⟨kx BK994⟩
    have n5_ : Aside0 (((w110.setCell ⟨gb1002, 0, none⟩ (.int .i64 t999)).setCell ⟨gb1002, 1, none⟩ (.int .u64 t1000)).heap[gb998]? = some (.cells #[.int .i64 t995, .int .u64 t996] 24 (0, 0))) := ⟨kx BK998⟩
    have n6_ : Aside0 (((w110.setCell ⟨gb1002, 0, none⟩ (.int .i64 t999)).setCell ⟨gb1002, 1, none⟩ (.int .u64 t1000)).heap[gb1002]? = some (.cells #[.int .i64 t999, .int .u64 t1000] 24 (0, 0))) := ⟨by (with_reducible repeat (first | refine blk_drewN ?_ _ | refine blk_drew ?_ | refine blk_alloc ?_ _)); refine blk_put (cs := #[.int .i64 t999, .int .u64 0]) ?_ 1 _ rfl; (with_reducible repeat (first | refine blk_drewN ?_ _ | refine blk_drew ?_ | refine blk_alloc ?_ _)); refine blk_put (cs := #[.int .i64 0, .int .u64 0]) ?_ 0 _ rfl; (with_reducible repeat (first | refine blk_drewN ?_ _ | refine blk_drew ?_ | refine blk_alloc ?_ _)); exact BK1002.out⟩
    have n7_ : Aside0 (Below w.heap.size w ((w110.setCell ⟨gb1002, 0, none⟩ (.int .i64 t999)).setCell ⟨gb1002, 1, none⟩ (.int .u64 t1000))) := ⟨ky HB⟩
    (try clear BK979)
    (try clear BK980)
    (try clear BK986)
    (try clear BK990)
    (try clear BK994)
    (try clear BK998)
    (try clear BK1002)
    (try clear HB)
    generalize ((w110.setCell ⟨gb1002, 0, none⟩ (.int .i64 t999)).setCell ⟨gb1002, 1, none⟩ (.int .u64 t1000)) = w118 at n0_ n1_ n2_ n3_ n4_ n5_ n6_ n7_ ⊢
    have BK979 := n0_; have BK980 := n1_; have BK986 := n2_; have BK990 := n3_; have BK994 := n4_; have BK998 := n5_; have BK1002 := n6_; have HB := n7_
    clear n0_ n1_ n2_ n3_ n4_ n5_ n6_ n7_
    replace BK979 := Aside0.mk (blk_drew BK979.out)
    replace BK980 := Aside0.mk (blk_drew BK980.out)
    replace BK986 := Aside0.mk (blk_drew BK986.out)
    replace BK990 := Aside0.mk (blk_drew BK990.out)
    replace BK994 := Aside0.mk (blk_drew BK994.out)
    replace BK998 := Aside0.mk (blk_drew BK998.out)
    replace BK1002 := Aside0.mk (blk_drew BK1002.out)
    replace HB := Aside0.mk (below_drew1 HB.out)
    refine start_ (n := 36) (S := fun w' => w'.cell? ⟨gb990, 0, none⟩ = some (.int .i64 t987) ∧ w'.cell? ⟨gb990, 1, none⟩ = some (.int .u64 t988) ∧ w'.cell? ⟨gb994, 0, none⟩ = some (.int .i64 t991) ∧ w'.cell? ⟨gb994, 1, none⟩ = some (.int .u64 t992) ∧ w'.cell? ⟨gb998, 0, none⟩ = some (.int .i64 t995) ∧ w'.cell? ⟨gb998, 1, none⟩ = some (.int .u64 t996) ∧ w'.cell? ⟨gb1002, 0, none⟩ = some (.int .i64 t999) ∧ w'.cell? ⟨gb1002, 1, none⟩ = some (.int .u64 t1000)) (ds := []) #[O, O, O, O, O, O, O, O, O, O, O, O, O, O, O, O, O, O, O, O, O, O, O, O, O, O, O, O, O, O, O, O, O, O, O, O] (by kernel_rfl) rfl rfl ⟨kc BK990 0, kc BK990 1, kc BK994 0, kc BK994 1, kc BK998 0, kc BK998 1, kc BK1002 0, kc BK1002 1⟩ (fun hHeld => ?_); refine with_tabW cobweblaw01_WideScales.tab7 cobweblaw01_WideScales.bits7 (fun HT_ HW_ => ?_)
    generalize w118.drew = w119 at BK979 BK980 BK986 BK990 BK994 BK998 BK1002 HB hHeld ⊢
    refine one_ (i := 0) (N := some 51) #[T, O, O, O, O, O, O, O, O, O, O, O, O, O, O, O, O, O, O, O, O, O, O, O, O, O, O, O, O, O, O, O, O, O, O, O] rfl rfl (one_of HT_.out (by kernel_rfl)) (by decide) (fun K hK => ?_)
    refine goes_ Try.func16 (by kernel_rfl) rfl #[] (by rfl) rfl rfl (by (try simp only [List.map_toArray, List.map_cons, List.map_nil]); first | done | rfl | (simp only [List.length_drop, List.length_take]; rfl)) ?_
    with_reducible refine (cobweblaw01_alive.calls k  true _ A10.out).mono ?_
    rintro e w120 ⟨rfl, hb⟩
    refine ⟨_, rfl, ?_⟩
    replace BK979 := kb BK979 hb
    replace BK980 := kb BK980 hb
    replace BK986 := kb BK986 hb
    replace BK990 := kb BK990 hb
    replace BK994 := kb BK994 hb
    replace BK998 := kb BK998 hb
    replace BK1002 := kb BK1002 hb
    replace HB := kB HB hb
    (try clear hb)
    (try clear hb2)
    (try clear hk)
    (try clear hi)
    refine hK.out _ _ ⟨kc BK990 0, kc BK990 1, kc BK994 0, kc BK994 1, kc BK998 0, kc BK998 1, kc BK1002 0, kc BK1002 1⟩ (fun hHeld => ?_)
    clear hK K
    refine norm_ (a' := ?_) ?_ ?_
    rotate_left
    · show Act.put _ (some 51) _ = _
      simp only [Act.put, List.setIfInBounds_toArray, List.set_cons_zero, List.set_cons_succ, i64_w, i32_w]
      rfl
    refine pure_ (i := 1) (N := some 52) (v := ?_) (a' := ?_) #[T, T, O, O, O, O, O, O, O, O, O, O, O, O, O, O, O, O, O, O, O, O, O, O, O, O, O, O, O, O, O, O, O, O, O, O] rfl rfl (any_of HT_.out (by kernel_rfl)) (fun _ _ _ h => h) (Or.inl ⟨by rfl, ?_⟩) ?_ ?_; rotate_left; focus (intro w'; go_simp; with_reducible rfl)
    rotate_left; focus (simp only [Act.put, List.setIfInBounds_toArray, List.set_cons_zero, List.set_cons_succ, i64_w, i32_w]; rfl)
    refine pure_ (i := 2) (N := some 53) (v := ?_) (a' := ?_) #[T, T, T, O, O, O, O, O, O, O, O, O, O, O, O, O, O, O, O, O, O, O, O, O, O, O, O, O, O, O, O, O, O, O, O, O] rfl rfl (any_of HT_.out (by kernel_rfl)) (fun _ _ _ h => h) (Or.inl ⟨by rfl, ?_⟩) ?_ ?_; rotate_left; focus (intro w'; go_simp; with_reducible rfl)
    rotate_left; focus (simp only [Act.put, List.setIfInBounds_toArray, List.set_cons_zero, List.set_cons_succ, i64_w, i32_w]; rfl)
    refine pure_ (i := 3) (N := some 54) (v := ?_) (a' := ?_) #[T, T, T, T, O, O, O, O, O, O, O, O, O, O, O, O, O, O, O, O, O, O, O, O, O, O, O, O, O, O, O, O, O, O, O, O] rfl rfl (any_of HT_.out (by kernel_rfl)) (fun _ _ _ h => h) (Or.inl ⟨by rfl, ?_⟩) ?_ ?_; rotate_left; focus (intro w'; go_simp; with_reducible rfl)
    rotate_left; focus (simp only [Act.put, List.setIfInBounds_toArray, List.set_cons_zero, List.set_cons_succ, i64_w, i32_w]; rfl)
    refine pure_ (i := 4) (N := some 55) (v := ?_) (a' := ?_) #[T, T, T, T, T, O, O, O, O, O, O, O, O, O, O, O, O, O, O, O, O, O, O, O, O, O, O, O, O, O, O, O, O, O, O, O] rfl rfl (any_of HT_.out (by kernel_rfl)) (fun _ _ _ h => h) (Or.inl ⟨by rfl, ?_⟩) ?_ ?_; rotate_left; focus (intro w'; go_simp; with_reducible rfl)
    rotate_left; focus (simp only [Act.put, List.setIfInBounds_toArray, List.set_cons_zero, List.set_cons_succ, i64_w, i32_w]; rfl)
    refine pure_ (i := 5) (N := some 56) (v := ?_) (a' := ?_) #[T, T, T, T, T, T, O, O, O, O, O, O, O, O, O, O, O, O, O, O, O, O, O, O, O, O, O, O, O, O, O, O, O, O, O, O] rfl rfl (any_of HT_.out (by kernel_rfl)) (fun _ _ _ h => h) (Or.inl ⟨by rfl, ?_⟩) ?_ ?_; rotate_left; focus (intro w'; go_simp; with_reducible rfl)
    rotate_left; focus (simp only [Act.put, List.setIfInBounds_toArray, List.set_cons_zero, List.set_cons_succ, i64_w, i32_w]; rfl)
    refine pure_ (i := 6) (N := some 57) (v := ?_) (a' := ?_) #[T, T, T, T, T, T, T, O, O, O, O, O, O, O, O, O, O, O, O, O, O, O, O, O, O, O, O, O, O, O, O, O, O, O, O, O] rfl rfl (any_of HT_.out (by kernel_rfl)) (fun _ _ _ h => h) (Or.inl ⟨by rfl, ?_⟩) ?_ ?_; rotate_left; focus (intro w'; go_simp; with_reducible rfl)
    rotate_left; focus (simp only [Act.put, List.setIfInBounds_toArray, List.set_cons_zero, List.set_cons_succ, i64_w, i32_w]; rfl)
    refine take_ (i := 7) (N := some 58) (v := ?_) (a' := ?_) #[T, T, T, T, T, T, T, T, O, O, O, O, O, O, O, O, O, O, O, O, O, O, O, O, O, O, O, O, O, O, O, O, O, O, O, O] rfl rfl (take_ofW HT_.out HW_.out (by kernel_rfl)) (fun _ _ _ h => h) (Or.inl ⟨by rfl, ?_⟩) hHeld ?_ ?_; rotate_left; focus (rintro w' ⟨s0, s1, s2, s3, s4, s5, s6, s7⟩; go_simp; with_reducible rfl)
    rotate_left; focus (simp only [Act.put, List.setIfInBounds_toArray, List.set_cons_zero, List.set_cons_succ, i64_w, i32_w]; rfl)
    refine take_ (i := 8) (N := some 59) (v := ?_) (a' := ?_) #[T, T, T, T, T, T, T, T, T, O, O, O, O, O, O, O, O, O, O, O, O, O, O, O, O, O, O, O, O, O, O, O, O, O, O, O] rfl rfl (take_ofW HT_.out HW_.out (by kernel_rfl)) (fun _ _ _ h => h) (Or.inl ⟨by rfl, ?_⟩) hHeld ?_ ?_; rotate_left; focus (rintro w' ⟨s0, s1, s2, s3, s4, s5, s6, s7⟩; go_simp; with_reducible rfl)
    rotate_left; focus (simp only [Act.put, List.setIfInBounds_toArray, List.set_cons_zero, List.set_cons_succ, i64_w, i32_w]; rfl)
    refine pure_ (i := 9) (N := some 60) (v := ?_) (a' := ?_) #[T, T, T, T, T, T, T, T, T, T, O, O, O, O, O, O, O, O, O, O, O, O, O, O, O, O, O, O, O, O, O, O, O, O, O, O] rfl rfl (any_of HT_.out (by kernel_rfl)) (fun _ _ _ h => h) (Or.inl ⟨by rfl, ?_⟩) ?_ ?_; rotate_left; focus (intro w'; go_simp; with_reducible rfl)
    rotate_left; focus (simp only [Act.put, List.setIfInBounds_toArray, List.set_cons_zero, List.set_cons_succ, i64_w, i32_w]; rfl)
    refine pure_ (i := 10) (N := some 61) (v := ?_) (a' := ?_) #[T, T, T, T, T, T, T, T, T, T, T, O, O, O, O, O, O, O, O, O, O, O, O, O, O, O, O, O, O, O, O, O, O, O, O, O] rfl rfl (any_of HT_.out (by kernel_rfl)) (fun _ _ _ h => h) (Or.inl ⟨by rfl, ?_⟩) ?_ ?_; rotate_left; focus (intro w'; go_simp; with_reducible rfl)
    rotate_left; focus (simp only [Act.put, List.setIfInBounds_toArray, List.set_cons_zero, List.set_cons_succ, i64_w, i32_w]; rfl)
    refine pure_ (i := 11) (N := some 62) (v := ?_) (a' := ?_) #[T, T, T, T, T, T, T, T, T, T, T, T, O, O, O, O, O, O, O, O, O, O, O, O, O, O, O, O, O, O, O, O, O, O, O, O] rfl rfl (any_of HT_.out (by kernel_rfl)) (fun _ _ _ h => h) (Or.inl ⟨by rfl, ?_⟩) ?_ ?_; rotate_left; focus (intro w'; go_simp; with_reducible rfl)
    rotate_left; focus (simp only [Act.put, List.setIfInBounds_toArray, List.set_cons_zero, List.set_cons_succ, i64_w, i32_w]; rfl)
    refine pure_ (i := 12) (N := some 63) (v := ?_) (a' := ?_) #[T, T, T, T, T, T, T, T, T, T, T, T, T, O, O, O, O, O, O, O, O, O, O, O, O, O, O, O, O, O, O, O, O, O, O, O] rfl rfl (any_of HT_.out (by kernel_rfl)) (fun _ _ _ h => h) (Or.inl ⟨by rfl, ?_⟩) ?_ ?_; rotate_left; focus (intro w'; go_simp; with_reducible rfl)
    rotate_left; focus (simp only [Act.put, List.setIfInBounds_toArray, List.set_cons_zero, List.set_cons_succ, i64_w, i32_w]; rfl)
    refine pure_ (i := 13) (N := some 64) (v := ?_) (a' := ?_) #[T, T, T, T, T, T, T, T, T, T, T, T, T, T, O, O, O, O, O, O, O, O, O, O, O, O, O, O, O, O, O, O, O, O, O, O] rfl rfl (any_of HT_.out (by kernel_rfl)) (fun _ _ _ h => h) (Or.inl ⟨by rfl, ?_⟩) ?_ ?_; rotate_left; focus (intro w'; go_simp; with_reducible rfl)
    rotate_left; focus (simp only [Act.put, List.setIfInBounds_toArray, List.set_cons_zero, List.set_cons_succ, i64_w, i32_w]; rfl)
    refine pure_ (i := 14) (N := some 65) (v := ?_) (a' := ?_) #[T, T, T, T, T, T, T, T, T, T, T, T, T, T, T, O, O, O, O, O, O, O, O, O, O, O, O, O, O, O, O, O, O, O, O, O] rfl rfl (any_of HT_.out (by kernel_rfl)) (fun _ _ _ h => h) (Or.inl ⟨by rfl, ?_⟩) ?_ ?_; rotate_left; focus (intro w'; go_simp; with_reducible rfl)
    rotate_left; focus (simp only [Act.put, List.setIfInBounds_toArray, List.set_cons_zero, List.set_cons_succ, i64_w, i32_w]; rfl)
    refine pure_ (i := 15) (N := some 66) (v := ?_) (a' := ?_) #[T, T, T, T, T, T, T, T, T, T, T, T, T, T, T, T, O, O, O, O, O, O, O, O, O, O, O, O, O, O, O, O, O, O, O, O] rfl rfl (any_of HT_.out (by kernel_rfl)) (fun _ _ _ h => h) (Or.inl ⟨by rfl, ?_⟩) ?_ ?_; rotate_left; focus (intro w'; go_simp; with_reducible rfl)
    rotate_left; focus (simp only [Act.put, List.setIfInBounds_toArray, List.set_cons_zero, List.set_cons_succ, i64_w, i32_w]; rfl)
    refine pure_ (i := 16) (N := some 67) (v := ?_) (a' := ?_) #[T, T, T, T, T, T, T, T, T, T, T, T, T, T, T, T, T, O, O, O, O, O, O, O, O, O, O, O, O, O, O, O, O, O, O, O] rfl rfl (any_of HT_.out (by kernel_rfl)) (fun _ _ _ h => h) (Or.inl ⟨by rfl, ?_⟩) ?_ ?_; rotate_left; focus (intro w'; go_simp; with_reducible rfl)
    rotate_left; focus (simp only [Act.put, List.setIfInBounds_toArray, List.set_cons_zero, List.set_cons_succ, i64_w, i32_w]; rfl)
    refine take_ (i := 17) (N := some 68) (v := ?_) (a' := ?_) #[T, T, T, T, T, T, T, T, T, T, T, T, T, T, T, T, T, T, O, O, O, O, O, O, O, O, O, O, O, O, O, O, O, O, O, O] rfl rfl (take_ofW HT_.out HW_.out (by kernel_rfl)) (fun _ _ _ h => h) (Or.inl ⟨by rfl, ?_⟩) hHeld ?_ ?_; rotate_left; focus (rintro w' ⟨s0, s1, s2, s3, s4, s5, s6, s7⟩; go_simp; with_reducible rfl)
    rotate_left; focus (simp only [Act.put, List.setIfInBounds_toArray, List.set_cons_zero, List.set_cons_succ, i64_w, i32_w]; rfl)
    refine take_ (i := 18) (N := some 69) (v := ?_) (a' := ?_) #[T, T, T, T, T, T, T, T, T, T, T, T, T, T, T, T, T, T, T, O, O, O, O, O, O, O, O, O, O, O, O, O, O, O, O, O] rfl rfl (take_ofW HT_.out HW_.out (by kernel_rfl)) (fun _ _ _ h => h) (Or.inl ⟨by rfl, ?_⟩) hHeld ?_ ?_; rotate_left; focus (rintro w' ⟨s0, s1, s2, s3, s4, s5, s6, s7⟩; go_simp; with_reducible rfl)
    rotate_left; focus (simp only [Act.put, List.setIfInBounds_toArray, List.set_cons_zero, List.set_cons_succ, i64_w, i32_w]; rfl)
    refine pure_ (i := 19) (N := some 70) (v := ?_) (a' := ?_) #[T, T, T, T, T, T, T, T, T, T, T, T, T, T, T, T, T, T, T, T, O, O, O, O, O, O, O, O, O, O, O, O, O, O, O, O] rfl rfl (any_of HT_.out (by kernel_rfl)) (fun _ _ _ h => h) (Or.inl ⟨by rfl, ?_⟩) ?_ ?_; rotate_left; focus (intro w'; go_simp; with_reducible rfl)
    rotate_left; focus (simp only [Act.put, List.setIfInBounds_toArray, List.set_cons_zero, List.set_cons_succ, i64_w, i32_w]; rfl)
    refine pure_ (i := 20) (N := some 71) (v := ?_) (a' := ?_) #[T, T, T, T, T, T, T, T, T, T, T, T, T, T, T, T, T, T, T, T, T, O, O, O, O, O, O, O, O, O, O, O, O, O, O, O] rfl rfl (any_of HT_.out (by kernel_rfl)) (fun _ _ _ h => h) (Or.inl ⟨by rfl, ?_⟩) ?_ ?_; rotate_left; focus (intro w'; go_simp; with_reducible rfl)
    rotate_left; focus (simp only [Act.put, List.setIfInBounds_toArray, List.set_cons_zero, List.set_cons_succ, i64_w, i32_w]; rfl)
    refine pure_ (i := 21) (N := some 72) (v := ?_) (a' := ?_) #[T, T, T, T, T, T, T, T, T, T, T, T, T, T, T, T, T, T, T, T, T, T, O, O, O, O, O, O, O, O, O, O, O, O, O, O] rfl rfl (any_of HT_.out (by kernel_rfl)) (fun _ _ _ h => h) (Or.inl ⟨by rfl, ?_⟩) ?_ ?_; rotate_left; focus (intro w'; go_simp; with_reducible rfl)
    rotate_left; focus (simp only [Act.put, List.setIfInBounds_toArray, List.set_cons_zero, List.set_cons_succ, i64_w, i32_w]; rfl)
    refine pure_ (i := 22) (N := some 73) (v := ?_) (a' := ?_) #[T, T, T, T, T, T, T, T, T, T, T, T, T, T, T, T, T, T, T, T, T, T, T, O, O, O, O, O, O, O, O, O, O, O, O, O] rfl rfl (any_of HT_.out (by kernel_rfl)) (fun _ _ _ h => h) (Or.inl ⟨by rfl, ?_⟩) ?_ ?_; rotate_left; focus (intro w'; go_simp; with_reducible rfl)
    rotate_left; focus (simp only [Act.put, List.setIfInBounds_toArray, List.set_cons_zero, List.set_cons_succ, i64_w, i32_w]; rfl)
    refine pure_ (i := 23) (N := some 74) (v := ?_) (a' := ?_) #[T, T, T, T, T, T, T, T, T, T, T, T, T, T, T, T, T, T, T, T, T, T, T, T, O, O, O, O, O, O, O, O, O, O, O, O] rfl rfl (any_of HT_.out (by kernel_rfl)) (fun _ _ _ h => h) (Or.inl ⟨by rfl, ?_⟩) ?_ ?_; rotate_left; focus (intro w'; go_simp; with_reducible rfl)
    rotate_left; focus (simp only [Act.put, List.setIfInBounds_toArray, List.set_cons_zero, List.set_cons_succ, i64_w, i32_w]; rfl)
    refine pure_ (i := 24) (N := some 75) (v := ?_) (a' := ?_) #[T, T, T, T, T, T, T, T, T, T, T, T, T, T, T, T, T, T, T, T, T, T, T, T, T, O, O, O, O, O, O, O, O, O, O, O] rfl rfl (any_of HT_.out (by kernel_rfl)) (fun _ _ _ h => h) (Or.inl ⟨by rfl, ?_⟩) ?_ ?_; rotate_left; focus (intro w'; go_simp; with_reducible rfl)
    rotate_left; focus (simp only [Act.put, List.setIfInBounds_toArray, List.set_cons_zero, List.set_cons_succ, i64_w, i32_w]; rfl)
    refine pure_ (i := 25) (N := some 76) (v := undef) (a' := ?_) #[T, T, T, T, T, T, T, T, T, T, T, T, T, T, T, T, T, T, T, T, T, T, T, T, T, T, O, O, O, O, O, O, O, O, O, O] rfl rfl (any_of HT_.out (by kernel_rfl)) (fun _ _ _ h => h) (Or.inr ⟨by rfl, rfl⟩) ?_ ?_
    rotate_left
    · simp only [Act.put, List.setIfInBounds_toArray, List.set_cons_zero, List.set_cons_succ, i64_w, i32_w]
      rfl
    refine pure_ (i := 26) (N := some 77) (v := undef) (a' := ?_) #[T, T, T, T, T, T, T, T, T, T, T, T, T, T, T, T, T, T, T, T, T, T, T, T, T, T, T, O, O, O, O, O, O, O, O, O] rfl rfl (any_of HT_.out (by kernel_rfl)) (fun _ _ _ h => h) (Or.inr ⟨by rfl, rfl⟩) ?_ ?_
    rotate_left
    · simp only [Act.put, List.setIfInBounds_toArray, List.set_cons_zero, List.set_cons_succ, i64_w, i32_w]
      rfl
    refine pure_ (i := 27) (N := some 78) (v := undef) (a' := ?_) #[T, T, T, T, T, T, T, T, T, T, T, T, T, T, T, T, T, T, T, T, T, T, T, T, T, T, T, T, O, O, O, O, O, O, O, O] rfl rfl (any_of HT_.out (by kernel_rfl)) (fun _ _ _ h => h) (Or.inr ⟨by rfl, rfl⟩) ?_ ?_
    rotate_left
    · simp only [Act.put, List.setIfInBounds_toArray, List.set_cons_zero, List.set_cons_succ, i64_w, i32_w]
      rfl
    refine pure_ (i := 28) (N := some 79) (v := undef) (a' := ?_) #[T, T, T, T, T, T, T, T, T, T, T, T, T, T, T, T, T, T, T, T, T, T, T, T, T, T, T, T, T, O, O, O, O, O, O, O] rfl rfl (any_of HT_.out (by kernel_rfl)) (fun _ _ _ h => h) (Or.inr ⟨by rfl, rfl⟩) ?_ ?_
    rotate_left
    · simp only [Act.put, List.setIfInBounds_toArray, List.set_cons_zero, List.set_cons_succ, i64_w, i32_w]
      rfl
    refine pure_ (i := 29) (N := some 80) (v := undef) (a' := ?_) #[T, T, T, T, T, T, T, T, T, T, T, T, T, T, T, T, T, T, T, T, T, T, T, T, T, T, T, T, T, T, O, O, O, O, O, O] rfl rfl (any_of HT_.out (by kernel_rfl)) (fun _ _ _ h => h) (Or.inr ⟨by rfl, rfl⟩) ?_ ?_
    rotate_left
    · simp only [Act.put, List.setIfInBounds_toArray, List.set_cons_zero, List.set_cons_succ, i64_w, i32_w]
      rfl
    refine pure_ (i := 30) (N := some 81) (v := undef) (a' := ?_) #[T, T, T, T, T, T, T, T, T, T, T, T, T, T, T, T, T, T, T, T, T, T, T, T, T, T, T, T, T, T, T, O, O, O, O, O] rfl rfl (any_of HT_.out (by kernel_rfl)) (fun _ _ _ h => h) (Or.inr ⟨by rfl, rfl⟩) ?_ ?_
    rotate_left
    · simp only [Act.put, List.setIfInBounds_toArray, List.set_cons_zero, List.set_cons_succ, i64_w, i32_w]
      rfl
    refine pure_ (i := 31) (N := some 82) (v := undef) (a' := ?_) #[T, T, T, T, T, T, T, T, T, T, T, T, T, T, T, T, T, T, T, T, T, T, T, T, T, T, T, T, T, T, T, T, O, O, O, O] rfl rfl (any_of HT_.out (by kernel_rfl)) (fun _ _ _ h => h) (Or.inr ⟨by rfl, rfl⟩) ?_ ?_
    rotate_left
    · simp only [Act.put, List.setIfInBounds_toArray, List.set_cons_zero, List.set_cons_succ, i64_w, i32_w]
      rfl
    refine pure_ (i := 32) (N := some 83) (v := undef) (a' := ?_) #[T, T, T, T, T, T, T, T, T, T, T, T, T, T, T, T, T, T, T, T, T, T, T, T, T, T, T, T, T, T, T, T, T, O, O, O] rfl rfl (any_of HT_.out (by kernel_rfl)) (fun _ _ _ h => h) (Or.inr ⟨by rfl, rfl⟩) ?_ ?_
    rotate_left
    · simp only [Act.put, List.setIfInBounds_toArray, List.set_cons_zero, List.set_cons_succ, i64_w, i32_w]
      rfl
    refine pure_ (i := 33) (N := some 84) (v := ?_) (a' := ?_) #[T, T, T, T, T, T, T, T, T, T, T, T, T, T, T, T, T, T, T, T, T, T, T, T, T, T, T, T, T, T, T, T, T, T, O, O] rfl rfl (any_of HT_.out (by kernel_rfl)) (fun _ _ _ h => h) (Or.inl ⟨by rfl, ?_⟩) ?_ ?_; rotate_left; focus (intro w'; go_simp; with_reducible rfl)
    rotate_left; focus (simp only [Act.put, List.setIfInBounds_toArray, List.set_cons_zero, List.set_cons_succ, i64_w, i32_w]; rfl)
    refine pure_ (i := 34) (N := some 85) (v := ?_) (a' := ?_) #[T, T, T, T, T, T, T, T, T, T, T, T, T, T, T, T, T, T, T, T, T, T, T, T, T, T, T, T, T, T, T, T, T, T, T, O] rfl rfl (any_of HT_.out (by kernel_rfl)) (fun _ _ _ h => h) (Or.inl ⟨by rfl, ?_⟩) ?_ ?_; rotate_left; focus (intro w'; go_simp; with_reducible rfl)
    rotate_left; focus (simp only [Act.put, List.setIfInBounds_toArray, List.set_cons_zero, List.set_cons_succ, i64_w, i32_w]; rfl)
    refine pure_ (i := 35) (N := some 6) (v := ?_) (a' := ?_) #[T, T, T, T, T, T, T, T, T, T, T, T, T, T, T, T, T, T, T, T, T, T, T, T, T, T, T, T, T, T, T, T, T, T, T, T] rfl rfl (any_of HT_.out (by kernel_rfl)) (fun _ _ _ h => h) (Or.inl ⟨by rfl, ?_⟩) ?_ ?_; rotate_left; focus (intro w'; go_simp; with_reducible rfl)
    rotate_left; focus (simp only [Act.put, List.setIfInBounds_toArray, List.set_cons_zero, List.set_cons_succ, i64_w, i32_w]; rfl)
    refine done_ (done_of HT_.out (by kernel_rfl)) ?_
    try go_wp2
    go_ret
    exact ⟨by first | rfl | (simp [errW_none, errW_some] <;> rfl) | (simp [*, errW_none, errW_some] <;> rfl), ky HB⟩
  subst c16
  have H1 : ((wide_Sign.f t995 t996).bind fun t1004 => ((wide_Sign.f a0_0 a0_1).bind fun t1005 => ((wide_Sign.f a1_0 a1_1).bind fun t1006 => (some (t1004 == (wrap64 (t1005 * t1006))))))) = some r := by rw [if_pos rfl] at H; exact H
  clear H; have H := H1; clear H1
  replace H := Option.bind_eq_some_iff.mp H
  obtain ⟨t1004, A170, H⟩ := H
  replace H : ((wide_Sign.f a0_0 a0_1).bind fun t1005 => ((wide_Sign.f a1_0 a1_1).bind fun t1006 => (some (t1004 == (wrap64 (t1005 * t1006)))))) = some r := H
  have A17 := Aside0.mk A170
  clear A170
  replace H := Option.bind_eq_some_iff.mp H
  obtain ⟨t1005, A180, H⟩ := H
  replace H : ((wide_Sign.f a1_0 a1_1).bind fun t1006 => (some (t1004 == (wrap64 (t1005 * t1006))))) = some r := H
  have A18 := Aside0.mk A180
  clear A180
  replace H := Option.bind_eq_some_iff.mp H
  obtain ⟨t1006, A190, H⟩ := H
  replace H : (some (t1004 == (wrap64 (t1005 * t1006)))) = some r := H
  have A19 := Aside0.mk A190
  clear A190
  obtain rfl := Option.some.inj H
  go_enter Try.func11, Try.ntmps11
  try go_wp2_with (first | ((with_reducible refine gate_dst (N := 3) rfl ?_); refine box_event ?hg (N := 3) ?hd (cs := #[.int .i64 a0_0, .int .u64 a0_1]) (t := 24) ?hr ?_; (case hd => rfl); (case hg => rfl); (case hr => first | (go_simp; done) | (go_simp; rfl)); intro gb979 hg w20 hbox hb; have BK979 := Aside0.mk (hbox); have GW979 := kS HB hg; have GE979 := kS HB hg; replace HB := kB HB hb; clear hb hbox hg) | ((with_reducible refine gate_dst (N := 4) rfl ?_); refine box_event ?hg (N := 4) ?hd (cs := #[.int .i64 a1_0, .int .u64 a1_1]) (t := 24) ?hr ?_; (case hd => rfl); (case hg => rfl); (case hr => first | (go_simp; done) | (go_simp; rfl)); intro gb980 hg w21 hbox hb; have BK980 := Aside0.mk (hbox); have GW980 := kS HB hg; have GE980 := kS HB hg; have NB979_980 := kN BK979 hg; have NB980_979 := kM BK979 hg; replace BK979 := kb BK979 hb; replace HB := kB HB hb; clear hb hbox hg) | ((with_reducible refine gate_callee (f := 32) rfl ?_); refine goesL_ (some 22) rfl rfl Try.func32 (by kernel_rfl) rfl #[.int .i64 1] rfl (by (try simp only [List.map_toArray, List.map_cons, List.map_nil]); first | done | rfl | (simp only [List.length_drop, List.length_take]; rfl)) ?_; (with_reducible refine (wide_Of.calls 1 t981 t982 _ A4.out).mono ?_); rintro e w22 ⟨rfl, hb⟩; refine ⟨_, rfl, ?_⟩; replace BK979 := kb BK979 hb; replace BK980 := kb BK980 hb; replace HB := kB HB hb; (try clear hb); (try clear hb2); (try clear hk); (try clear hi)) | ((with_reducible refine gate_callee (f := 22) rfl ?_); refine goesL_ (some 24) rfl rfl Try.func22 (by kernel_rfl) rfl #[.agg #[.int .i64 t981, .int .u64 t982], .int .i64 (Int.tmod (wrap64 (a2)) 127)] rfl (by (try simp only [List.map_toArray, List.map_cons, List.map_nil]); first | done | rfl | (simp only [List.length_drop, List.length_take]; rfl)) ?_; (with_reducible refine (wide_Shl.calls k t981 t982 (Int.tmod (wrap64 (a2)) 127) t983 t984 t985 _ A5.out).mono ?_); rintro e w23 ⟨rfl, hb⟩; refine ⟨_, rfl, ?_⟩; replace BK979 := kb BK979 hb; replace BK980 := kb BK980 hb; replace HB := kB HB hb; (try clear hb); (try clear hb2); (try clear hk); (try clear hi)) | ((with_reducible refine gate_dst (N := 8) rfl ?_); refine box_event ?hg (N := 8) ?hd (cs := #[.int .i64 0, .int .u64 0]) (t := 24) ?hr ?_; (case hd => rfl); (case hg => rfl); (case hr => first | (go_simp; done) | (go_simp; rfl)); intro gb986 hg w24 hbox hb; have BK986 := Aside0.mk (hbox); have GW986 := kS HB hg; have GE986 := kS HB hg; have NB979_986 := kN BK979 hg; have NB986_979 := kM BK979 hg; have NB980_986 := kN BK980 hg; have NB986_980 := kM BK980 hg; replace BK979 := kb BK979 hb; replace BK980 := kb BK980 hb; replace HB := kB HB hb; clear hb hbox hg; have hnb25 := NB986_979.out; have hnc25 := NB979_986.out; have hnb26 := NB986_980.out; have hnc26 := NB980_986.out; have hcz27_0 : w24.cell? ⟨gb986, 0, none⟩ = some (.int .i64 0) := kc BK986 0; have hcz27_1 : w24.cell? ⟨gb986, 1, none⟩ = some (.int .u64 0) := kc BK986 1; have hfz27_0 := blk_frozen BK986.out 0; have hfz27_1 := blk_frozen BK986.out 1; have hnb28 := NB979_980.out; have hnc28 := NB980_979.out; have hcz29_0 : w24.cell? ⟨gb979, 0, none⟩ = some (.int .i64 a0_0) := kc BK979 0; have hcz29_1 : w24.cell? ⟨gb979, 1, none⟩ = some (.int .u64 a0_1) := kc BK979 1; have hfz29_0 := blk_frozen BK979.out 0; have hfz29_1 := blk_frozen BK979.out 1) | ((with_reducible refine gate_callee (f := 22) rfl ?_); refine goesL_ (some 30) rfl rfl Try.func22 (by kernel_rfl) rfl #[.agg #[.int .i64 a0_0, .int .u64 a0_1], .int .i64 (Int.tmod (wrap64 (a2)) 127)] rfl (by (try simp only [List.map_toArray, List.map_cons, List.map_nil]); first | done | rfl | (simp only [List.length_drop, List.length_take]; rfl)) ?_; (with_reducible refine (wide_Shl.calls k a0_0 a0_1 (Int.tmod (wrap64 (a2)) 127) t987 t988 t989 _ A6.out).mono ?_); rintro e w30 ⟨rfl, hb⟩; refine ⟨_, rfl, ?_⟩; have n0_ := kb BK979 hb; have n1_ := kb BK980 hb; have n2_ := Aside0.mk (blk_below (g := gb986) (o := .cells #[.int .i64 t983, .int .u64 t984] 24 (0, 0)) (by (with_reducible repeat (first | refine blk_drewN ?_ _ | refine blk_drew ?_ | refine blk_alloc ?_ _)); refine blk_put (cs := #[.int .i64 t983, .int .u64 0]) ?_ 1 _ rfl; (with_reducible repeat (first | refine blk_drewN ?_ _ | refine blk_drew ?_ | refine blk_alloc ?_ _)); refine blk_put (cs := #[.int .i64 0, .int .u64 0]) ?_ 0 _ rfl; (with_reducible repeat (first | refine blk_drewN ?_ _ | refine blk_drew ?_ | refine blk_alloc ?_ _)); exact BK986.out) hb); have n3_ := kB HB hb; clear BK979; clear BK980; clear BK986; clear HB; have BK979 := n0_; have BK980 := n1_; have BK986 := n2_; have HB := n3_; clear n0_ n1_ n2_ n3_; (try clear hb); (try clear hb2); (try clear hk); (try clear hi)) | ((with_reducible refine gate_dst (N := 10) rfl ?_); refine box_event ?hg (N := 10) ?hd (cs := #[.int .i64 0, .int .u64 0]) (t := 24) ?hr ?_; (case hd => rfl); (case hg => rfl); (case hr => first | (go_simp; done) | (go_simp; rfl)); intro gb990 hg w31 hbox hb; have BK990 := Aside0.mk (hbox); have GW990 := kS HB hg; have GE990 := kS HB hg; have NB979_990 := kN BK979 hg; have NB990_979 := kM BK979 hg; have NB980_990 := kN BK980 hg; have NB990_980 := kM BK980 hg; have NB986_990 := kN BK986 hg; have NB990_986 := kM BK986 hg; replace BK979 := kb BK979 hb; replace BK980 := kb BK980 hb; replace BK986 := kb BK986 hb; replace HB := kB HB hb; clear hb hbox hg; have hnb32 := NB990_979.out; have hnc32 := NB979_990.out; have hnb33 := NB990_980.out; have hnc33 := NB980_990.out; have hnb34 := NB990_986.out; have hnc34 := NB986_990.out; have hcz35_0 : w31.cell? ⟨gb990, 0, none⟩ = some (.int .i64 0) := kc BK990 0; have hcz35_1 : w31.cell? ⟨gb990, 1, none⟩ = some (.int .u64 0) := kc BK990 1; have hfz35_0 := blk_frozen BK990.out 0; have hfz35_1 := blk_frozen BK990.out 1; have hcz36_0 : w31.cell? ⟨gb979, 0, none⟩ = some (.int .i64 a0_0) := kc BK979 0; have hcz36_1 : w31.cell? ⟨gb979, 1, none⟩ = some (.int .u64 a0_1) := kc BK979 1; have hfz36_0 := blk_frozen BK979.out 0; have hfz36_1 := blk_frozen BK979.out 1; have hcz37_0 : w31.cell? ⟨gb986, 0, none⟩ = some (.int .i64 t983) := kc BK986 0; have hcz37_1 : w31.cell? ⟨gb986, 1, none⟩ = some (.int .u64 t984) := kc BK986 1; have hfz37_0 := blk_frozen BK986.out 0; have hfz37_1 := blk_frozen BK986.out 1) | ((with_reducible refine gate_callee (f := 15) rfl ?_); refine goesL_ (some 36) rfl rfl Try.func15 (by kernel_rfl) rfl #[.agg #[.int .i64 a0_0, .int .u64 a0_1], .agg #[.int .i64 t983, .int .u64 t984]] rfl (by (try simp only [List.map_toArray, List.map_cons, List.map_nil]); first | done | rfl | (simp only [List.length_drop, List.length_take]; rfl)) ?_; (with_reducible refine (wide_Mul.calls k a0_0 a0_1 t983 t984 t991 t992 t993 _ A7.out).mono ?_); rintro e w38 ⟨rfl, hb⟩; refine ⟨_, rfl, ?_⟩; have n0_ := kb BK979 hb; have n1_ := kb BK980 hb; have n2_ := kb BK986 hb; have n3_ := Aside0.mk (blk_below (g := gb990) (o := .cells #[.int .i64 t987, .int .u64 t988] 24 (0, 0)) (by (with_reducible repeat (first | refine blk_drewN ?_ _ | refine blk_drew ?_ | refine blk_alloc ?_ _)); refine blk_put (cs := #[.int .i64 t987, .int .u64 0]) ?_ 1 _ rfl; (with_reducible repeat (first | refine blk_drewN ?_ _ | refine blk_drew ?_ | refine blk_alloc ?_ _)); refine blk_put (cs := #[.int .i64 0, .int .u64 0]) ?_ 0 _ rfl; (with_reducible repeat (first | refine blk_drewN ?_ _ | refine blk_drew ?_ | refine blk_alloc ?_ _)); exact BK990.out) hb); have n4_ := kB HB hb; clear BK979; clear BK980; clear BK986; clear BK990; clear HB; have BK979 := n0_; have BK980 := n1_; have BK986 := n2_; have BK990 := n3_; have HB := n4_; clear n0_ n1_ n2_ n3_ n4_; (try clear hb); (try clear hb2); (try clear hk); (try clear hi)) | ((with_reducible refine gate_dst (N := 12) rfl ?_); refine box_event ?hg (N := 12) ?hd (cs := #[.int .i64 0, .int .u64 0]) (t := 24) ?hr ?_; (case hd => rfl); (case hg => rfl); (case hr => first | (go_simp; done) | (go_simp; rfl)); intro gb994 hg w39 hbox hb; have BK994 := Aside0.mk (hbox); have GW994 := kS HB hg; have GE994 := kS HB hg; have NB979_994 := kN BK979 hg; have NB994_979 := kM BK979 hg; have NB980_994 := kN BK980 hg; have NB994_980 := kM BK980 hg; have NB986_994 := kN BK986 hg; have NB994_986 := kM BK986 hg; have NB990_994 := kN BK990 hg; have NB994_990 := kM BK990 hg; replace BK979 := kb BK979 hb; replace BK980 := kb BK980 hb; replace BK986 := kb BK986 hb; replace BK990 := kb BK990 hb; replace HB := kB HB hb; clear hb hbox hg; have hnb40 := NB994_979.out; have hnc40 := NB979_994.out; have hnb41 := NB994_980.out; have hnc41 := NB980_994.out; have hnb42 := NB994_986.out; have hnc42 := NB986_994.out; have hnb43 := NB994_990.out; have hnc43 := NB990_994.out; have hcz44_0 : w39.cell? ⟨gb994, 0, none⟩ = some (.int .i64 0) := kc BK994 0; have hcz44_1 : w39.cell? ⟨gb994, 1, none⟩ = some (.int .u64 0) := kc BK994 1; have hfz44_0 := blk_frozen BK994.out 0; have hfz44_1 := blk_frozen BK994.out 1; have hcz45_0 : w39.cell? ⟨gb979, 0, none⟩ = some (.int .i64 a0_0) := kc BK979 0; have hcz45_1 : w39.cell? ⟨gb979, 1, none⟩ = some (.int .u64 a0_1) := kc BK979 1; have hfz45_0 := blk_frozen BK979.out 0; have hfz45_1 := blk_frozen BK979.out 1; have hcz46_0 : w39.cell? ⟨gb980, 0, none⟩ = some (.int .i64 a1_0) := kc BK980 0; have hcz46_1 : w39.cell? ⟨gb980, 1, none⟩ = some (.int .u64 a1_1) := kc BK980 1; have hfz46_0 := blk_frozen BK980.out 0; have hfz46_1 := blk_frozen BK980.out 1) | ((with_reducible refine gate_callee (f := 15) rfl ?_); refine goesL_ (some 42) rfl rfl Try.func15 (by kernel_rfl) rfl #[.agg #[.int .i64 a0_0, .int .u64 a0_1], .agg #[.int .i64 a1_0, .int .u64 a1_1]] rfl (by (try simp only [List.map_toArray, List.map_cons, List.map_nil]); first | done | rfl | (simp only [List.length_drop, List.length_take]; rfl)) ?_; (with_reducible refine (wide_Mul.calls k a0_0 a0_1 a1_0 a1_1 t995 t996 true _ A8.out).mono ?_); rintro e w47 ⟨rfl, hb⟩; refine ⟨_, rfl, ?_⟩; have n0_ := kb BK979 hb; have n1_ := kb BK980 hb; have n2_ := kb BK986 hb; have n3_ := kb BK990 hb; have n4_ := Aside0.mk (blk_below (g := gb994) (o := .cells #[.int .i64 t991, .int .u64 t992] 24 (0, 0)) (by (with_reducible repeat (first | refine blk_drewN ?_ _ | refine blk_drew ?_ | refine blk_alloc ?_ _)); refine blk_put (cs := #[.int .i64 t991, .int .u64 0]) ?_ 1 _ rfl; (with_reducible repeat (first | refine blk_drewN ?_ _ | refine blk_drew ?_ | refine blk_alloc ?_ _)); refine blk_put (cs := #[.int .i64 0, .int .u64 0]) ?_ 0 _ rfl; (with_reducible repeat (first | refine blk_drewN ?_ _ | refine blk_drew ?_ | refine blk_alloc ?_ _)); exact BK994.out) hb); have n5_ := kB HB hb; clear BK979; clear BK980; clear BK986; clear BK990; clear BK994; clear HB; have BK979 := n0_; have BK980 := n1_; have BK986 := n2_; have BK990 := n3_; have BK994 := n4_; have HB := n5_; clear n0_ n1_ n2_ n3_ n4_ n5_; (try clear hb); (try clear hb2); (try clear hk); (try clear hi)) | ((with_reducible refine gate_dst (N := 14) rfl ?_); refine box_event ?hg (N := 14) ?hd (cs := #[.int .i64 0, .int .u64 0]) (t := 24) ?hr ?_; (case hd => rfl); (case hg => rfl); (case hr => first | (go_simp; done) | (go_simp; rfl)); intro gb998 hg w48 hbox hb; have BK998 := Aside0.mk (hbox); have GW998 := kS HB hg; have GE998 := kS HB hg; have NB979_998 := kN BK979 hg; have NB998_979 := kM BK979 hg; have NB980_998 := kN BK980 hg; have NB998_980 := kM BK980 hg; have NB986_998 := kN BK986 hg; have NB998_986 := kM BK986 hg; have NB990_998 := kN BK990 hg; have NB998_990 := kM BK990 hg; have NB994_998 := kN BK994 hg; have NB998_994 := kM BK994 hg; replace BK979 := kb BK979 hb; replace BK980 := kb BK980 hb; replace BK986 := kb BK986 hb; replace BK990 := kb BK990 hb; replace BK994 := kb BK994 hb; replace HB := kB HB hb; clear hb hbox hg; have hnb49 := NB998_979.out; have hnc49 := NB979_998.out; have hnb50 := NB998_980.out; have hnc50 := NB980_998.out; have hnb51 := NB998_986.out; have hnc51 := NB986_998.out; have hnb52 := NB998_990.out; have hnc52 := NB990_998.out; have hnb53 := NB998_994.out; have hnc53 := NB994_998.out; have hcz54_0 : w48.cell? ⟨gb998, 0, none⟩ = some (.int .i64 0) := kc BK998 0; have hcz54_1 : w48.cell? ⟨gb998, 1, none⟩ = some (.int .u64 0) := kc BK998 1; have hfz54_0 := blk_frozen BK998.out 0; have hfz54_1 := blk_frozen BK998.out 1; have hcz55_0 : w48.cell? ⟨gb980, 0, none⟩ = some (.int .i64 a1_0) := kc BK980 0; have hcz55_1 : w48.cell? ⟨gb980, 1, none⟩ = some (.int .u64 a1_1) := kc BK980 1; have hfz55_0 := blk_frozen BK980.out 0; have hfz55_1 := blk_frozen BK980.out 1; have hcz56_0 : w48.cell? ⟨gb979, 0, none⟩ = some (.int .i64 a0_0) := kc BK979 0; have hcz56_1 : w48.cell? ⟨gb979, 1, none⟩ = some (.int .u64 a0_1) := kc BK979 1; have hfz56_0 := blk_frozen BK979.out 0; have hfz56_1 := blk_frozen BK979.out 1) | ((with_reducible refine gate_callee (f := 15) rfl ?_); refine goesL_ (some 48) rfl rfl Try.func15 (by kernel_rfl) rfl #[.agg #[.int .i64 a1_0, .int .u64 a1_1], .agg #[.int .i64 a0_0, .int .u64 a0_1]] rfl (by (try simp only [List.map_toArray, List.map_cons, List.map_nil]); first | done | rfl | (simp only [List.length_drop, List.length_take]; rfl)) ?_; (with_reducible refine (wide_Mul.calls k a1_0 a1_1 a0_0 a0_1 t999 t1000 t1001 _ A9.out).mono ?_); rintro e w57 ⟨rfl, hb⟩; refine ⟨_, rfl, ?_⟩; have n0_ := kb BK979 hb; have n1_ := kb BK980 hb; have n2_ := kb BK986 hb; have n3_ := kb BK990 hb; have n4_ := kb BK994 hb; have n5_ := Aside0.mk (blk_below (g := gb998) (o := .cells #[.int .i64 t995, .int .u64 t996] 24 (0, 0)) (by (with_reducible repeat (first | refine blk_drewN ?_ _ | refine blk_drew ?_ | refine blk_alloc ?_ _)); refine blk_put (cs := #[.int .i64 t995, .int .u64 0]) ?_ 1 _ rfl; (with_reducible repeat (first | refine blk_drewN ?_ _ | refine blk_drew ?_ | refine blk_alloc ?_ _)); refine blk_put (cs := #[.int .i64 0, .int .u64 0]) ?_ 0 _ rfl; (with_reducible repeat (first | refine blk_drewN ?_ _ | refine blk_drew ?_ | refine blk_alloc ?_ _)); exact BK998.out) hb); have n6_ := kB HB hb; clear BK979; clear BK980; clear BK986; clear BK990; clear BK994; clear BK998; clear HB; have BK979 := n0_; have BK980 := n1_; have BK986 := n2_; have BK990 := n3_; have BK994 := n4_; have BK998 := n5_; have HB := n6_; clear n0_ n1_ n2_ n3_ n4_ n5_ n6_; (try clear hb); (try clear hb2); (try clear hk); (try clear hi)) | ((with_reducible refine gate_dst (N := 16) rfl ?_); refine box_event ?hg (N := 16) ?hd (cs := #[.int .i64 0, .int .u64 0]) (t := 24) ?hr ?_; (case hd => rfl); (case hg => rfl); (case hr => first | (go_simp; done) | (go_simp; rfl)); intro gb1002 hg w58 hbox hb; have BK1002 := Aside0.mk (hbox); have GW1002 := kS HB hg; have GE1002 := kS HB hg; have NB979_1002 := kN BK979 hg; have NB1002_979 := kM BK979 hg; have NB980_1002 := kN BK980 hg; have NB1002_980 := kM BK980 hg; have NB986_1002 := kN BK986 hg; have NB1002_986 := kM BK986 hg; have NB990_1002 := kN BK990 hg; have NB1002_990 := kM BK990 hg; have NB994_1002 := kN BK994 hg; have NB1002_994 := kM BK994 hg; have NB998_1002 := kN BK998 hg; have NB1002_998 := kM BK998 hg; replace BK979 := kb BK979 hb; replace BK980 := kb BK980 hb; replace BK986 := kb BK986 hb; replace BK990 := kb BK990 hb; replace BK994 := kb BK994 hb; replace BK998 := kb BK998 hb; replace HB := kB HB hb; clear hb hbox hg; have hnb59 := NB1002_979.out; have hnc59 := NB979_1002.out; have hnb60 := NB1002_980.out; have hnc60 := NB980_1002.out; have hnb61 := NB1002_986.out; have hnc61 := NB986_1002.out; have hnb62 := NB1002_990.out; have hnc62 := NB990_1002.out; have hnb63 := NB1002_994.out; have hnc63 := NB994_1002.out; have hnb64 := NB1002_998.out; have hnc64 := NB998_1002.out; have hcz65_0 : w58.cell? ⟨gb1002, 0, none⟩ = some (.int .i64 0) := kc BK1002 0; have hcz65_1 : w58.cell? ⟨gb1002, 1, none⟩ = some (.int .u64 0) := kc BK1002 1; have hfz65_0 := blk_frozen BK1002.out 0; have hfz65_1 := blk_frozen BK1002.out 1))
  have n0_ : Aside0 (((w58.setCell ⟨gb1002, 0, none⟩ (.int .i64 t999)).setCell ⟨gb1002, 1, none⟩ (.int .u64 t1000)).heap[gb979]? = some (.cells #[.int .i64 a0_0, .int .u64 a0_1] 24 (0, 0))) := ⟨kx BK979⟩
  have n1_ : Aside0 (((w58.setCell ⟨gb1002, 0, none⟩ (.int .i64 t999)).setCell ⟨gb1002, 1, none⟩ (.int .u64 t1000)).heap[gb980]? = some (.cells #[.int .i64 a1_0, .int .u64 a1_1] 24 (0, 0))) := ⟨kx BK980⟩
  have n2_ : Aside0 (((w58.setCell ⟨gb1002, 0, none⟩ (.int .i64 t999)).setCell ⟨gb1002, 1, none⟩ (.int .u64 t1000)).heap[gb986]? = some (.cells #[.int .i64 t983, .int .u64 t984] 24 (0, 0))) := ⟨kx BK986⟩
  have n3_ : Aside0 (((w58.setCell ⟨gb1002, 0, none⟩ (.int .i64 t999)).setCell ⟨gb1002, 1, none⟩ (.int .u64 t1000)).heap[gb990]? = some (.cells #[.int .i64 t987, .int .u64 t988] 24 (0, 0))) := ⟨kx BK990⟩
  have n4_ : Aside0 (((w58.setCell ⟨gb1002, 0, none⟩ (.int .i64 t999)).setCell ⟨gb1002, 1, none⟩ (.int .u64 t1000)).heap[gb994]? = some (.cells #[.int .i64 t991, .int .u64 t992] 24 (0, 0))) := ⟨kx BK994⟩
  have n5_ : Aside0 (((w58.setCell ⟨gb1002, 0, none⟩ (.int .i64 t999)).setCell ⟨gb1002, 1, none⟩ (.int .u64 t1000)).heap[gb998]? = some (.cells #[.int .i64 t995, .int .u64 t996] 24 (0, 0))) := ⟨kx BK998⟩
  have n6_ : Aside0 (((w58.setCell ⟨gb1002, 0, none⟩ (.int .i64 t999)).setCell ⟨gb1002, 1, none⟩ (.int .u64 t1000)).heap[gb1002]? = some (.cells #[.int .i64 t999, .int .u64 t1000] 24 (0, 0))) := ⟨by (with_reducible repeat (first | refine blk_drewN ?_ _ | refine blk_drew ?_ | refine blk_alloc ?_ _)); refine blk_put (cs := #[.int .i64 t999, .int .u64 0]) ?_ 1 _ rfl; (with_reducible repeat (first | refine blk_drewN ?_ _ | refine blk_drew ?_ | refine blk_alloc ?_ _)); refine blk_put (cs := #[.int .i64 0, .int .u64 0]) ?_ 0 _ rfl; (with_reducible repeat (first | refine blk_drewN ?_ _ | refine blk_drew ?_ | refine blk_alloc ?_ _)); exact BK1002.out⟩
  have n7_ : Aside0 (Below w.heap.size w ((w58.setCell ⟨gb1002, 0, none⟩ (.int .i64 t999)).setCell ⟨gb1002, 1, none⟩ (.int .u64 t1000))) := ⟨ky HB⟩
  (try clear BK979)
  (try clear BK980)
  (try clear BK986)
  (try clear BK990)
  (try clear BK994)
  (try clear BK998)
  (try clear BK1002)
  (try clear HB)
  generalize ((w58.setCell ⟨gb1002, 0, none⟩ (.int .i64 t999)).setCell ⟨gb1002, 1, none⟩ (.int .u64 t1000)) = w66 at n0_ n1_ n2_ n3_ n4_ n5_ n6_ n7_ ⊢
  have BK979 := n0_; have BK980 := n1_; have BK986 := n2_; have BK990 := n3_; have BK994 := n4_; have BK998 := n5_; have BK1002 := n6_; have HB := n7_
  clear n0_ n1_ n2_ n3_ n4_ n5_ n6_ n7_
  replace BK979 := Aside0.mk (blk_drew BK979.out)
  replace BK980 := Aside0.mk (blk_drew BK980.out)
  replace BK986 := Aside0.mk (blk_drew BK986.out)
  replace BK990 := Aside0.mk (blk_drew BK990.out)
  replace BK994 := Aside0.mk (blk_drew BK994.out)
  replace BK998 := Aside0.mk (blk_drew BK998.out)
  replace BK1002 := Aside0.mk (blk_drew BK1002.out)
  replace HB := Aside0.mk (below_drew1 HB.out)
  refine start_ (n := 36) (S := fun w' => w'.cell? ⟨gb990, 0, none⟩ = some (.int .i64 t987) ∧ w'.cell? ⟨gb990, 1, none⟩ = some (.int .u64 t988) ∧ w'.cell? ⟨gb994, 0, none⟩ = some (.int .i64 t991) ∧ w'.cell? ⟨gb994, 1, none⟩ = some (.int .u64 t992) ∧ w'.cell? ⟨gb998, 0, none⟩ = some (.int .i64 t995) ∧ w'.cell? ⟨gb998, 1, none⟩ = some (.int .u64 t996) ∧ w'.cell? ⟨gb1002, 0, none⟩ = some (.int .i64 t999) ∧ w'.cell? ⟨gb1002, 1, none⟩ = some (.int .u64 t1000) ∧ w'.cell? ⟨gb979, 0, none⟩ = some (.int .i64 a0_0) ∧ w'.cell? ⟨gb979, 1, none⟩ = some (.int .u64 a0_1) ∧ w'.cell? ⟨gb980, 0, none⟩ = some (.int .i64 a1_0) ∧ w'.cell? ⟨gb980, 1, none⟩ = some (.int .u64 a1_1)) (ds := []) #[O, O, O, O, O, O, O, O, O, O, O, O, O, O, O, O, O, O, O, O, O, O, O, O, O, O, O, O, O, O, O, O, O, O, O, O] (by kernel_rfl) rfl rfl ⟨kc BK990 0, kc BK990 1, kc BK994 0, kc BK994 1, kc BK998 0, kc BK998 1, kc BK1002 0, kc BK1002 1, kc BK979 0, kc BK979 1, kc BK980 0, kc BK980 1⟩ (fun hHeld => ?_); refine with_tabW cobweblaw01_WideScales.tab7 cobweblaw01_WideScales.bits7 (fun HT_ HW_ => ?_)
  generalize w66.drew = w67 at BK979 BK980 BK986 BK990 BK994 BK998 BK1002 HB hHeld ⊢
  refine one_ (i := 0) (N := some 51) #[T, O, O, O, O, O, O, O, O, O, O, O, O, O, O, O, O, O, O, O, O, O, O, O, O, O, O, O, O, O, O, O, O, O, O, O] rfl rfl (one_of HT_.out (by kernel_rfl)) (by decide) (fun K hK => ?_)
  refine goes_ Try.func16 (by kernel_rfl) rfl #[] (by rfl) rfl rfl (by (try simp only [List.map_toArray, List.map_cons, List.map_nil]); first | done | rfl | (simp only [List.length_drop, List.length_take]; rfl)) ?_
  with_reducible refine (cobweblaw01_alive.calls k  true _ A10.out).mono ?_
  rintro e w68 ⟨rfl, hb⟩
  refine ⟨_, rfl, ?_⟩
  replace BK979 := kb BK979 hb
  replace BK980 := kb BK980 hb
  replace BK986 := kb BK986 hb
  replace BK990 := kb BK990 hb
  replace BK994 := kb BK994 hb
  replace BK998 := kb BK998 hb
  replace BK1002 := kb BK1002 hb
  replace HB := kB HB hb
  (try clear hb)
  (try clear hb2)
  (try clear hk)
  (try clear hi)
  refine hK.out _ _ ⟨kc BK990 0, kc BK990 1, kc BK994 0, kc BK994 1, kc BK998 0, kc BK998 1, kc BK1002 0, kc BK1002 1, kc BK979 0, kc BK979 1, kc BK980 0, kc BK980 1⟩ (fun hHeld => ?_)
  clear hK K
  refine norm_ (a' := ?_) ?_ ?_
  rotate_left
  · show Act.put _ (some 51) _ = _
    simp only [Act.put, List.setIfInBounds_toArray, List.set_cons_zero, List.set_cons_succ, i64_w, i32_w]
    rfl
  refine pure_ (i := 1) (N := some 52) (v := ?_) (a' := ?_) #[T, T, O, O, O, O, O, O, O, O, O, O, O, O, O, O, O, O, O, O, O, O, O, O, O, O, O, O, O, O, O, O, O, O, O, O] rfl rfl (any_of HT_.out (by kernel_rfl)) (fun _ _ _ h => h) (Or.inl ⟨by rfl, ?_⟩) ?_ ?_; rotate_left; focus (intro w'; go_simp; with_reducible rfl)
  rotate_left; focus (simp only [Act.put, List.setIfInBounds_toArray, List.set_cons_zero, List.set_cons_succ, i64_w, i32_w]; rfl)
  refine pure_ (i := 2) (N := some 53) (v := ?_) (a' := ?_) #[T, T, T, O, O, O, O, O, O, O, O, O, O, O, O, O, O, O, O, O, O, O, O, O, O, O, O, O, O, O, O, O, O, O, O, O] rfl rfl (any_of HT_.out (by kernel_rfl)) (fun _ _ _ h => h) (Or.inl ⟨by rfl, ?_⟩) ?_ ?_; rotate_left; focus (intro w'; go_simp; with_reducible rfl)
  rotate_left; focus (simp only [Act.put, List.setIfInBounds_toArray, List.set_cons_zero, List.set_cons_succ, i64_w, i32_w]; rfl)
  refine pure_ (i := 3) (N := some 54) (v := ?_) (a' := ?_) #[T, T, T, T, O, O, O, O, O, O, O, O, O, O, O, O, O, O, O, O, O, O, O, O, O, O, O, O, O, O, O, O, O, O, O, O] rfl rfl (any_of HT_.out (by kernel_rfl)) (fun _ _ _ h => h) (Or.inl ⟨by rfl, ?_⟩) ?_ ?_; rotate_left; focus (intro w'; go_simp; with_reducible rfl)
  rotate_left; focus (simp only [Act.put, List.setIfInBounds_toArray, List.set_cons_zero, List.set_cons_succ, i64_w, i32_w]; rfl)
  refine pure_ (i := 4) (N := some 55) (v := ?_) (a' := ?_) #[T, T, T, T, T, O, O, O, O, O, O, O, O, O, O, O, O, O, O, O, O, O, O, O, O, O, O, O, O, O, O, O, O, O, O, O] rfl rfl (any_of HT_.out (by kernel_rfl)) (fun _ _ _ h => h) (Or.inl ⟨by rfl, ?_⟩) ?_ ?_; rotate_left; focus (intro w'; go_simp; with_reducible rfl)
  rotate_left; focus (simp only [Act.put, List.setIfInBounds_toArray, List.set_cons_zero, List.set_cons_succ, i64_w, i32_w]; rfl)
  refine pure_ (i := 5) (N := some 56) (v := ?_) (a' := ?_) #[T, T, T, T, T, T, O, O, O, O, O, O, O, O, O, O, O, O, O, O, O, O, O, O, O, O, O, O, O, O, O, O, O, O, O, O] rfl rfl (any_of HT_.out (by kernel_rfl)) (fun _ _ _ h => h) (Or.inl ⟨by rfl, ?_⟩) ?_ ?_; rotate_left; focus (intro w'; go_simp; with_reducible rfl)
  rotate_left; focus (simp only [Act.put, List.setIfInBounds_toArray, List.set_cons_zero, List.set_cons_succ, i64_w, i32_w]; rfl)
  refine pure_ (i := 6) (N := some 57) (v := ?_) (a' := ?_) #[T, T, T, T, T, T, T, O, O, O, O, O, O, O, O, O, O, O, O, O, O, O, O, O, O, O, O, O, O, O, O, O, O, O, O, O] rfl rfl (any_of HT_.out (by kernel_rfl)) (fun _ _ _ h => h) (Or.inl ⟨by rfl, ?_⟩) ?_ ?_; rotate_left; focus (intro w'; go_simp; with_reducible rfl)
  rotate_left; focus (simp only [Act.put, List.setIfInBounds_toArray, List.set_cons_zero, List.set_cons_succ, i64_w, i32_w]; rfl)
  refine take_ (i := 7) (N := some 58) (v := ?_) (a' := ?_) #[T, T, T, T, T, T, T, T, O, O, O, O, O, O, O, O, O, O, O, O, O, O, O, O, O, O, O, O, O, O, O, O, O, O, O, O] rfl rfl (take_ofW HT_.out HW_.out (by kernel_rfl)) (fun _ _ _ h => h) (Or.inl ⟨by rfl, ?_⟩) hHeld ?_ ?_; rotate_left; focus (rintro w' ⟨s0, s1, s2, s3, s4, s5, s6, s7, s8, s9, s10, s11⟩; go_simp; with_reducible rfl)
  rotate_left; focus (simp only [Act.put, List.setIfInBounds_toArray, List.set_cons_zero, List.set_cons_succ, i64_w, i32_w]; rfl)
  refine take_ (i := 8) (N := some 59) (v := ?_) (a' := ?_) #[T, T, T, T, T, T, T, T, T, O, O, O, O, O, O, O, O, O, O, O, O, O, O, O, O, O, O, O, O, O, O, O, O, O, O, O] rfl rfl (take_ofW HT_.out HW_.out (by kernel_rfl)) (fun _ _ _ h => h) (Or.inl ⟨by rfl, ?_⟩) hHeld ?_ ?_; rotate_left; focus (rintro w' ⟨s0, s1, s2, s3, s4, s5, s6, s7, s8, s9, s10, s11⟩; go_simp; with_reducible rfl)
  rotate_left; focus (simp only [Act.put, List.setIfInBounds_toArray, List.set_cons_zero, List.set_cons_succ, i64_w, i32_w]; rfl)
  refine pure_ (i := 9) (N := some 60) (v := ?_) (a' := ?_) #[T, T, T, T, T, T, T, T, T, T, O, O, O, O, O, O, O, O, O, O, O, O, O, O, O, O, O, O, O, O, O, O, O, O, O, O] rfl rfl (any_of HT_.out (by kernel_rfl)) (fun _ _ _ h => h) (Or.inl ⟨by rfl, ?_⟩) ?_ ?_; rotate_left; focus (intro w'; go_simp; with_reducible rfl)
  rotate_left; focus (simp only [Act.put, List.setIfInBounds_toArray, List.set_cons_zero, List.set_cons_succ, i64_w, i32_w]; rfl)
  refine pure_ (i := 10) (N := some 61) (v := ?_) (a' := ?_) #[T, T, T, T, T, T, T, T, T, T, T, O, O, O, O, O, O, O, O, O, O, O, O, O, O, O, O, O, O, O, O, O, O, O, O, O] rfl rfl (any_of HT_.out (by kernel_rfl)) (fun _ _ _ h => h) (Or.inl ⟨by rfl, ?_⟩) ?_ ?_; rotate_left; focus (intro w'; go_simp; with_reducible rfl)
  rotate_left; focus (simp only [Act.put, List.setIfInBounds_toArray, List.set_cons_zero, List.set_cons_succ, i64_w, i32_w]; rfl)
  refine pure_ (i := 11) (N := some 62) (v := ?_) (a' := ?_) #[T, T, T, T, T, T, T, T, T, T, T, T, O, O, O, O, O, O, O, O, O, O, O, O, O, O, O, O, O, O, O, O, O, O, O, O] rfl rfl (any_of HT_.out (by kernel_rfl)) (fun _ _ _ h => h) (Or.inl ⟨by rfl, ?_⟩) ?_ ?_; rotate_left; focus (intro w'; go_simp; with_reducible rfl)
  rotate_left; focus (simp only [Act.put, List.setIfInBounds_toArray, List.set_cons_zero, List.set_cons_succ, i64_w, i32_w]; rfl)
  refine pure_ (i := 12) (N := some 63) (v := ?_) (a' := ?_) #[T, T, T, T, T, T, T, T, T, T, T, T, T, O, O, O, O, O, O, O, O, O, O, O, O, O, O, O, O, O, O, O, O, O, O, O] rfl rfl (any_of HT_.out (by kernel_rfl)) (fun _ _ _ h => h) (Or.inl ⟨by rfl, ?_⟩) ?_ ?_; rotate_left; focus (intro w'; go_simp; with_reducible rfl)
  rotate_left; focus (simp only [Act.put, List.setIfInBounds_toArray, List.set_cons_zero, List.set_cons_succ, i64_w, i32_w]; rfl)
  refine pure_ (i := 13) (N := some 64) (v := ?_) (a' := ?_) #[T, T, T, T, T, T, T, T, T, T, T, T, T, T, O, O, O, O, O, O, O, O, O, O, O, O, O, O, O, O, O, O, O, O, O, O] rfl rfl (any_of HT_.out (by kernel_rfl)) (fun _ _ _ h => h) (Or.inl ⟨by rfl, ?_⟩) ?_ ?_; rotate_left; focus (intro w'; go_simp; with_reducible rfl)
  rotate_left; focus (simp only [Act.put, List.setIfInBounds_toArray, List.set_cons_zero, List.set_cons_succ, i64_w, i32_w]; rfl)
  refine pure_ (i := 14) (N := some 65) (v := ?_) (a' := ?_) #[T, T, T, T, T, T, T, T, T, T, T, T, T, T, T, O, O, O, O, O, O, O, O, O, O, O, O, O, O, O, O, O, O, O, O, O] rfl rfl (any_of HT_.out (by kernel_rfl)) (fun _ _ _ h => h) (Or.inl ⟨by rfl, ?_⟩) ?_ ?_; rotate_left; focus (intro w'; go_simp; with_reducible rfl)
  rotate_left; focus (simp only [Act.put, List.setIfInBounds_toArray, List.set_cons_zero, List.set_cons_succ, i64_w, i32_w]; rfl)
  refine pure_ (i := 15) (N := some 66) (v := ?_) (a' := ?_) #[T, T, T, T, T, T, T, T, T, T, T, T, T, T, T, T, O, O, O, O, O, O, O, O, O, O, O, O, O, O, O, O, O, O, O, O] rfl rfl (any_of HT_.out (by kernel_rfl)) (fun _ _ _ h => h) (Or.inl ⟨by rfl, ?_⟩) ?_ ?_; rotate_left; focus (intro w'; go_simp; with_reducible rfl)
  rotate_left; focus (simp only [Act.put, List.setIfInBounds_toArray, List.set_cons_zero, List.set_cons_succ, i64_w, i32_w]; rfl)
  refine pure_ (i := 16) (N := some 67) (v := ?_) (a' := ?_) #[T, T, T, T, T, T, T, T, T, T, T, T, T, T, T, T, T, O, O, O, O, O, O, O, O, O, O, O, O, O, O, O, O, O, O, O] rfl rfl (any_of HT_.out (by kernel_rfl)) (fun _ _ _ h => h) (Or.inl ⟨by rfl, ?_⟩) ?_ ?_; rotate_left; focus (intro w'; go_simp; with_reducible rfl)
  rotate_left; focus (simp only [Act.put, List.setIfInBounds_toArray, List.set_cons_zero, List.set_cons_succ, i64_w, i32_w]; rfl)
  refine take_ (i := 17) (N := some 68) (v := ?_) (a' := ?_) #[T, T, T, T, T, T, T, T, T, T, T, T, T, T, T, T, T, T, O, O, O, O, O, O, O, O, O, O, O, O, O, O, O, O, O, O] rfl rfl (take_ofW HT_.out HW_.out (by kernel_rfl)) (fun _ _ _ h => h) (Or.inl ⟨by rfl, ?_⟩) hHeld ?_ ?_; rotate_left; focus (rintro w' ⟨s0, s1, s2, s3, s4, s5, s6, s7, s8, s9, s10, s11⟩; go_simp; with_reducible rfl)
  rotate_left; focus (simp only [Act.put, List.setIfInBounds_toArray, List.set_cons_zero, List.set_cons_succ, i64_w, i32_w]; rfl)
  refine take_ (i := 18) (N := some 69) (v := ?_) (a' := ?_) #[T, T, T, T, T, T, T, T, T, T, T, T, T, T, T, T, T, T, T, O, O, O, O, O, O, O, O, O, O, O, O, O, O, O, O, O] rfl rfl (take_ofW HT_.out HW_.out (by kernel_rfl)) (fun _ _ _ h => h) (Or.inl ⟨by rfl, ?_⟩) hHeld ?_ ?_; rotate_left; focus (rintro w' ⟨s0, s1, s2, s3, s4, s5, s6, s7, s8, s9, s10, s11⟩; go_simp; with_reducible rfl)
  rotate_left; focus (simp only [Act.put, List.setIfInBounds_toArray, List.set_cons_zero, List.set_cons_succ, i64_w, i32_w]; rfl)
  refine pure_ (i := 19) (N := some 70) (v := ?_) (a' := ?_) #[T, T, T, T, T, T, T, T, T, T, T, T, T, T, T, T, T, T, T, T, O, O, O, O, O, O, O, O, O, O, O, O, O, O, O, O] rfl rfl (any_of HT_.out (by kernel_rfl)) (fun _ _ _ h => h) (Or.inl ⟨by rfl, ?_⟩) ?_ ?_; rotate_left; focus (intro w'; go_simp; with_reducible rfl)
  rotate_left; focus (simp only [Act.put, List.setIfInBounds_toArray, List.set_cons_zero, List.set_cons_succ, i64_w, i32_w]; rfl)
  refine pure_ (i := 20) (N := some 71) (v := ?_) (a' := ?_) #[T, T, T, T, T, T, T, T, T, T, T, T, T, T, T, T, T, T, T, T, T, O, O, O, O, O, O, O, O, O, O, O, O, O, O, O] rfl rfl (any_of HT_.out (by kernel_rfl)) (fun _ _ _ h => h) (Or.inl ⟨by rfl, ?_⟩) ?_ ?_; rotate_left; focus (intro w'; go_simp; with_reducible rfl)
  rotate_left; focus (simp only [Act.put, List.setIfInBounds_toArray, List.set_cons_zero, List.set_cons_succ, i64_w, i32_w]; rfl)
  refine pure_ (i := 21) (N := some 72) (v := ?_) (a' := ?_) #[T, T, T, T, T, T, T, T, T, T, T, T, T, T, T, T, T, T, T, T, T, T, O, O, O, O, O, O, O, O, O, O, O, O, O, O] rfl rfl (any_of HT_.out (by kernel_rfl)) (fun _ _ _ h => h) (Or.inl ⟨by rfl, ?_⟩) ?_ ?_; rotate_left; focus (intro w'; go_simp; with_reducible rfl)
  rotate_left; focus (simp only [Act.put, List.setIfInBounds_toArray, List.set_cons_zero, List.set_cons_succ, i64_w, i32_w]; rfl)
  refine pure_ (i := 22) (N := some 73) (v := ?_) (a' := ?_) #[T, T, T, T, T, T, T, T, T, T, T, T, T, T, T, T, T, T, T, T, T, T, T, O, O, O, O, O, O, O, O, O, O, O, O, O] rfl rfl (any_of HT_.out (by kernel_rfl)) (fun _ _ _ h => h) (Or.inl ⟨by rfl, ?_⟩) ?_ ?_; rotate_left; focus (intro w'; go_simp; with_reducible rfl)
  rotate_left; focus (simp only [Act.put, List.setIfInBounds_toArray, List.set_cons_zero, List.set_cons_succ, i64_w, i32_w]; rfl)
  refine pure_ (i := 23) (N := some 74) (v := ?_) (a' := ?_) #[T, T, T, T, T, T, T, T, T, T, T, T, T, T, T, T, T, T, T, T, T, T, T, T, O, O, O, O, O, O, O, O, O, O, O, O] rfl rfl (any_of HT_.out (by kernel_rfl)) (fun _ _ _ h => h) (Or.inl ⟨by rfl, ?_⟩) ?_ ?_; rotate_left; focus (intro w'; go_simp; with_reducible rfl)
  rotate_left; focus (simp only [Act.put, List.setIfInBounds_toArray, List.set_cons_zero, List.set_cons_succ, i64_w, i32_w]; rfl)
  refine pure_ (i := 24) (N := some 75) (v := ?_) (a' := ?_) #[T, T, T, T, T, T, T, T, T, T, T, T, T, T, T, T, T, T, T, T, T, T, T, T, T, O, O, O, O, O, O, O, O, O, O, O] rfl rfl (any_of HT_.out (by kernel_rfl)) (fun _ _ _ h => h) (Or.inl ⟨by rfl, ?_⟩) ?_ ?_; rotate_left; focus (intro w'; go_simp; with_reducible rfl)
  rotate_left; focus (simp only [Act.put, List.setIfInBounds_toArray, List.set_cons_zero, List.set_cons_succ, i64_w, i32_w]; rfl)
  refine take_ (i := 25) (N := some 76) (v := ?_) (a' := ?_) #[T, T, T, T, T, T, T, T, T, T, T, T, T, T, T, T, T, T, T, T, T, T, T, T, T, T, O, O, O, O, O, O, O, O, O, O] rfl rfl (take_ofW HT_.out HW_.out (by kernel_rfl)) (fun _ _ _ h => h) (Or.inl ⟨by rfl, ?_⟩) hHeld ?_ ?_; rotate_left; focus (rintro w' ⟨s0, s1, s2, s3, s4, s5, s6, s7, s8, s9, s10, s11⟩; go_simp; with_reducible rfl)
  rotate_left; focus (simp only [Act.put, List.setIfInBounds_toArray, List.set_cons_zero, List.set_cons_succ, i64_w, i32_w]; rfl)
  refine take_ (i := 27) (N := some 78) (v := ?_) (a' := ?_) #[T, T, T, T, T, T, T, T, T, T, T, T, T, T, T, T, T, T, T, T, T, T, T, T, T, T, O, T, O, O, O, O, O, O, O, O] rfl rfl (take_ofW HT_.out HW_.out (by kernel_rfl)) (fun _ _ _ h => h) (Or.inl ⟨by rfl, ?_⟩) hHeld ?_ ?_; rotate_left; focus (rintro w' ⟨s0, s1, s2, s3, s4, s5, s6, s7, s8, s9, s10, s11⟩; go_simp; with_reducible rfl)
  rotate_left; focus (simp only [Act.put, List.setIfInBounds_toArray, List.set_cons_zero, List.set_cons_succ, i64_w, i32_w]; rfl)
  refine take_ (i := 29) (N := some 80) (v := ?_) (a' := ?_) #[T, T, T, T, T, T, T, T, T, T, T, T, T, T, T, T, T, T, T, T, T, T, T, T, T, T, O, T, O, T, O, O, O, O, O, O] rfl rfl (take_ofW HT_.out HW_.out (by kernel_rfl)) (fun _ _ _ h => h) (Or.inl ⟨by rfl, ?_⟩) hHeld ?_ ?_; rotate_left; focus (rintro w' ⟨s0, s1, s2, s3, s4, s5, s6, s7, s8, s9, s10, s11⟩; go_simp; with_reducible rfl)
  rotate_left; focus (simp only [Act.put, List.setIfInBounds_toArray, List.set_cons_zero, List.set_cons_succ, i64_w, i32_w]; rfl)
  refine one_ (i := 26) (N := some 77) #[T, T, T, T, T, T, T, T, T, T, T, T, T, T, T, T, T, T, T, T, T, T, T, T, T, T, T, T, O, T, O, O, O, O, O, O] rfl rfl (one_of HT_.out (by kernel_rfl)) (by decide) (fun K hK => ?_)
  refine goes_ Try.func26 (by kernel_rfl) rfl #[.agg #[.int .i64 t995, .int .u64 t996]] (by rfl) rfl rfl (by (try simp only [List.map_toArray, List.map_cons, List.map_nil]); first | done | rfl | (simp only [List.length_drop, List.length_take]; rfl)) ?_
  with_reducible refine (wide_Sign.calls t995 t996 t1004 _ A17.out).mono ?_
  rintro e w69 ⟨rfl, hb⟩
  refine ⟨_, rfl, ?_⟩
  replace BK979 := kb BK979 hb
  replace BK980 := kb BK980 hb
  replace BK986 := kb BK986 hb
  replace BK990 := kb BK990 hb
  replace BK994 := kb BK994 hb
  replace BK998 := kb BK998 hb
  replace BK1002 := kb BK1002 hb
  replace HB := kB HB hb
  (try clear hb)
  (try clear hb2)
  (try clear hk)
  (try clear hi)
  refine hK.out _ _ ⟨kc BK990 0, kc BK990 1, kc BK994 0, kc BK994 1, kc BK998 0, kc BK998 1, kc BK1002 0, kc BK1002 1, kc BK979 0, kc BK979 1, kc BK980 0, kc BK980 1⟩ (fun hHeld => ?_)
  clear hK K
  refine norm_ (a' := ?_) ?_ ?_
  rotate_left
  · show Act.put _ (some 77) _ = _
    simp only [Act.put, List.setIfInBounds_toArray, List.set_cons_zero, List.set_cons_succ, i64_w, i32_w]
    rfl
  refine one_ (i := 28) (N := some 79) #[T, T, T, T, T, T, T, T, T, T, T, T, T, T, T, T, T, T, T, T, T, T, T, T, T, T, T, T, T, T, O, O, O, O, O, O] rfl rfl (one_of HT_.out (by kernel_rfl)) (by decide) (fun K hK => ?_)
  refine goes_ Try.func26 (by kernel_rfl) rfl #[.agg #[.int .i64 a0_0, .int .u64 a0_1]] (by rfl) rfl rfl (by (try simp only [List.map_toArray, List.map_cons, List.map_nil]); first | done | rfl | (simp only [List.length_drop, List.length_take]; rfl)) ?_
  with_reducible refine (wide_Sign.calls a0_0 a0_1 t1005 _ A18.out).mono ?_
  rintro e w70 ⟨rfl, hb⟩
  refine ⟨_, rfl, ?_⟩
  replace BK979 := kb BK979 hb
  replace BK980 := kb BK980 hb
  replace BK986 := kb BK986 hb
  replace BK990 := kb BK990 hb
  replace BK994 := kb BK994 hb
  replace BK998 := kb BK998 hb
  replace BK1002 := kb BK1002 hb
  replace HB := kB HB hb
  (try clear hb)
  (try clear hb2)
  (try clear hk)
  (try clear hi)
  refine hK.out _ _ ⟨kc BK990 0, kc BK990 1, kc BK994 0, kc BK994 1, kc BK998 0, kc BK998 1, kc BK1002 0, kc BK1002 1, kc BK979 0, kc BK979 1, kc BK980 0, kc BK980 1⟩ (fun hHeld => ?_)
  clear hK K
  refine norm_ (a' := ?_) ?_ ?_
  rotate_left
  · show Act.put _ (some 79) _ = _
    simp only [Act.put, List.setIfInBounds_toArray, List.set_cons_zero, List.set_cons_succ, i64_w, i32_w]
    rfl
  refine one_ (i := 30) (N := some 81) #[T, T, T, T, T, T, T, T, T, T, T, T, T, T, T, T, T, T, T, T, T, T, T, T, T, T, T, T, T, T, T, O, O, O, O, O] rfl rfl (one_of HT_.out (by kernel_rfl)) (by decide) (fun K hK => ?_)
  refine goes_ Try.func26 (by kernel_rfl) rfl #[.agg #[.int .i64 a1_0, .int .u64 a1_1]] (by rfl) rfl rfl (by (try simp only [List.map_toArray, List.map_cons, List.map_nil]); first | done | rfl | (simp only [List.length_drop, List.length_take]; rfl)) ?_
  with_reducible refine (wide_Sign.calls a1_0 a1_1 t1006 _ A19.out).mono ?_
  rintro e w71 ⟨rfl, hb⟩
  refine ⟨_, rfl, ?_⟩
  replace BK979 := kb BK979 hb
  replace BK980 := kb BK980 hb
  replace BK986 := kb BK986 hb
  replace BK990 := kb BK990 hb
  replace BK994 := kb BK994 hb
  replace BK998 := kb BK998 hb
  replace BK1002 := kb BK1002 hb
  replace HB := kB HB hb
  (try clear hb)
  (try clear hb2)
  (try clear hk)
  (try clear hi)
  refine hK.out _ _ ⟨kc BK990 0, kc BK990 1, kc BK994 0, kc BK994 1, kc BK998 0, kc BK998 1, kc BK1002 0, kc BK1002 1, kc BK979 0, kc BK979 1, kc BK980 0, kc BK980 1⟩ (fun hHeld => ?_)
  clear hK K
  refine norm_ (a' := ?_) ?_ ?_
  rotate_left
  · show Act.put _ (some 81) _ = _
    simp only [Act.put, List.setIfInBounds_toArray, List.set_cons_zero, List.set_cons_succ, i64_w, i32_w]
    rfl
  refine pure_ (i := 31) (N := some 82) (v := ?_) (a' := ?_) #[T, T, T, T, T, T, T, T, T, T, T, T, T, T, T, T, T, T, T, T, T, T, T, T, T, T, T, T, T, T, T, T, O, O, O, O] rfl rfl (any_of HT_.out (by kernel_rfl)) (fun _ _ _ h => h) (Or.inl ⟨by rfl, ?_⟩) ?_ ?_; rotate_left; focus (intro w'; go_simp; with_reducible rfl)
  rotate_left; focus (simp only [Act.put, List.setIfInBounds_toArray, List.set_cons_zero, List.set_cons_succ, i64_w, i32_w]; rfl)
  refine pure_ (i := 32) (N := some 83) (v := ?_) (a' := ?_) #[T, T, T, T, T, T, T, T, T, T, T, T, T, T, T, T, T, T, T, T, T, T, T, T, T, T, T, T, T, T, T, T, T, O, O, O] rfl rfl (any_of HT_.out (by kernel_rfl)) (fun _ _ _ h => h) (Or.inl ⟨by rfl, ?_⟩) ?_ ?_; rotate_left; focus (intro w'; go_simp; with_reducible rfl)
  rotate_left; focus (simp only [Act.put, List.setIfInBounds_toArray, List.set_cons_zero, List.set_cons_succ, i64_w, i32_w]; rfl)
  refine pure_ (i := 33) (N := some 84) (v := ?_) (a' := ?_) #[T, T, T, T, T, T, T, T, T, T, T, T, T, T, T, T, T, T, T, T, T, T, T, T, T, T, T, T, T, T, T, T, T, T, O, O] rfl rfl (any_of HT_.out (by kernel_rfl)) (fun _ _ _ h => h) (Or.inl ⟨by rfl, ?_⟩) ?_ ?_; rotate_left; focus (intro w'; go_simp; with_reducible rfl)
  rotate_left; focus (simp only [Act.put, List.setIfInBounds_toArray, List.set_cons_zero, List.set_cons_succ, i64_w, i32_w]; rfl)
  refine pure_ (i := 34) (N := some 85) (v := ?_) (a' := ?_) #[T, T, T, T, T, T, T, T, T, T, T, T, T, T, T, T, T, T, T, T, T, T, T, T, T, T, T, T, T, T, T, T, T, T, T, O] rfl rfl (any_of HT_.out (by kernel_rfl)) (fun _ _ _ h => h) (Or.inl ⟨by rfl, ?_⟩) ?_ ?_; rotate_left; focus (intro w'; go_simp; with_reducible rfl)
  rotate_left; focus (simp only [Act.put, List.setIfInBounds_toArray, List.set_cons_zero, List.set_cons_succ, i64_w, i32_w]; rfl)
  refine pure_ (i := 35) (N := some 6) (v := ?_) (a' := ?_) #[T, T, T, T, T, T, T, T, T, T, T, T, T, T, T, T, T, T, T, T, T, T, T, T, T, T, T, T, T, T, T, T, T, T, T, T] rfl rfl (any_of HT_.out (by kernel_rfl)) (fun _ _ _ h => h) (Or.inl ⟨by rfl, ?_⟩) ?_ ?_; rotate_left; focus (intro w'; go_simp; with_reducible rfl)
  rotate_left; focus (simp only [Act.put, List.setIfInBounds_toArray, List.set_cons_zero, List.set_cons_succ, i64_w, i32_w]; rfl)
  refine done_ (done_of HT_.out (by kernel_rfl)) ?_
  try go_wp2
  go_ret
  exact ⟨by first | rfl | (simp [errW_none, errW_some] <;> rfl) | (simp [*, errW_none, errW_some] <;> rfl), ky HB⟩
end Go.Proofs.Ytpjbniihdndlmaa.Q
