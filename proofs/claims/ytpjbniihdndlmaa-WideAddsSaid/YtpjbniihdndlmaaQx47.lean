-- Printed by wip/pp.sh (a session's own turning of the kit's print) for this seat.
import Derived.Test.YtpjbniihdndlmaaQx0
import Derived.Test.YtpjbniihdndlmaaQx12
import Derived.Test.YtpjbniihdndlmaaQx13
import Derived.Test.YtpjbniihdndlmaaQx18
import Derived.Test.YtpjbniihdndlmaaQx19
import Derived.Test.YtpjbniihdndlmaaQx20
import Derived.Test.YtpjbniihdndlmaaQx22
import Derived.Test.YtpjbniihdndlmaaQx30
import Derived.Test.YtpjbniihdndlmaaQx43
namespace Go.Proofs.Ytpjbniihdndlmaa.Q
open Go.RowKit Go.Proofs.YtpjbniihdndlmaaW.PrintWords Go.Proofs.YtpjbniihdndlmaaW.PrintLast Go.Proofs.YtpjbniihdndlmaaW.PrintMore
open Go.Proofs.Ytpjbniihdndlmaa.H
attribute [local go_sem] hq_add64 hq_sub64 hq_not64 add64c_nn sub64c_nn sub64c_le
attribute [local go_sem] max2_int min2_int max_two min_two max_three min_three max_four min_four   -- for this text's walks alone
set_option linter.unusedVariables false
set_option linter.unusedSimpArgs false

/-! ### cobweblaw01_WideAdds: function 12 -/
def cobweblaw01_WideAdds.f (k : Nat) (a0_0 : Int) (a0_1 : Int) (a1_0 : Int) (a1_1 : Int) : Option (Bool) := (cobweblaw01_num.f k a0_0 a0_1).bind fun bt1009 => ((cobweblaw01_num.f k a1_0 a1_1).bind fun bt1013 => ((wide_Add.f a0_0 a0_1 a1_0 a1_1).bind fun bt1019 => ((wide_Sub.f a0_0 a0_1 a1_0 a1_1).bind fun bt1023 => ((wide_Neg.f a0_0 a0_1).bind fun bt1027 => ((cobweblaw01_alive.f k).bind fun t1031 => (if t1031 = true then ((cobwebref01_Add.f k bt1009.1 bt1009.2 bt1013.1 bt1013.2).bind fun bt1032 => ((cobweblaw01_same.f k bt1019.1 bt1019.2.1 bt1019.2.2 bt1032.1 bt1032.2).bind fun t1036 => (if t1036 = true then ((cobwebref01_Neg.f k bt1013.1 bt1013.2).bind fun bt1037 => ((cobwebref01_Add.f k bt1009.1 bt1009.2 bt1037.1 bt1037.2).bind fun bt1041 => ((cobweblaw01_same.f k bt1023.1 bt1023.2.1 bt1023.2.2 bt1041.1 bt1041.2).bind fun t1045 => (if t1045 = true then ((cobwebref01_Neg.f k bt1009.1 bt1009.2).bind fun bt1046 => ((cobweblaw01_same.f k bt1027.1 bt1027.2.1 bt1027.2.2 bt1046.1 bt1046.2).bind fun t1050 => (some t1050))) else (none))))) else (none)))) else (none)))))))
theorem cobweblaw01_WideAdds.mono : ∀ a0 a1 a2 a3 k, LeO (cobweblaw01_WideAdds.f k a0 a1 a2 a3) (cobweblaw01_WideAdds.f (k + 1) a0 a1 a2 a3) := by
  intro a0 a1 a2 a3 k
  unfold cobweblaw01_WideAdds.f
  repeat' first
      | (with_reducible exact cobweblaw01_alive.mono _)
      | (with_reducible exact cobweblaw01_num.mono _ _ _)
      | (with_reducible exact cobweblaw01_same.mono _ _ _ _ _ _)
      | (with_reducible exact cobwebref01_Add.mono _ _ _ _ _)
      | (with_reducible exact cobwebref01_Neg.mono _ _ _)
      | (with_reducible exact LeO.refl _)
      | (with_reducible exact LeO.none _)
      | (with_reducible refine LeO.ite ?_ ?_)
      | (with_reducible refine LeO.bind ?_ (fun _ => ?_))
      | exact cobweblaw01_alive.mono _
      | exact cobweblaw01_num.mono _ _ _
      | exact cobweblaw01_same.mono _ _ _ _ _ _
      | exact cobwebref01_Add.mono _ _ _ _ _
      | exact cobwebref01_Neg.mono _ _ _
      | exact LeO.none _
      | refine LeO.ite ?_ ?_
      | refine LeO.bind ?_ (fun _ => ?_)
def cobweblaw01_WideAdds.T1 : Bool × List (List Nat × List Nat) := (true, [([], []), ([0], [0]), ([], []), ([2, 1], [2]), ([], []), ([], []), ([4, 1, 3, 0, 1, 4, 5], [1, 4]), ([5, 3, 6, 0, 1, 2, 3, 4, 5, 6], [3, 5])])
def cobweblaw01_WideAdds.B1 : List Nat := [0, 1, 0, 7, 0, 0, 63, 127]
theorem cobweblaw01_WideAdds.tab1 : rtab .any (opsOf Try.f12 1) = cobweblaw01_WideAdds.T1 := by kernel_rfl
theorem cobweblaw01_WideAdds.bits1 : waitsOk cobweblaw01_WideAdds.T1.2 cobweblaw01_WideAdds.B1 = true := by kernel_rfl
def cobweblaw01_WideAdds.T5 : Bool × List (List Nat × List Nat) := (true, [([], []), ([0, 0], [0]), ([1], [1]), ([1], [1]), ([1], [1]), ([1], [1]), ([4, 5, 1, 1], [1, 4, 5]), ([2, 3, 6, 6, 1], [1, 2, 3, 6]), ([1, 7], [1, 7]), ([8, 7], [8]), ([9], [9]), ([9], [9]), ([9], [9]), ([9], [9]), ([13, 9, 9], [9, 13]), ([12, 14, 14, 9], [9, 12, 14]), ([10, 11, 15, 15, 9], [9, 10, 11, 15]), ([9, 16], [9, 16]), ([17, 16], [17]), ([18], [18]), ([18], [18]), ([18], [18]), ([21, 18, 18], [18, 21]), ([19, 20, 22, 22, 18], [18, 19, 20, 22]), ([18, 23], [18, 23]), ([24, 23, 0, 1, 2, 3, 4, 5, 6, 7, 8, 9, 10, 11, 12, 13, 14, 15, 16, 17, 18, 19, 20, 21, 22, 23, 24], [24])])
def cobweblaw01_WideAdds.B5 : List Nat := [0, 1, 3, 3, 3, 3, 51, 127, 255, 511, 1023, 1023, 1023, 1023, 9215, 29695, 65535, 131071, 262143, 524287, 524287, 524287, 2621439, 8388607, 16777215, 33554431]
theorem cobweblaw01_WideAdds.tab5 : rtab .any (opsOf Try.f12 5) = cobweblaw01_WideAdds.T5 := by kernel_rfl
theorem cobweblaw01_WideAdds.bits5 : waitsOk cobweblaw01_WideAdds.T5.2 cobweblaw01_WideAdds.B5 = true := by kernel_rfl
set_option maxHeartbeats 8000000 in
set_option maxRecDepth 100000 in
theorem cobweblaw01_WideAdds.calls (k : Nat) (a0_0 : Int) (a0_1 : Int) (a1_0 : Int) (a1_1 : Int) (r : Bool) (w : World) (h : cobweblaw01_WideAdds.f k a0_0 a0_1 a1_0 a1_1 = some r) :
    Calls Try.prog 12 #[.agg #[.int .i64 a0_0, .int .u64 a0_1], .agg #[.int .i64 a1_0, .int .u64 a1_1]] w fun e w' => e = .returned (.bool r) ∧ Below w.heap.size w w' := by
  have hu24 := Try.underlying24
  have hu32 := Try.underlying32
  have HB := Aside0.mk (Below.refl w.heap.size w)
  have H : ((cobweblaw01_num.f k a0_0 a0_1).bind fun bt1009 => ((cobweblaw01_num.f k a1_0 a1_1).bind fun bt1013 => ((wide_Add.f a0_0 a0_1 a1_0 a1_1).bind fun bt1019 => ((wide_Sub.f a0_0 a0_1 a1_0 a1_1).bind fun bt1023 => ((wide_Neg.f a0_0 a0_1).bind fun bt1027 => ((cobweblaw01_alive.f k).bind fun t1031 => (if t1031 = true then ((cobwebref01_Add.f k bt1009.1 bt1009.2 bt1013.1 bt1013.2).bind fun bt1032 => ((cobweblaw01_same.f k bt1019.1 bt1019.2.1 bt1019.2.2 bt1032.1 bt1032.2).bind fun t1036 => (if t1036 = true then ((cobwebref01_Neg.f k bt1013.1 bt1013.2).bind fun bt1037 => ((cobwebref01_Add.f k bt1009.1 bt1009.2 bt1037.1 bt1037.2).bind fun bt1041 => ((cobweblaw01_same.f k bt1023.1 bt1023.2.1 bt1023.2.2 bt1041.1 bt1041.2).bind fun t1045 => (if t1045 = true then ((cobwebref01_Neg.f k bt1009.1 bt1009.2).bind fun bt1046 => ((cobweblaw01_same.f k bt1027.1 bt1027.2.1 bt1027.2.2 bt1046.1 bt1046.2).bind fun t1050 => (some t1050))) else (none))))) else (none)))) else (none)))))))) = some r := h
  clear h
  replace H := Option.bind_eq_some_iff.mp H
  obtain ⟨⟨t1009, t1010⟩, A30, H⟩ := H
  replace H : ((cobweblaw01_num.f k a1_0 a1_1).bind fun bt1013 => ((wide_Add.f a0_0 a0_1 a1_0 a1_1).bind fun bt1019 => ((wide_Sub.f a0_0 a0_1 a1_0 a1_1).bind fun bt1023 => ((wide_Neg.f a0_0 a0_1).bind fun bt1027 => ((cobweblaw01_alive.f k).bind fun t1031 => (if t1031 = true then ((cobwebref01_Add.f k t1009 t1010 bt1013.1 bt1013.2).bind fun bt1032 => ((cobweblaw01_same.f k bt1019.1 bt1019.2.1 bt1019.2.2 bt1032.1 bt1032.2).bind fun t1036 => (if t1036 = true then ((cobwebref01_Neg.f k bt1013.1 bt1013.2).bind fun bt1037 => ((cobwebref01_Add.f k t1009 t1010 bt1037.1 bt1037.2).bind fun bt1041 => ((cobweblaw01_same.f k bt1023.1 bt1023.2.1 bt1023.2.2 bt1041.1 bt1041.2).bind fun t1045 => (if t1045 = true then ((cobwebref01_Neg.f k t1009 t1010).bind fun bt1046 => ((cobweblaw01_same.f k bt1027.1 bt1027.2.1 bt1027.2.2 bt1046.1 bt1046.2).bind fun t1050 => (some t1050))) else (none))))) else (none)))) else (none))))))) = some r := H
  have A3 := Aside0.mk A30
  clear A30
  replace H := Option.bind_eq_some_iff.mp H
  obtain ⟨⟨t1013, t1014⟩, A40, H⟩ := H
  replace H : ((wide_Add.f a0_0 a0_1 a1_0 a1_1).bind fun bt1019 => ((wide_Sub.f a0_0 a0_1 a1_0 a1_1).bind fun bt1023 => ((wide_Neg.f a0_0 a0_1).bind fun bt1027 => ((cobweblaw01_alive.f k).bind fun t1031 => (if t1031 = true then ((cobwebref01_Add.f k t1009 t1010 t1013 t1014).bind fun bt1032 => ((cobweblaw01_same.f k bt1019.1 bt1019.2.1 bt1019.2.2 bt1032.1 bt1032.2).bind fun t1036 => (if t1036 = true then ((cobwebref01_Neg.f k t1013 t1014).bind fun bt1037 => ((cobwebref01_Add.f k t1009 t1010 bt1037.1 bt1037.2).bind fun bt1041 => ((cobweblaw01_same.f k bt1023.1 bt1023.2.1 bt1023.2.2 bt1041.1 bt1041.2).bind fun t1045 => (if t1045 = true then ((cobwebref01_Neg.f k t1009 t1010).bind fun bt1046 => ((cobweblaw01_same.f k bt1027.1 bt1027.2.1 bt1027.2.2 bt1046.1 bt1046.2).bind fun t1050 => (some t1050))) else (none))))) else (none)))) else (none)))))) = some r := H
  have A4 := Aside0.mk A40
  clear A40
  replace H := Option.bind_eq_some_iff.mp H
  obtain ⟨⟨t1019, t1020, t1021⟩, A50, H⟩ := H
  replace H : ((wide_Sub.f a0_0 a0_1 a1_0 a1_1).bind fun bt1023 => ((wide_Neg.f a0_0 a0_1).bind fun bt1027 => ((cobweblaw01_alive.f k).bind fun t1031 => (if t1031 = true then ((cobwebref01_Add.f k t1009 t1010 t1013 t1014).bind fun bt1032 => ((cobweblaw01_same.f k t1019 t1020 t1021 bt1032.1 bt1032.2).bind fun t1036 => (if t1036 = true then ((cobwebref01_Neg.f k t1013 t1014).bind fun bt1037 => ((cobwebref01_Add.f k t1009 t1010 bt1037.1 bt1037.2).bind fun bt1041 => ((cobweblaw01_same.f k bt1023.1 bt1023.2.1 bt1023.2.2 bt1041.1 bt1041.2).bind fun t1045 => (if t1045 = true then ((cobwebref01_Neg.f k t1009 t1010).bind fun bt1046 => ((cobweblaw01_same.f k bt1027.1 bt1027.2.1 bt1027.2.2 bt1046.1 bt1046.2).bind fun t1050 => (some t1050))) else (none))))) else (none)))) else (none))))) = some r := H
  have A5 := Aside0.mk A50
  clear A50
  replace H := Option.bind_eq_some_iff.mp H
  obtain ⟨⟨t1023, t1024, t1025⟩, A60, H⟩ := H
  replace H : ((wide_Neg.f a0_0 a0_1).bind fun bt1027 => ((cobweblaw01_alive.f k).bind fun t1031 => (if t1031 = true then ((cobwebref01_Add.f k t1009 t1010 t1013 t1014).bind fun bt1032 => ((cobweblaw01_same.f k t1019 t1020 t1021 bt1032.1 bt1032.2).bind fun t1036 => (if t1036 = true then ((cobwebref01_Neg.f k t1013 t1014).bind fun bt1037 => ((cobwebref01_Add.f k t1009 t1010 bt1037.1 bt1037.2).bind fun bt1041 => ((cobweblaw01_same.f k t1023 t1024 t1025 bt1041.1 bt1041.2).bind fun t1045 => (if t1045 = true then ((cobwebref01_Neg.f k t1009 t1010).bind fun bt1046 => ((cobweblaw01_same.f k bt1027.1 bt1027.2.1 bt1027.2.2 bt1046.1 bt1046.2).bind fun t1050 => (some t1050))) else (none))))) else (none)))) else (none)))) = some r := H
  have A6 := Aside0.mk A60
  clear A60
  replace H := Option.bind_eq_some_iff.mp H
  obtain ⟨⟨t1027, t1028, t1029⟩, A70, H⟩ := H
  replace H : ((cobweblaw01_alive.f k).bind fun t1031 => (if t1031 = true then ((cobwebref01_Add.f k t1009 t1010 t1013 t1014).bind fun bt1032 => ((cobweblaw01_same.f k t1019 t1020 t1021 bt1032.1 bt1032.2).bind fun t1036 => (if t1036 = true then ((cobwebref01_Neg.f k t1013 t1014).bind fun bt1037 => ((cobwebref01_Add.f k t1009 t1010 bt1037.1 bt1037.2).bind fun bt1041 => ((cobweblaw01_same.f k t1023 t1024 t1025 bt1041.1 bt1041.2).bind fun t1045 => (if t1045 = true then ((cobwebref01_Neg.f k t1009 t1010).bind fun bt1046 => ((cobweblaw01_same.f k t1027 t1028 t1029 bt1046.1 bt1046.2).bind fun t1050 => (some t1050))) else (none))))) else (none)))) else (none))) = some r := H
  have A7 := Aside0.mk A70
  clear A70
  replace H := Option.bind_eq_some_iff.mp H
  obtain ⟨t1031, A80, H⟩ := H
  replace H : (if t1031 = true then ((cobwebref01_Add.f k t1009 t1010 t1013 t1014).bind fun bt1032 => ((cobweblaw01_same.f k t1019 t1020 t1021 bt1032.1 bt1032.2).bind fun t1036 => (if t1036 = true then ((cobwebref01_Neg.f k t1013 t1014).bind fun bt1037 => ((cobwebref01_Add.f k t1009 t1010 bt1037.1 bt1037.2).bind fun bt1041 => ((cobweblaw01_same.f k t1023 t1024 t1025 bt1041.1 bt1041.2).bind fun t1045 => (if t1045 = true then ((cobwebref01_Neg.f k t1009 t1010).bind fun bt1046 => ((cobweblaw01_same.f k t1027 t1028 t1029 bt1046.1 bt1046.2).bind fun t1050 => (some t1050))) else (none))))) else (none)))) else (none)) = some r := H
  have A8 := Aside0.mk A80
  clear A80
  by_cases c9 : t1031 = true
  rotate_left
  · replace c9 := Bool.eq_false_iff.mpr c9
    subst c9
    have H1 : (none) = some r := by rw [if_neg (show ¬ (false = true) by decide)] at H; exact H
    clear H; have H := H1; clear H1
    exact absurd H (by simp)

  subst c9
  have H1 : ((cobwebref01_Add.f k t1009 t1010 t1013 t1014).bind fun bt1032 => ((cobweblaw01_same.f k t1019 t1020 t1021 bt1032.1 bt1032.2).bind fun t1036 => (if t1036 = true then ((cobwebref01_Neg.f k t1013 t1014).bind fun bt1037 => ((cobwebref01_Add.f k t1009 t1010 bt1037.1 bt1037.2).bind fun bt1041 => ((cobweblaw01_same.f k t1023 t1024 t1025 bt1041.1 bt1041.2).bind fun t1045 => (if t1045 = true then ((cobwebref01_Neg.f k t1009 t1010).bind fun bt1046 => ((cobweblaw01_same.f k t1027 t1028 t1029 bt1046.1 bt1046.2).bind fun t1050 => (some t1050))) else (none))))) else (none)))) = some r := by rw [if_pos rfl] at H; exact H
  clear H; have H := H1; clear H1
  replace H := Option.bind_eq_some_iff.mp H
  obtain ⟨⟨t1032, t1033⟩, A100, H⟩ := H
  replace H : ((cobweblaw01_same.f k t1019 t1020 t1021 t1032 t1033).bind fun t1036 => (if t1036 = true then ((cobwebref01_Neg.f k t1013 t1014).bind fun bt1037 => ((cobwebref01_Add.f k t1009 t1010 bt1037.1 bt1037.2).bind fun bt1041 => ((cobweblaw01_same.f k t1023 t1024 t1025 bt1041.1 bt1041.2).bind fun t1045 => (if t1045 = true then ((cobwebref01_Neg.f k t1009 t1010).bind fun bt1046 => ((cobweblaw01_same.f k t1027 t1028 t1029 bt1046.1 bt1046.2).bind fun t1050 => (some t1050))) else (none))))) else (none))) = some r := H
  have A10 := Aside0.mk A100
  clear A100
  replace H := Option.bind_eq_some_iff.mp H
  obtain ⟨t1036, A110, H⟩ := H
  replace H : (if t1036 = true then ((cobwebref01_Neg.f k t1013 t1014).bind fun bt1037 => ((cobwebref01_Add.f k t1009 t1010 bt1037.1 bt1037.2).bind fun bt1041 => ((cobweblaw01_same.f k t1023 t1024 t1025 bt1041.1 bt1041.2).bind fun t1045 => (if t1045 = true then ((cobwebref01_Neg.f k t1009 t1010).bind fun bt1046 => ((cobweblaw01_same.f k t1027 t1028 t1029 bt1046.1 bt1046.2).bind fun t1050 => (some t1050))) else (none))))) else (none)) = some r := H
  have A11 := Aside0.mk A110
  clear A110
  by_cases c12 : t1036 = true
  rotate_left
  · replace c12 := Bool.eq_false_iff.mpr c12
    subst c12
    have H1 : (none) = some r := by rw [if_neg (show ¬ (false = true) by decide)] at H; exact H
    clear H; have H := H1; clear H1
    exact absurd H (by simp)
  subst c12
  have H1 : ((cobwebref01_Neg.f k t1013 t1014).bind fun bt1037 => ((cobwebref01_Add.f k t1009 t1010 bt1037.1 bt1037.2).bind fun bt1041 => ((cobweblaw01_same.f k t1023 t1024 t1025 bt1041.1 bt1041.2).bind fun t1045 => (if t1045 = true then ((cobwebref01_Neg.f k t1009 t1010).bind fun bt1046 => ((cobweblaw01_same.f k t1027 t1028 t1029 bt1046.1 bt1046.2).bind fun t1050 => (some t1050))) else (none))))) = some r := by rw [if_pos rfl] at H; exact H
  clear H; have H := H1; clear H1
  replace H := Option.bind_eq_some_iff.mp H
  obtain ⟨⟨t1037, t1038⟩, A130, H⟩ := H
  replace H : ((cobwebref01_Add.f k t1009 t1010 t1037 t1038).bind fun bt1041 => ((cobweblaw01_same.f k t1023 t1024 t1025 bt1041.1 bt1041.2).bind fun t1045 => (if t1045 = true then ((cobwebref01_Neg.f k t1009 t1010).bind fun bt1046 => ((cobweblaw01_same.f k t1027 t1028 t1029 bt1046.1 bt1046.2).bind fun t1050 => (some t1050))) else (none)))) = some r := H
  have A13 := Aside0.mk A130
  clear A130
  replace H := Option.bind_eq_some_iff.mp H
  obtain ⟨⟨t1041, t1042⟩, A140, H⟩ := H
  replace H : ((cobweblaw01_same.f k t1023 t1024 t1025 t1041 t1042).bind fun t1045 => (if t1045 = true then ((cobwebref01_Neg.f k t1009 t1010).bind fun bt1046 => ((cobweblaw01_same.f k t1027 t1028 t1029 bt1046.1 bt1046.2).bind fun t1050 => (some t1050))) else (none))) = some r := H
  have A14 := Aside0.mk A140
  clear A140
  replace H := Option.bind_eq_some_iff.mp H
  obtain ⟨t1045, A150, H⟩ := H
  replace H : (if t1045 = true then ((cobwebref01_Neg.f k t1009 t1010).bind fun bt1046 => ((cobweblaw01_same.f k t1027 t1028 t1029 bt1046.1 bt1046.2).bind fun t1050 => (some t1050))) else (none)) = some r := H
  have A15 := Aside0.mk A150
  clear A150
  by_cases c16 : t1045 = true
  rotate_left
  · replace c16 := Bool.eq_false_iff.mpr c16
    subst c16
    have H1 : (none) = some r := by rw [if_neg (show ¬ (false = true) by decide)] at H; exact H
    clear H; have H := H1; clear H1
    exact absurd H (by simp)
  subst c16
  have H1 : ((cobwebref01_Neg.f k t1009 t1010).bind fun bt1046 => ((cobweblaw01_same.f k t1027 t1028 t1029 bt1046.1 bt1046.2).bind fun t1050 => (some t1050))) = some r := by rw [if_pos rfl] at H; exact H
  clear H; have H := H1; clear H1
  replace H := Option.bind_eq_some_iff.mp H
  obtain ⟨⟨t1046, t1047⟩, A170, H⟩ := H
  replace H : ((cobweblaw01_same.f k t1027 t1028 t1029 t1046 t1047).bind fun t1050 => (some t1050)) = some r := H
  have A17 := Aside0.mk A170
  clear A170
  replace H := Option.bind_eq_some_iff.mp H
  obtain ⟨t1050, A180, H⟩ := H
  replace H : (some t1050) = some r := H
  have A18 := Aside0.mk A180
  clear A180
  obtain rfl := Option.some.inj H
  go_enter Try.func12, Try.ntmps12
  try go_wp2_with (first | ((with_reducible refine gate_dst (N := 2) rfl ?_); refine box_event ?hg (N := 2) ?hd (cs := #[.int .i64 a0_0, .int .u64 a0_1]) (t := 24) ?hr ?_; (case hd => rfl); (case hg => rfl); (case hr => first | (go_simp; done) | (go_simp; rfl)); intro gb1007 hg w19 hbox hb; have BK1007 := Aside0.mk (hbox); have GW1007 := kS HB hg; have GE1007 := kS HB hg; replace HB := kB HB hb; clear hb hbox hg) | ((with_reducible refine gate_dst (N := 3) rfl ?_); refine box_event ?hg (N := 3) ?hd (cs := #[.int .i64 a1_0, .int .u64 a1_1]) (t := 24) ?hr ?_; (case hd => rfl); (case hg => rfl); (case hr => first | (go_simp; done) | (go_simp; rfl)); intro gb1008 hg w20 hbox hb; have BK1008 := Aside0.mk (hbox); have GW1008 := kS HB hg; have GE1008 := kS HB hg; have NB1007_1008 := kN BK1007 hg; have NB1008_1007 := kM BK1007 hg; replace BK1007 := kb BK1007 hb; replace HB := kB HB hb; clear hb hbox hg))
  replace BK1007 := Aside0.mk (blk_drew BK1007.out)
  replace BK1008 := Aside0.mk (blk_drew BK1008.out)
  replace HB := Aside0.mk (below_drew1 HB.out)
  refine start_ (n := 8) (S := fun w' => w'.cell? ⟨gb1007, 0, none⟩ = some (.int .i64 a0_0) ∧ w'.cell? ⟨gb1007, 1, none⟩ = some (.int .u64 a0_1) ∧ w'.cell? ⟨gb1008, 0, none⟩ = some (.int .i64 a1_0) ∧ w'.cell? ⟨gb1008, 1, none⟩ = some (.int .u64 a1_1)) (ds := []) #[O, O, O, O, O, O, O, O] (by kernel_rfl) rfl rfl ⟨kc BK1007 0, kc BK1007 1, kc BK1008 0, kc BK1008 1⟩ (fun hHeld => ?_); refine with_tabW cobweblaw01_WideAdds.tab1 cobweblaw01_WideAdds.bits1 (fun HT_ HW_ => ?_)
  generalize w20.drew = w21 at BK1007 BK1008 HB hHeld ⊢
  refine take_ (i := 0) (N := some 13) (v := ?_) (a' := ?_) #[T, O, O, O, O, O, O, O] rfl rfl (take_ofW HT_.out HW_.out (by kernel_rfl)) (fun _ _ _ h => h) (Or.inl ⟨by rfl, ?_⟩) hHeld ?_ ?_; rotate_left; focus (rintro w' ⟨s0, s1, s2, s3⟩; go_simp; with_reducible rfl)
  rotate_left; focus (simp only [Act.put, List.setIfInBounds_toArray, List.set_cons_zero, List.set_cons_succ, i64_w, i32_w]; rfl)
  refine take_ (i := 2) (N := some 15) (v := ?_) (a' := ?_) #[T, O, T, O, O, O, O, O] rfl rfl (take_ofW HT_.out HW_.out (by kernel_rfl)) (fun _ _ _ h => h) (Or.inl ⟨by rfl, ?_⟩) hHeld ?_ ?_; rotate_left; focus (rintro w' ⟨s0, s1, s2, s3⟩; go_simp; with_reducible rfl)
  rotate_left; focus (simp only [Act.put, List.setIfInBounds_toArray, List.set_cons_zero, List.set_cons_succ, i64_w, i32_w]; rfl)
  refine join_ (σ := Value × Value × Nat × Nat) 2 #[T, T, T, T, T, T, O, O] (fun s_ => [(14, .agg #[.bool t1009, s_.1]), (16, .agg #[.bool t1013, s_.2.1]), (5, .pointer (some ⟨s_.2.2.1, 0, none⟩)), (6, .pointer (some ⟨s_.2.2.2, 0, none⟩))]) (fun s_ w' => (w'.cell? ⟨gb1007, 0, none⟩ = some (.int .i64 a0_0) ∧ w'.cell? ⟨gb1007, 1, none⟩ = some (.int .u64 a0_1) ∧ w'.cell? ⟨gb1008, 0, none⟩ = some (.int .i64 a1_0) ∧ w'.cell? ⟨gb1008, 1, none⟩ = some (.int .u64 a1_1)) ∧ (Kd.V (Kd.int .i64) 3 w' w.heap.size (fun k_ => k_ ≠ gb1007 ∧ k_ ≠ gb1008 ∧ k_ ≠ s_.2.2.1 ∧ k_ ≠ s_.2.2.2) s_.1 t1010) ∧ (Kd.V (Kd.int .i64) 3 w' w.heap.size (fun k_ => k_ ≠ gb1007 ∧ k_ ≠ gb1008 ∧ k_ ≠ s_.2.2.1 ∧ k_ ≠ s_.2.2.2) s_.2.1 t1014) ∧ (w'.heap[gb1007]? = some (.cells #[.int .i64 a0_0, .int .u64 a0_1] 24 (0, 0))) ∧ (w'.heap[gb1008]? = some (.cells #[.int .i64 a1_0, .int .u64 a1_1] 24 (0, 0))) ∧ (w'.heap[s_.2.2.1]? = some (.cells #[.bool false, .slice none 0 0] 32 (0, 0))) ∧ (w'.heap[s_.2.2.2]? = some (.cells #[.bool false, .slice none 0 0] 32 (0, 0))) ∧ (w.heap.size ≤ s_.2.2.1) ∧ (w.heap.size ≤ s_.2.2.1) ∧ (gb1007 ≠ s_.2.2.1) ∧ (s_.2.2.1 ≠ gb1007) ∧ (gb1008 ≠ s_.2.2.1) ∧ (s_.2.2.1 ≠ gb1008) ∧ (s_.2.2.2 ≠ s_.2.2.1) ∧ (s_.2.2.1 ≠ s_.2.2.2) ∧ (w.heap.size ≤ s_.2.2.2) ∧ (w.heap.size ≤ s_.2.2.2) ∧ (gb1007 ≠ s_.2.2.2) ∧ (s_.2.2.2 ≠ gb1007) ∧ (gb1008 ≠ s_.2.2.2) ∧ (s_.2.2.2 ≠ gb1008) ∧ (Below w.heap.size w w')) ?_ ?_
  rotate_left
  · intro hJ1_3_4_5
    refine join_ (σ := Value × Value × Nat) 3 #[T, T, T, T, T, O, O, O] (fun s_ => [(14, .agg #[.bool t1009, s_.1]), (16, .agg #[.bool t1013, s_.2.1]), (5, .pointer (some ⟨s_.2.2, 0, none⟩))]) (fun s_ w' => (w'.cell? ⟨gb1007, 0, none⟩ = some (.int .i64 a0_0) ∧ w'.cell? ⟨gb1007, 1, none⟩ = some (.int .u64 a0_1) ∧ w'.cell? ⟨gb1008, 0, none⟩ = some (.int .i64 a1_0) ∧ w'.cell? ⟨gb1008, 1, none⟩ = some (.int .u64 a1_1)) ∧ (Kd.V (Kd.int .i64) 3 w' w.heap.size (fun k_ => k_ ≠ gb1007 ∧ k_ ≠ gb1008 ∧ k_ ≠ s_.2.2) s_.1 t1010) ∧ (Kd.V (Kd.int .i64) 3 w' w.heap.size (fun k_ => k_ ≠ gb1007 ∧ k_ ≠ gb1008 ∧ k_ ≠ s_.2.2) s_.2.1 t1014) ∧ (w'.heap[gb1007]? = some (.cells #[.int .i64 a0_0, .int .u64 a0_1] 24 (0, 0))) ∧ (w'.heap[gb1008]? = some (.cells #[.int .i64 a1_0, .int .u64 a1_1] 24 (0, 0))) ∧ (w'.heap[s_.2.2]? = some (.cells #[.bool false, .slice none 0 0] 32 (0, 0))) ∧ (w.heap.size ≤ s_.2.2) ∧ (w.heap.size ≤ s_.2.2) ∧ (gb1007 ≠ s_.2.2) ∧ (s_.2.2 ≠ gb1007) ∧ (gb1008 ≠ s_.2.2) ∧ (s_.2.2 ≠ gb1008) ∧ (Below w.heap.size w w')) ?_ ?_
    rotate_left
    · intro hJ1_3_4
      refine join_ (σ := Value × Value × Nat) 3 #[T, T, T, T, O, T, O, O] (fun s_ => [(14, .agg #[.bool t1009, s_.1]), (16, .agg #[.bool t1013, s_.2.1]), (6, .pointer (some ⟨s_.2.2, 0, none⟩))]) (fun s_ w' => (w'.cell? ⟨gb1007, 0, none⟩ = some (.int .i64 a0_0) ∧ w'.cell? ⟨gb1007, 1, none⟩ = some (.int .u64 a0_1) ∧ w'.cell? ⟨gb1008, 0, none⟩ = some (.int .i64 a1_0) ∧ w'.cell? ⟨gb1008, 1, none⟩ = some (.int .u64 a1_1)) ∧ (Kd.V (Kd.int .i64) 3 w' w.heap.size (fun k_ => k_ ≠ gb1007 ∧ k_ ≠ gb1008 ∧ k_ ≠ s_.2.2) s_.1 t1010) ∧ (Kd.V (Kd.int .i64) 3 w' w.heap.size (fun k_ => k_ ≠ gb1007 ∧ k_ ≠ gb1008 ∧ k_ ≠ s_.2.2) s_.2.1 t1014) ∧ (w'.heap[gb1007]? = some (.cells #[.int .i64 a0_0, .int .u64 a0_1] 24 (0, 0))) ∧ (w'.heap[gb1008]? = some (.cells #[.int .i64 a1_0, .int .u64 a1_1] 24 (0, 0))) ∧ (w'.heap[s_.2.2]? = some (.cells #[.bool false, .slice none 0 0] 32 (0, 0))) ∧ (w.heap.size ≤ s_.2.2) ∧ (w.heap.size ≤ s_.2.2) ∧ (gb1007 ≠ s_.2.2) ∧ (s_.2.2 ≠ gb1007) ∧ (gb1008 ≠ s_.2.2) ∧ (s_.2.2 ≠ gb1008) ∧ (Below w.heap.size w w')) ?_ ?_
      rotate_left
      · intro hJ1_3_5
        refine join_ (σ := Value × Nat × Nat) 3 #[T, T, T, O, T, T, O, O] (fun s_ => [(14, .agg #[.bool t1009, s_.1]), (5, .pointer (some ⟨s_.2.1, 0, none⟩)), (6, .pointer (some ⟨s_.2.2, 0, none⟩))]) (fun s_ w' => (w'.cell? ⟨gb1007, 0, none⟩ = some (.int .i64 a0_0) ∧ w'.cell? ⟨gb1007, 1, none⟩ = some (.int .u64 a0_1) ∧ w'.cell? ⟨gb1008, 0, none⟩ = some (.int .i64 a1_0) ∧ w'.cell? ⟨gb1008, 1, none⟩ = some (.int .u64 a1_1)) ∧ (Kd.V (Kd.int .i64) 3 w' w.heap.size (fun k_ => k_ ≠ gb1007 ∧ k_ ≠ gb1008 ∧ k_ ≠ s_.2.1 ∧ k_ ≠ s_.2.2) s_.1 t1010) ∧ (w'.heap[gb1007]? = some (.cells #[.int .i64 a0_0, .int .u64 a0_1] 24 (0, 0))) ∧ (w'.heap[gb1008]? = some (.cells #[.int .i64 a1_0, .int .u64 a1_1] 24 (0, 0))) ∧ (w'.heap[s_.2.1]? = some (.cells #[.bool false, .slice none 0 0] 32 (0, 0))) ∧ (w'.heap[s_.2.2]? = some (.cells #[.bool false, .slice none 0 0] 32 (0, 0))) ∧ (w.heap.size ≤ s_.2.1) ∧ (w.heap.size ≤ s_.2.1) ∧ (gb1007 ≠ s_.2.1) ∧ (s_.2.1 ≠ gb1007) ∧ (gb1008 ≠ s_.2.1) ∧ (s_.2.1 ≠ gb1008) ∧ (s_.2.2 ≠ s_.2.1) ∧ (s_.2.1 ≠ s_.2.2) ∧ (w.heap.size ≤ s_.2.2) ∧ (w.heap.size ≤ s_.2.2) ∧ (gb1007 ≠ s_.2.2) ∧ (s_.2.2 ≠ gb1007) ∧ (gb1008 ≠ s_.2.2) ∧ (s_.2.2 ≠ gb1008) ∧ (Below w.heap.size w w')) ?_ ?_
        rotate_left
        · intro hJ1_4_5
          refine join_ (σ := Value × Value) 4 #[T, T, T, T, O, O, O, O] (fun s_ => [(14, .agg #[.bool t1009, s_.1]), (16, .agg #[.bool t1013, s_.2])]) (fun s_ w' => (w'.cell? ⟨gb1007, 0, none⟩ = some (.int .i64 a0_0) ∧ w'.cell? ⟨gb1007, 1, none⟩ = some (.int .u64 a0_1) ∧ w'.cell? ⟨gb1008, 0, none⟩ = some (.int .i64 a1_0) ∧ w'.cell? ⟨gb1008, 1, none⟩ = some (.int .u64 a1_1)) ∧ (Kd.V (Kd.int .i64) 3 w' w.heap.size (fun k_ => k_ ≠ gb1007 ∧ k_ ≠ gb1008) s_.1 t1010) ∧ (Kd.V (Kd.int .i64) 3 w' w.heap.size (fun k_ => k_ ≠ gb1007 ∧ k_ ≠ gb1008) s_.2 t1014) ∧ (w'.heap[gb1007]? = some (.cells #[.int .i64 a0_0, .int .u64 a0_1] 24 (0, 0))) ∧ (w'.heap[gb1008]? = some (.cells #[.int .i64 a1_0, .int .u64 a1_1] 24 (0, 0))) ∧ (Below w.heap.size w w')) ?_ ?_
          rotate_left
          · intro hJ1_3
            refine join_ (σ := Value × Nat) 4 #[T, T, T, O, T, O, O, O] (fun s_ => [(14, .agg #[.bool t1009, s_.1]), (5, .pointer (some ⟨s_.2, 0, none⟩))]) (fun s_ w' => (w'.cell? ⟨gb1007, 0, none⟩ = some (.int .i64 a0_0) ∧ w'.cell? ⟨gb1007, 1, none⟩ = some (.int .u64 a0_1) ∧ w'.cell? ⟨gb1008, 0, none⟩ = some (.int .i64 a1_0) ∧ w'.cell? ⟨gb1008, 1, none⟩ = some (.int .u64 a1_1)) ∧ (Kd.V (Kd.int .i64) 3 w' w.heap.size (fun k_ => k_ ≠ gb1007 ∧ k_ ≠ gb1008 ∧ k_ ≠ s_.2) s_.1 t1010) ∧ (w'.heap[gb1007]? = some (.cells #[.int .i64 a0_0, .int .u64 a0_1] 24 (0, 0))) ∧ (w'.heap[gb1008]? = some (.cells #[.int .i64 a1_0, .int .u64 a1_1] 24 (0, 0))) ∧ (w'.heap[s_.2]? = some (.cells #[.bool false, .slice none 0 0] 32 (0, 0))) ∧ (w.heap.size ≤ s_.2) ∧ (w.heap.size ≤ s_.2) ∧ (gb1007 ≠ s_.2) ∧ (s_.2 ≠ gb1007) ∧ (gb1008 ≠ s_.2) ∧ (s_.2 ≠ gb1008) ∧ (Below w.heap.size w w')) ?_ ?_
            rotate_left
            · intro hJ1_4
              refine join_ (σ := Value × Nat) 4 #[T, T, T, O, O, T, O, O] (fun s_ => [(14, .agg #[.bool t1009, s_.1]), (6, .pointer (some ⟨s_.2, 0, none⟩))]) (fun s_ w' => (w'.cell? ⟨gb1007, 0, none⟩ = some (.int .i64 a0_0) ∧ w'.cell? ⟨gb1007, 1, none⟩ = some (.int .u64 a0_1) ∧ w'.cell? ⟨gb1008, 0, none⟩ = some (.int .i64 a1_0) ∧ w'.cell? ⟨gb1008, 1, none⟩ = some (.int .u64 a1_1)) ∧ (Kd.V (Kd.int .i64) 3 w' w.heap.size (fun k_ => k_ ≠ gb1007 ∧ k_ ≠ gb1008 ∧ k_ ≠ s_.2) s_.1 t1010) ∧ (w'.heap[gb1007]? = some (.cells #[.int .i64 a0_0, .int .u64 a0_1] 24 (0, 0))) ∧ (w'.heap[gb1008]? = some (.cells #[.int .i64 a1_0, .int .u64 a1_1] 24 (0, 0))) ∧ (w'.heap[s_.2]? = some (.cells #[.bool false, .slice none 0 0] 32 (0, 0))) ∧ (w.heap.size ≤ s_.2) ∧ (w.heap.size ≤ s_.2) ∧ (gb1007 ≠ s_.2) ∧ (s_.2 ≠ gb1007) ∧ (gb1008 ≠ s_.2) ∧ (s_.2 ≠ gb1008) ∧ (Below w.heap.size w w')) ?_ ?_
              rotate_left
              · intro hJ1_5
                refine join_ (σ := Nat × Nat) 4 #[T, O, T, O, T, T, O, O] (fun s_ => [(5, .pointer (some ⟨s_.1, 0, none⟩)), (6, .pointer (some ⟨s_.2, 0, none⟩))]) (fun s_ w' => (w'.cell? ⟨gb1007, 0, none⟩ = some (.int .i64 a0_0) ∧ w'.cell? ⟨gb1007, 1, none⟩ = some (.int .u64 a0_1) ∧ w'.cell? ⟨gb1008, 0, none⟩ = some (.int .i64 a1_0) ∧ w'.cell? ⟨gb1008, 1, none⟩ = some (.int .u64 a1_1)) ∧ (w'.heap[gb1007]? = some (.cells #[.int .i64 a0_0, .int .u64 a0_1] 24 (0, 0))) ∧ (w'.heap[gb1008]? = some (.cells #[.int .i64 a1_0, .int .u64 a1_1] 24 (0, 0))) ∧ (w'.heap[s_.1]? = some (.cells #[.bool false, .slice none 0 0] 32 (0, 0))) ∧ (w'.heap[s_.2]? = some (.cells #[.bool false, .slice none 0 0] 32 (0, 0))) ∧ (w.heap.size ≤ s_.1) ∧ (w.heap.size ≤ s_.1) ∧ (gb1007 ≠ s_.1) ∧ (s_.1 ≠ gb1007) ∧ (gb1008 ≠ s_.1) ∧ (s_.1 ≠ gb1008) ∧ (s_.2 ≠ s_.1) ∧ (s_.1 ≠ s_.2) ∧ (w.heap.size ≤ s_.2) ∧ (w.heap.size ≤ s_.2) ∧ (gb1007 ≠ s_.2) ∧ (s_.2 ≠ gb1007) ∧ (gb1008 ≠ s_.2) ∧ (s_.2 ≠ gb1008) ∧ (Below w.heap.size w w')) ?_ ?_
                rotate_left
                · intro hJ4_5
                  refine join_ (σ := Value) 5 #[T, T, T, O, O, O, O, O] (fun s_ => [(14, .agg #[.bool t1009, s_])]) (fun s_ w' => (w'.cell? ⟨gb1007, 0, none⟩ = some (.int .i64 a0_0) ∧ w'.cell? ⟨gb1007, 1, none⟩ = some (.int .u64 a0_1) ∧ w'.cell? ⟨gb1008, 0, none⟩ = some (.int .i64 a1_0) ∧ w'.cell? ⟨gb1008, 1, none⟩ = some (.int .u64 a1_1)) ∧ (Kd.V (Kd.int .i64) 3 w' w.heap.size (fun k_ => k_ ≠ gb1007 ∧ k_ ≠ gb1008) s_ t1010) ∧ (w'.heap[gb1007]? = some (.cells #[.int .i64 a0_0, .int .u64 a0_1] 24 (0, 0))) ∧ (w'.heap[gb1008]? = some (.cells #[.int .i64 a1_0, .int .u64 a1_1] 24 (0, 0))) ∧ (Below w.heap.size w w')) ?_ ?_
                  rotate_left
                  · intro hJ1
                    refine join_ (σ := Nat) 5 #[T, O, T, O, T, O, O, O] (fun s_ => [(5, .pointer (some ⟨s_, 0, none⟩))]) (fun s_ w' => (w'.cell? ⟨gb1007, 0, none⟩ = some (.int .i64 a0_0) ∧ w'.cell? ⟨gb1007, 1, none⟩ = some (.int .u64 a0_1) ∧ w'.cell? ⟨gb1008, 0, none⟩ = some (.int .i64 a1_0) ∧ w'.cell? ⟨gb1008, 1, none⟩ = some (.int .u64 a1_1)) ∧ (w'.heap[gb1007]? = some (.cells #[.int .i64 a0_0, .int .u64 a0_1] 24 (0, 0))) ∧ (w'.heap[gb1008]? = some (.cells #[.int .i64 a1_0, .int .u64 a1_1] 24 (0, 0))) ∧ (w'.heap[s_]? = some (.cells #[.bool false, .slice none 0 0] 32 (0, 0))) ∧ (w.heap.size ≤ s_) ∧ (w.heap.size ≤ s_) ∧ (gb1007 ≠ s_) ∧ (s_ ≠ gb1007) ∧ (gb1008 ≠ s_) ∧ (s_ ≠ gb1008) ∧ (Below w.heap.size w w')) ?_ ?_
                    rotate_left
                    · intro hJ4
                      refine join_ (σ := Nat) 5 #[T, O, T, O, O, T, O, O] (fun s_ => [(6, .pointer (some ⟨s_, 0, none⟩))]) (fun s_ w' => (w'.cell? ⟨gb1007, 0, none⟩ = some (.int .i64 a0_0) ∧ w'.cell? ⟨gb1007, 1, none⟩ = some (.int .u64 a0_1) ∧ w'.cell? ⟨gb1008, 0, none⟩ = some (.int .i64 a1_0) ∧ w'.cell? ⟨gb1008, 1, none⟩ = some (.int .u64 a1_1)) ∧ (w'.heap[gb1007]? = some (.cells #[.int .i64 a0_0, .int .u64 a0_1] 24 (0, 0))) ∧ (w'.heap[gb1008]? = some (.cells #[.int .i64 a1_0, .int .u64 a1_1] 24 (0, 0))) ∧ (w'.heap[s_]? = some (.cells #[.bool false, .slice none 0 0] 32 (0, 0))) ∧ (w.heap.size ≤ s_) ∧ (w.heap.size ≤ s_) ∧ (gb1007 ≠ s_) ∧ (s_ ≠ gb1007) ∧ (gb1008 ≠ s_) ∧ (s_ ≠ gb1008) ∧ (Below w.heap.size w w')) ?_ ?_
                      rotate_left
                      · intro hJ5
                        refine three_ (i := 1) (j := 4) (k := 5) (Ni := some 14) (Nj := some 5) (Nk := some 6) #[T, T, T, O, O, O, O, O] #[T, O, T, O, T, O, O, O] #[T, O, T, O, O, T, O, O] rfl rfl rfl rfl rfl rfl (three_of HT_.out (by kernel_rfl)) (by decide) (by decide) (by decide) (fun K hK => ?_) (fun K hK => ?_) (fun K hK => ?_)
                        · skip
                          refine goes_ Try.func19 (by kernel_rfl) rfl #[.agg #[.int .i64 a0_0, .int .u64 a0_1]] (by rfl) rfl rfl (by (try simp only [List.map_toArray, List.map_cons, List.map_nil]); first | done | rfl | (simp only [List.length_drop, List.length_take]; rfl)) ?_
                          with_reducible refine (cobweblaw01_num.calls k a0_0 a0_1 t1009 t1010 _ A3.out).mono ?_
                          rintro e w22 ⟨v1011, rfl, ho0, hb⟩
                          refine ⟨_, rfl, ?_⟩
                          have HO1012 := Aside0.mk (Kd.V_lower (Kd.V_mono (ok' := fun k_ => k_ ≠ gb1007 ∧ k_ ≠ gb1008) ho0 (fun k_ hk_ => ⟨(Kd.freshB (g := gb1007) (o := .cells #[.int .i64 a0_0, .int .u64 a0_1] 24 (0, 0)) (kx BK1007) k_ hk_), (Kd.freshB (g := gb1008) (o := .cells #[.int .i64 a1_0, .int .u64 a1_1] 24 (0, 0)) (kx BK1008) k_ hk_)⟩)) (below_size (ky HB)))
                          replace BK1007 := kb BK1007 hb
                          replace BK1008 := kb BK1008 hb
                          replace HB := kB HB hb
                          (try clear hb)
                          (try clear hb2)
                          (try clear hk)
                          (try clear hi)
                          (try clear ho0)
                          refine hK.out _ _ ⟨kc BK1007 0, kc BK1007 1, kc BK1008 0, kc BK1008 1⟩ (fun hHeld => ?_)
                          clear hK K
                          refine norm_ (a' := ?_) ?_ ?_
                          rotate_left
                          · show Act.put _ (some 14) _ = _
                            simp only [Act.put, List.setIfInBounds_toArray, List.set_cons_zero, List.set_cons_succ, i64_w, i32_w]
                            rfl
                          exact norm_ (by first | (simp only [putAll, Act.put, List.setIfInBounds_toArray, List.set_cons_zero, List.set_cons_succ]; done) | (simp only [putAll, Act.put, List.setIfInBounds_toArray, List.set_cons_zero, List.set_cons_succ]; rfl)) (hJ1 (v1011) _ ⟨hHeld, (kv HO1012), (kx BK1007), (kx BK1008), (ky HB)⟩)
                        · skip
                          refine box_step ?hg (N := 5) ?hd (cs := #[.bool false, .slice none 0 0]) (t := 32) ?hr ?_; (case hd => rfl); (case hg => rfl); (case hr => first | (go_simp; done) | (go_simp; rfl))
                          intro gb1017 hg w22 hbox hb
                          have BK1017 := Aside0.mk (hbox)
                          have GW1017 := kS HB hg
                          have GE1017 := kS HB hg
                          have NB1007_1017 := kN BK1007 hg
                          have NB1017_1007 := kM BK1007 hg
                          have NB1008_1017 := kN BK1008 hg
                          have NB1017_1008 := kM BK1008 hg
                          replace BK1007 := kb BK1007 hb
                          replace BK1008 := kb BK1008 hb
                          replace HB := kB HB hb
                          clear hb hbox hg
                          refine hK.out _ _ ⟨kc BK1007 0, kc BK1007 1, kc BK1008 0, kc BK1008 1⟩ (fun hHeld => ?_)
                          clear hK K
                          refine norm_ (a' := ?_) ?_ ?_
                          rotate_left
                          · show Act.put _ (some 5) _ = _
                            simp only [Act.put, List.setIfInBounds_toArray, List.set_cons_zero, List.set_cons_succ, i64_w, i32_w]
                            rfl
                          exact norm_ (by first | (simp only [putAll, Act.put, List.setIfInBounds_toArray, List.set_cons_zero, List.set_cons_succ]; done) | (simp only [putAll, Act.put, List.setIfInBounds_toArray, List.set_cons_zero, List.set_cons_succ]; rfl)) (hJ4 (gb1017) _ ⟨hHeld, (kx BK1007), (kx BK1008), (kx BK1017), GW1017.out, GE1017.out, NB1007_1017.out, NB1017_1007.out, NB1008_1017.out, NB1017_1008.out, (ky HB)⟩)
                        · skip
                          refine box_step ?hg (N := 6) ?hd (cs := #[.bool false, .slice none 0 0]) (t := 32) ?hr ?_; (case hd => rfl); (case hg => rfl); (case hr => first | (go_simp; done) | (go_simp; rfl))
                          intro gb1018 hg w22 hbox hb
                          have BK1018 := Aside0.mk (hbox)
                          have GW1018 := kS HB hg
                          have GE1018 := kS HB hg
                          have NB1007_1018 := kN BK1007 hg
                          have NB1018_1007 := kM BK1007 hg
                          have NB1008_1018 := kN BK1008 hg
                          have NB1018_1008 := kM BK1008 hg
                          replace BK1007 := kb BK1007 hb
                          replace BK1008 := kb BK1008 hb
                          replace HB := kB HB hb
                          clear hb hbox hg
                          refine hK.out _ _ ⟨kc BK1007 0, kc BK1007 1, kc BK1008 0, kc BK1008 1⟩ (fun hHeld => ?_)
                          clear hK K
                          refine norm_ (a' := ?_) ?_ ?_
                          rotate_left
                          · show Act.put _ (some 6) _ = _
                            simp only [Act.put, List.setIfInBounds_toArray, List.set_cons_zero, List.set_cons_succ, i64_w, i32_w]
                            rfl
                          exact norm_ (by first | (simp only [putAll, Act.put, List.setIfInBounds_toArray, List.set_cons_zero, List.set_cons_succ]; done) | (simp only [putAll, Act.put, List.setIfInBounds_toArray, List.set_cons_zero, List.set_cons_succ]; rfl)) (hJ5 (gb1018) _ ⟨hHeld, (kx BK1007), (kx BK1008), (kx BK1018), GW1018.out, GE1018.out, NB1007_1018.out, NB1018_1007.out, NB1008_1018.out, NB1018_1008.out, (ky HB)⟩)
                      · skip
                        rintro gb1018 w23 ⟨hS_, h0_, h1_, h2_, h3_, h4_, h5_, h6_, h7_, h8_, h9_⟩
                        have n0_ : Aside0 (w23.heap[gb1007]? = some (.cells #[.int .i64 a0_0, .int .u64 a0_1] 24 (0, 0))) := ⟨h0_⟩
                        have n1_ : Aside0 (w23.heap[gb1008]? = some (.cells #[.int .i64 a1_0, .int .u64 a1_1] 24 (0, 0))) := ⟨h1_⟩
                        have n2_ : Aside0 (w23.heap[gb1018]? = some (.cells #[.bool false, .slice none 0 0] 32 (0, 0))) := ⟨h2_⟩
                        have n3_ : Aside0 (w.heap.size ≤ gb1018) := ⟨h3_⟩
                        have n4_ : Aside0 (w.heap.size ≤ gb1018) := ⟨h4_⟩
                        have n5_ : Aside0 (gb1007 ≠ gb1018) := ⟨h5_⟩
                        have n6_ : Aside0 (gb1018 ≠ gb1007) := ⟨h6_⟩
                        have n7_ : Aside0 (gb1008 ≠ gb1018) := ⟨h7_⟩
                        have n8_ : Aside0 (gb1018 ≠ gb1008) := ⟨h8_⟩
                        have n9_ : Aside0 (Below w.heap.size w w23) := ⟨h9_⟩
                        clear BK1007; clear BK1008; clear HB
                        clear h0_ h1_ h2_ h3_ h4_ h5_ h6_ h7_ h8_ h9_
                        have BK1007 := n0_; have BK1008 := n1_; have BK1018 := n2_; have GW1018 := n3_; have GE1018 := n4_; have NB1007_1018 := n5_; have NB1018_1007 := n6_; have NB1008_1018 := n7_; have NB1018_1008 := n8_; have HB := n9_
                        clear n0_ n1_ n2_ n3_ n4_ n5_ n6_ n7_ n8_ n9_
                        have hHeld : w23.cell? ⟨gb1007, 0, none⟩ = some (.int .i64 a0_0) ∧ w23.cell? ⟨gb1007, 1, none⟩ = some (.int .u64 a0_1) ∧ w23.cell? ⟨gb1008, 0, none⟩ = some (.int .i64 a1_0) ∧ w23.cell? ⟨gb1008, 1, none⟩ = some (.int .u64 a1_1) := hS_
                        refine norm_ (a' := ?_) ?_ ?_
                        rotate_left
                        · simp only [putAll, Act.put, List.setIfInBounds_toArray, List.set_cons_zero, List.set_cons_succ]
                          rfl
                        refine two_ (i := 1) (j := 4) (Ni := some 14) (Nj := some 5) #[T, T, T, O, O, T, O, O] #[T, O, T, O, T, T, O, O] rfl rfl rfl rfl (two_of HT_.out (by kernel_rfl)) (by decide) (by decide) (fun K hK => ?_) (fun K hK => ?_)
                        · skip
                          refine goes_ Try.func19 (by kernel_rfl) rfl #[.agg #[.int .i64 a0_0, .int .u64 a0_1]] (by rfl) rfl rfl (by (try simp only [List.map_toArray, List.map_cons, List.map_nil]); first | done | rfl | (simp only [List.length_drop, List.length_take]; rfl)) ?_
                          with_reducible refine (cobweblaw01_num.calls k a0_0 a0_1 t1009 t1010 _ A3.out).mono ?_
                          rintro e w24 ⟨v1011, rfl, ho0, hb⟩
                          refine ⟨_, rfl, ?_⟩
                          have HO1012 := Aside0.mk (Kd.V_lower (Kd.V_mono (ok' := fun k_ => k_ ≠ gb1007 ∧ k_ ≠ gb1008 ∧ k_ ≠ gb1018) ho0 (fun k_ hk_ => ⟨(Kd.freshB (g := gb1007) (o := .cells #[.int .i64 a0_0, .int .u64 a0_1] 24 (0, 0)) (kx BK1007) k_ hk_), (Kd.freshB (g := gb1008) (o := .cells #[.int .i64 a1_0, .int .u64 a1_1] 24 (0, 0)) (kx BK1008) k_ hk_), (Kd.freshB (g := gb1018) (o := .cells #[.bool false, .slice none 0 0] 32 (0, 0)) (kx BK1018) k_ hk_)⟩)) (below_size (ky HB)))
                          replace BK1007 := kb BK1007 hb
                          replace BK1008 := kb BK1008 hb
                          replace BK1018 := kb BK1018 hb
                          replace HB := kB HB hb
                          (try clear hb)
                          (try clear hb2)
                          (try clear hk)
                          (try clear hi)
                          (try clear ho0)
                          refine hK.out _ _ ⟨kc BK1007 0, kc BK1007 1, kc BK1008 0, kc BK1008 1⟩ (fun hHeld => ?_)
                          clear hK K
                          refine norm_ (a' := ?_) ?_ ?_
                          rotate_left
                          · show Act.put _ (some 14) _ = _
                            simp only [Act.put, List.setIfInBounds_toArray, List.set_cons_zero, List.set_cons_succ, i64_w, i32_w]
                            rfl
                          exact norm_ (by first | (simp only [putAll, Act.put, List.setIfInBounds_toArray, List.set_cons_zero, List.set_cons_succ]; done) | (simp only [putAll, Act.put, List.setIfInBounds_toArray, List.set_cons_zero, List.set_cons_succ]; rfl)) (hJ1_5 (v1011, gb1018) _ ⟨hHeld, (kv HO1012), (kx BK1007), (kx BK1008), (kx BK1018), GW1018.out, GE1018.out, NB1007_1018.out, NB1018_1007.out, NB1008_1018.out, NB1018_1008.out, (ky HB)⟩)
                        · skip
                          refine box_step ?hg (N := 5) ?hd (cs := #[.bool false, .slice none 0 0]) (t := 32) ?hr ?_; (case hd => rfl); (case hg => rfl); (case hr => first | (go_simp; done) | (go_simp; rfl))
                          intro gb1017 hg w24 hbox hb
                          have BK1017 := Aside0.mk (hbox)
                          have GW1017 := kS HB hg
                          have GE1017 := kS HB hg
                          have NB1007_1017 := kN BK1007 hg
                          have NB1017_1007 := kM BK1007 hg
                          have NB1008_1017 := kN BK1008 hg
                          have NB1017_1008 := kM BK1008 hg
                          have NB1018_1017 := kN BK1018 hg
                          have NB1017_1018 := kM BK1018 hg
                          replace BK1007 := kb BK1007 hb
                          replace BK1008 := kb BK1008 hb
                          replace BK1018 := kb BK1018 hb
                          replace HB := kB HB hb
                          clear hb hbox hg
                          refine hK.out _ _ ⟨kc BK1007 0, kc BK1007 1, kc BK1008 0, kc BK1008 1⟩ (fun hHeld => ?_)
                          clear hK K
                          refine norm_ (a' := ?_) ?_ ?_
                          rotate_left
                          · show Act.put _ (some 5) _ = _
                            simp only [Act.put, List.setIfInBounds_toArray, List.set_cons_zero, List.set_cons_succ, i64_w, i32_w]
                            rfl
                          exact norm_ (by first | (simp only [putAll, Act.put, List.setIfInBounds_toArray, List.set_cons_zero, List.set_cons_succ]; done) | (simp only [putAll, Act.put, List.setIfInBounds_toArray, List.set_cons_zero, List.set_cons_succ]; rfl)) (hJ4_5 (gb1017, gb1018) _ ⟨hHeld, (kx BK1007), (kx BK1008), (kx BK1017), (kx BK1018), GW1017.out, GE1017.out, NB1007_1017.out, NB1017_1007.out, NB1008_1017.out, NB1017_1008.out, NB1018_1017.out, NB1017_1018.out, GW1018.out, GE1018.out, NB1007_1018.out, NB1018_1007.out, NB1008_1018.out, NB1018_1008.out, (ky HB)⟩)
                    · skip
                      rintro gb1017 w23 ⟨hS_, h0_, h1_, h2_, h3_, h4_, h5_, h6_, h7_, h8_, h9_⟩
                      have n0_ : Aside0 (w23.heap[gb1007]? = some (.cells #[.int .i64 a0_0, .int .u64 a0_1] 24 (0, 0))) := ⟨h0_⟩
                      have n1_ : Aside0 (w23.heap[gb1008]? = some (.cells #[.int .i64 a1_0, .int .u64 a1_1] 24 (0, 0))) := ⟨h1_⟩
                      have n2_ : Aside0 (w23.heap[gb1017]? = some (.cells #[.bool false, .slice none 0 0] 32 (0, 0))) := ⟨h2_⟩
                      have n3_ : Aside0 (w.heap.size ≤ gb1017) := ⟨h3_⟩
                      have n4_ : Aside0 (w.heap.size ≤ gb1017) := ⟨h4_⟩
                      have n5_ : Aside0 (gb1007 ≠ gb1017) := ⟨h5_⟩
                      have n6_ : Aside0 (gb1017 ≠ gb1007) := ⟨h6_⟩
                      have n7_ : Aside0 (gb1008 ≠ gb1017) := ⟨h7_⟩
                      have n8_ : Aside0 (gb1017 ≠ gb1008) := ⟨h8_⟩
                      have n9_ : Aside0 (Below w.heap.size w w23) := ⟨h9_⟩
                      clear BK1007; clear BK1008; clear HB
                      clear h0_ h1_ h2_ h3_ h4_ h5_ h6_ h7_ h8_ h9_
                      have BK1007 := n0_; have BK1008 := n1_; have BK1017 := n2_; have GW1017 := n3_; have GE1017 := n4_; have NB1007_1017 := n5_; have NB1017_1007 := n6_; have NB1008_1017 := n7_; have NB1017_1008 := n8_; have HB := n9_
                      clear n0_ n1_ n2_ n3_ n4_ n5_ n6_ n7_ n8_ n9_
                      have hHeld : w23.cell? ⟨gb1007, 0, none⟩ = some (.int .i64 a0_0) ∧ w23.cell? ⟨gb1007, 1, none⟩ = some (.int .u64 a0_1) ∧ w23.cell? ⟨gb1008, 0, none⟩ = some (.int .i64 a1_0) ∧ w23.cell? ⟨gb1008, 1, none⟩ = some (.int .u64 a1_1) := hS_
                      refine norm_ (a' := ?_) ?_ ?_
                      rotate_left
                      · simp only [putAll, Act.put, List.setIfInBounds_toArray, List.set_cons_zero, List.set_cons_succ]
                        rfl
                      refine two_ (i := 1) (j := 5) (Ni := some 14) (Nj := some 6) #[T, T, T, O, T, O, O, O] #[T, O, T, O, T, T, O, O] rfl rfl rfl rfl (two_of HT_.out (by kernel_rfl)) (by decide) (by decide) (fun K hK => ?_) (fun K hK => ?_)
                      · skip
                        refine goes_ Try.func19 (by kernel_rfl) rfl #[.agg #[.int .i64 a0_0, .int .u64 a0_1]] (by rfl) rfl rfl (by (try simp only [List.map_toArray, List.map_cons, List.map_nil]); first | done | rfl | (simp only [List.length_drop, List.length_take]; rfl)) ?_
                        with_reducible refine (cobweblaw01_num.calls k a0_0 a0_1 t1009 t1010 _ A3.out).mono ?_
                        rintro e w24 ⟨v1011, rfl, ho0, hb⟩
                        refine ⟨_, rfl, ?_⟩
                        have HO1012 := Aside0.mk (Kd.V_lower (Kd.V_mono (ok' := fun k_ => k_ ≠ gb1007 ∧ k_ ≠ gb1008 ∧ k_ ≠ gb1017) ho0 (fun k_ hk_ => ⟨(Kd.freshB (g := gb1007) (o := .cells #[.int .i64 a0_0, .int .u64 a0_1] 24 (0, 0)) (kx BK1007) k_ hk_), (Kd.freshB (g := gb1008) (o := .cells #[.int .i64 a1_0, .int .u64 a1_1] 24 (0, 0)) (kx BK1008) k_ hk_), (Kd.freshB (g := gb1017) (o := .cells #[.bool false, .slice none 0 0] 32 (0, 0)) (kx BK1017) k_ hk_)⟩)) (below_size (ky HB)))
                        replace BK1007 := kb BK1007 hb
                        replace BK1008 := kb BK1008 hb
                        replace BK1017 := kb BK1017 hb
                        replace HB := kB HB hb
                        (try clear hb)
                        (try clear hb2)
                        (try clear hk)
                        (try clear hi)
                        (try clear ho0)
                        refine hK.out _ _ ⟨kc BK1007 0, kc BK1007 1, kc BK1008 0, kc BK1008 1⟩ (fun hHeld => ?_)
                        clear hK K
                        refine norm_ (a' := ?_) ?_ ?_
                        rotate_left
                        · show Act.put _ (some 14) _ = _
                          simp only [Act.put, List.setIfInBounds_toArray, List.set_cons_zero, List.set_cons_succ, i64_w, i32_w]
                          rfl
                        exact norm_ (by first | (simp only [putAll, Act.put, List.setIfInBounds_toArray, List.set_cons_zero, List.set_cons_succ]; done) | (simp only [putAll, Act.put, List.setIfInBounds_toArray, List.set_cons_zero, List.set_cons_succ]; rfl)) (hJ1_4 (v1011, gb1017) _ ⟨hHeld, (kv HO1012), (kx BK1007), (kx BK1008), (kx BK1017), GW1017.out, GE1017.out, NB1007_1017.out, NB1017_1007.out, NB1008_1017.out, NB1017_1008.out, (ky HB)⟩)
                      · skip
                        refine box_step ?hg (N := 6) ?hd (cs := #[.bool false, .slice none 0 0]) (t := 32) ?hr ?_; (case hd => rfl); (case hg => rfl); (case hr => first | (go_simp; done) | (go_simp; rfl))
                        intro gb1018 hg w24 hbox hb
                        have BK1018 := Aside0.mk (hbox)
                        have GW1018 := kS HB hg
                        have GE1018 := kS HB hg
                        have NB1007_1018 := kN BK1007 hg
                        have NB1018_1007 := kM BK1007 hg
                        have NB1008_1018 := kN BK1008 hg
                        have NB1018_1008 := kM BK1008 hg
                        have NB1017_1018 := kN BK1017 hg
                        have NB1018_1017 := kM BK1017 hg
                        replace BK1007 := kb BK1007 hb
                        replace BK1008 := kb BK1008 hb
                        replace BK1017 := kb BK1017 hb
                        replace HB := kB HB hb
                        clear hb hbox hg
                        refine hK.out _ _ ⟨kc BK1007 0, kc BK1007 1, kc BK1008 0, kc BK1008 1⟩ (fun hHeld => ?_)
                        clear hK K
                        refine norm_ (a' := ?_) ?_ ?_
                        rotate_left
                        · show Act.put _ (some 6) _ = _
                          simp only [Act.put, List.setIfInBounds_toArray, List.set_cons_zero, List.set_cons_succ, i64_w, i32_w]
                          rfl
                        exact norm_ (by first | (simp only [putAll, Act.put, List.setIfInBounds_toArray, List.set_cons_zero, List.set_cons_succ]; done) | (simp only [putAll, Act.put, List.setIfInBounds_toArray, List.set_cons_zero, List.set_cons_succ]; rfl)) (hJ4_5 (gb1017, gb1018) _ ⟨hHeld, (kx BK1007), (kx BK1008), (kx BK1017), (kx BK1018), GW1017.out, GE1017.out, NB1007_1017.out, NB1017_1007.out, NB1008_1017.out, NB1017_1008.out, NB1018_1017.out, NB1017_1018.out, GW1018.out, GE1018.out, NB1007_1018.out, NB1018_1007.out, NB1008_1018.out, NB1018_1008.out, (ky HB)⟩)
                  · skip
                    rintro v1011 w23 ⟨hS_, h0_, h1_, h2_, h3_⟩
                    have n0_ : Aside0 (Kd.V (Kd.int .i64) 3 w23 w.heap.size (fun k_ => k_ ≠ gb1007 ∧ k_ ≠ gb1008) v1011 t1010) := ⟨h0_⟩
                    have n1_ : Aside0 (w23.heap[gb1007]? = some (.cells #[.int .i64 a0_0, .int .u64 a0_1] 24 (0, 0))) := ⟨h1_⟩
                    have n2_ : Aside0 (w23.heap[gb1008]? = some (.cells #[.int .i64 a1_0, .int .u64 a1_1] 24 (0, 0))) := ⟨h2_⟩
                    have n3_ : Aside0 (Below w.heap.size w w23) := ⟨h3_⟩
                    clear BK1007; clear BK1008; clear HB
                    clear h0_ h1_ h2_ h3_
                    have HO1012 := n0_; have BK1007 := n1_; have BK1008 := n2_; have HB := n3_
                    clear n0_ n1_ n2_ n3_
                    have hHeld : w23.cell? ⟨gb1007, 0, none⟩ = some (.int .i64 a0_0) ∧ w23.cell? ⟨gb1007, 1, none⟩ = some (.int .u64 a0_1) ∧ w23.cell? ⟨gb1008, 0, none⟩ = some (.int .i64 a1_0) ∧ w23.cell? ⟨gb1008, 1, none⟩ = some (.int .u64 a1_1) := hS_
                    refine norm_ (a' := ?_) ?_ ?_
                    rotate_left
                    · simp only [putAll, Act.put, List.setIfInBounds_toArray, List.set_cons_zero, List.set_cons_succ]
                      rfl
                    refine three_ (i := 3) (j := 4) (k := 5) (Ni := some 16) (Nj := some 5) (Nk := some 6) #[T, T, T, T, O, O, O, O] #[T, T, T, O, T, O, O, O] #[T, T, T, O, O, T, O, O] rfl rfl rfl rfl rfl rfl (three_of HT_.out (by kernel_rfl)) (by decide) (by decide) (by decide) (fun K hK => ?_) (fun K hK => ?_) (fun K hK => ?_)
                    · skip
                      refine goes_ Try.func19 (by kernel_rfl) rfl #[.agg #[.int .i64 a1_0, .int .u64 a1_1]] (by rfl) rfl rfl (by (try simp only [List.map_toArray, List.map_cons, List.map_nil]); first | done | rfl | (simp only [List.length_drop, List.length_take]; rfl)) ?_
                      with_reducible refine (cobweblaw01_num.calls k a1_0 a1_1 t1013 t1014 _ A4.out).mono ?_
                      rintro e w24 ⟨v1015, rfl, ho0, hb⟩
                      refine ⟨_, rfl, ?_⟩
                      have HO1016 := Aside0.mk (Kd.V_lower (Kd.V_mono (ok' := fun k_ => k_ ≠ gb1007 ∧ k_ ≠ gb1008) ho0 (fun k_ hk_ => ⟨(Kd.freshB (g := gb1007) (o := .cells #[.int .i64 a0_0, .int .u64 a0_1] 24 (0, 0)) (kx BK1007) k_ hk_), (Kd.freshB (g := gb1008) (o := .cells #[.int .i64 a1_0, .int .u64 a1_1] 24 (0, 0)) (kx BK1008) k_ hk_)⟩)) (below_size (ky HB)))
                      replace HO1012 := kV HO1012 hb
                      replace BK1007 := kb BK1007 hb
                      replace BK1008 := kb BK1008 hb
                      replace HB := kB HB hb
                      (try clear hb)
                      (try clear hb2)
                      (try clear hk)
                      (try clear hi)
                      (try clear ho0)
                      refine hK.out _ _ ⟨kc BK1007 0, kc BK1007 1, kc BK1008 0, kc BK1008 1⟩ (fun hHeld => ?_)
                      clear hK K
                      refine norm_ (a' := ?_) ?_ ?_
                      rotate_left
                      · show Act.put _ (some 16) _ = _
                        simp only [Act.put, List.setIfInBounds_toArray, List.set_cons_zero, List.set_cons_succ, i64_w, i32_w]
                        rfl
                      exact norm_ (by first | (simp only [putAll, Act.put, List.setIfInBounds_toArray, List.set_cons_zero, List.set_cons_succ]; done) | (simp only [putAll, Act.put, List.setIfInBounds_toArray, List.set_cons_zero, List.set_cons_succ]; rfl)) (hJ1_3 (v1011, v1015) _ ⟨hHeld, (kv HO1012), (kv HO1016), (kx BK1007), (kx BK1008), (ky HB)⟩)
                    · skip
                      refine box_step ?hg (N := 5) ?hd (cs := #[.bool false, .slice none 0 0]) (t := 32) ?hr ?_; (case hd => rfl); (case hg => rfl); (case hr => first | (go_simp; done) | (go_simp; rfl))
                      intro gb1017 hg w24 hbox hb
                      have n0_ := Aside0.mk (Kd.V_below (Kd.V_elderB (kv HO1012) gb1017 (Nat.le_of_eq hg.symm)) hb)
                      have n1_ := kb BK1007 hb
                      have n2_ := kb BK1008 hb
                      have n3_ := kB HB hb
                      have n4_ := Aside0.mk (hbox)
                      have n5_ := kS HB hg
                      have n6_ := kS HB hg
                      have n7_ := kN BK1007 hg
                      have n8_ := kM BK1007 hg
                      have n9_ := kN BK1008 hg
                      have n10_ := kM BK1008 hg
                      clear HO1012; clear BK1007; clear BK1008; clear HB; have HO1012 := n0_; have BK1007 := n1_; have BK1008 := n2_; have HB := n3_; have BK1017 := n4_; have GW1017 := n5_; have GE1017 := n6_; have NB1007_1017 := n7_; have NB1017_1007 := n8_; have NB1008_1017 := n9_; have NB1017_1008 := n10_
                      clear n0_ n1_ n2_ n3_ n4_ n5_ n6_ n7_ n8_ n9_ n10_
                      clear hb hbox hg
                      refine hK.out _ _ ⟨kc BK1007 0, kc BK1007 1, kc BK1008 0, kc BK1008 1⟩ (fun hHeld => ?_)
                      clear hK K
                      refine norm_ (a' := ?_) ?_ ?_
                      rotate_left
                      · show Act.put _ (some 5) _ = _
                        simp only [Act.put, List.setIfInBounds_toArray, List.set_cons_zero, List.set_cons_succ, i64_w, i32_w]
                        rfl
                      exact norm_ (by first | (simp only [putAll, Act.put, List.setIfInBounds_toArray, List.set_cons_zero, List.set_cons_succ]; done) | (simp only [putAll, Act.put, List.setIfInBounds_toArray, List.set_cons_zero, List.set_cons_succ]; rfl)) (hJ1_4 (v1011, gb1017) _ ⟨hHeld, (by (with_reducible repeat (first | apply Kd.V_alloc | apply Kd.V_drewN | apply Kd.V_drew)); exact Kd.V_mono HO1012.out (fun _ hk => ⟨hk.1.1, ⟨hk.1.2, hk.2⟩⟩)), (kx BK1007), (kx BK1008), (kx BK1017), GW1017.out, GE1017.out, NB1007_1017.out, NB1017_1007.out, NB1008_1017.out, NB1017_1008.out, (ky HB)⟩)
                    · skip
                      refine box_step ?hg (N := 6) ?hd (cs := #[.bool false, .slice none 0 0]) (t := 32) ?hr ?_; (case hd => rfl); (case hg => rfl); (case hr => first | (go_simp; done) | (go_simp; rfl))
                      intro gb1018 hg w24 hbox hb
                      have n0_ := Aside0.mk (Kd.V_below (Kd.V_elderB (kv HO1012) gb1018 (Nat.le_of_eq hg.symm)) hb)
                      have n1_ := kb BK1007 hb
                      have n2_ := kb BK1008 hb
                      have n3_ := kB HB hb
                      have n4_ := Aside0.mk (hbox)
                      have n5_ := kS HB hg
                      have n6_ := kS HB hg
                      have n7_ := kN BK1007 hg
                      have n8_ := kM BK1007 hg
                      have n9_ := kN BK1008 hg
                      have n10_ := kM BK1008 hg
                      clear HO1012; clear BK1007; clear BK1008; clear HB; have HO1012 := n0_; have BK1007 := n1_; have BK1008 := n2_; have HB := n3_; have BK1018 := n4_; have GW1018 := n5_; have GE1018 := n6_; have NB1007_1018 := n7_; have NB1018_1007 := n8_; have NB1008_1018 := n9_; have NB1018_1008 := n10_
                      clear n0_ n1_ n2_ n3_ n4_ n5_ n6_ n7_ n8_ n9_ n10_
                      clear hb hbox hg
                      refine hK.out _ _ ⟨kc BK1007 0, kc BK1007 1, kc BK1008 0, kc BK1008 1⟩ (fun hHeld => ?_)
                      clear hK K
                      refine norm_ (a' := ?_) ?_ ?_
                      rotate_left
                      · show Act.put _ (some 6) _ = _
                        simp only [Act.put, List.setIfInBounds_toArray, List.set_cons_zero, List.set_cons_succ, i64_w, i32_w]
                        rfl
                      exact norm_ (by first | (simp only [putAll, Act.put, List.setIfInBounds_toArray, List.set_cons_zero, List.set_cons_succ]; done) | (simp only [putAll, Act.put, List.setIfInBounds_toArray, List.set_cons_zero, List.set_cons_succ]; rfl)) (hJ1_5 (v1011, gb1018) _ ⟨hHeld, (by (with_reducible repeat (first | apply Kd.V_alloc | apply Kd.V_drewN | apply Kd.V_drew)); exact Kd.V_mono HO1012.out (fun _ hk => ⟨hk.1.1, ⟨hk.1.2, hk.2⟩⟩)), (kx BK1007), (kx BK1008), (kx BK1018), GW1018.out, GE1018.out, NB1007_1018.out, NB1018_1007.out, NB1008_1018.out, NB1018_1008.out, (ky HB)⟩)
                · skip
                  rintro ⟨gb1017, gb1018⟩ w24 ⟨hS_, h0_, h1_, h2_, h3_, h4_, h5_, h6_, h7_, h8_, h9_, h10_, h11_, h12_, h13_, h14_, h15_, h16_, h17_, h18_⟩
                  have n0_ : Aside0 (w24.heap[gb1007]? = some (.cells #[.int .i64 a0_0, .int .u64 a0_1] 24 (0, 0))) := ⟨h0_⟩
                  have n1_ : Aside0 (w24.heap[gb1008]? = some (.cells #[.int .i64 a1_0, .int .u64 a1_1] 24 (0, 0))) := ⟨h1_⟩
                  have n2_ : Aside0 (w24.heap[gb1017]? = some (.cells #[.bool false, .slice none 0 0] 32 (0, 0))) := ⟨h2_⟩
                  have n3_ : Aside0 (w24.heap[gb1018]? = some (.cells #[.bool false, .slice none 0 0] 32 (0, 0))) := ⟨h3_⟩
                  have n4_ : Aside0 (w.heap.size ≤ gb1017) := ⟨h4_⟩
                  have n5_ : Aside0 (w.heap.size ≤ gb1017) := ⟨h5_⟩
                  have n6_ : Aside0 (gb1007 ≠ gb1017) := ⟨h6_⟩
                  have n7_ : Aside0 (gb1017 ≠ gb1007) := ⟨h7_⟩
                  have n8_ : Aside0 (gb1008 ≠ gb1017) := ⟨h8_⟩
                  have n9_ : Aside0 (gb1017 ≠ gb1008) := ⟨h9_⟩
                  have n10_ : Aside0 (gb1018 ≠ gb1017) := ⟨h10_⟩
                  have n11_ : Aside0 (gb1017 ≠ gb1018) := ⟨h11_⟩
                  have n12_ : Aside0 (w.heap.size ≤ gb1018) := ⟨h12_⟩
                  have n13_ : Aside0 (w.heap.size ≤ gb1018) := ⟨h13_⟩
                  have n14_ : Aside0 (gb1007 ≠ gb1018) := ⟨h14_⟩
                  have n15_ : Aside0 (gb1018 ≠ gb1007) := ⟨h15_⟩
                  have n16_ : Aside0 (gb1008 ≠ gb1018) := ⟨h16_⟩
                  have n17_ : Aside0 (gb1018 ≠ gb1008) := ⟨h17_⟩
                  have n18_ : Aside0 (Below w.heap.size w w24) := ⟨h18_⟩
                  clear BK1007; clear BK1008; clear HB
                  clear h0_ h1_ h2_ h3_ h4_ h5_ h6_ h7_ h8_ h9_ h10_ h11_ h12_ h13_ h14_ h15_ h16_ h17_ h18_
                  have BK1007 := n0_; have BK1008 := n1_; have BK1017 := n2_; have BK1018 := n3_; have GW1017 := n4_; have GE1017 := n5_; have NB1007_1017 := n6_; have NB1017_1007 := n7_; have NB1008_1017 := n8_; have NB1017_1008 := n9_; have NB1018_1017 := n10_; have NB1017_1018 := n11_; have GW1018 := n12_; have GE1018 := n13_; have NB1007_1018 := n14_; have NB1018_1007 := n15_; have NB1008_1018 := n16_; have NB1018_1008 := n17_; have HB := n18_
                  clear n0_ n1_ n2_ n3_ n4_ n5_ n6_ n7_ n8_ n9_ n10_ n11_ n12_ n13_ n14_ n15_ n16_ n17_ n18_
                  have hHeld : w24.cell? ⟨gb1007, 0, none⟩ = some (.int .i64 a0_0) ∧ w24.cell? ⟨gb1007, 1, none⟩ = some (.int .u64 a0_1) ∧ w24.cell? ⟨gb1008, 0, none⟩ = some (.int .i64 a1_0) ∧ w24.cell? ⟨gb1008, 1, none⟩ = some (.int .u64 a1_1) := hS_
                  refine norm_ (a' := ?_) ?_ ?_
                  rotate_left
                  · simp only [putAll, Act.put, List.setIfInBounds_toArray, List.set_cons_zero, List.set_cons_succ]
                    rfl
                  refine one_ (i := 1) (N := some 14) #[T, T, T, O, T, T, O, O] rfl rfl (one_of HT_.out (by kernel_rfl)) (by decide) (fun K hK => ?_)
                  refine goes_ Try.func19 (by kernel_rfl) rfl #[.agg #[.int .i64 a0_0, .int .u64 a0_1]] (by rfl) rfl rfl (by (try simp only [List.map_toArray, List.map_cons, List.map_nil]); first | done | rfl | (simp only [List.length_drop, List.length_take]; rfl)) ?_
                  with_reducible refine (cobweblaw01_num.calls k a0_0 a0_1 t1009 t1010 _ A3.out).mono ?_
                  rintro e w25 ⟨v1011, rfl, ho0, hb⟩
                  refine ⟨_, rfl, ?_⟩
                  have HO1012 := Aside0.mk (Kd.V_lower (Kd.V_mono (ok' := fun k_ => k_ ≠ gb1007 ∧ k_ ≠ gb1008 ∧ k_ ≠ gb1017 ∧ k_ ≠ gb1018) ho0 (fun k_ hk_ => ⟨(Kd.freshB (g := gb1007) (o := .cells #[.int .i64 a0_0, .int .u64 a0_1] 24 (0, 0)) (kx BK1007) k_ hk_), (Kd.freshB (g := gb1008) (o := .cells #[.int .i64 a1_0, .int .u64 a1_1] 24 (0, 0)) (kx BK1008) k_ hk_), (Kd.freshB (g := gb1017) (o := .cells #[.bool false, .slice none 0 0] 32 (0, 0)) (kx BK1017) k_ hk_), (Kd.freshB (g := gb1018) (o := .cells #[.bool false, .slice none 0 0] 32 (0, 0)) (kx BK1018) k_ hk_)⟩)) (below_size (ky HB)))
                  replace BK1007 := kb BK1007 hb
                  replace BK1008 := kb BK1008 hb
                  replace BK1017 := kb BK1017 hb
                  replace BK1018 := kb BK1018 hb
                  replace HB := kB HB hb
                  (try clear hb)
                  (try clear hb2)
                  (try clear hk)
                  (try clear hi)
                  (try clear ho0)
                  refine hK.out _ _ ⟨kc BK1007 0, kc BK1007 1, kc BK1008 0, kc BK1008 1⟩ (fun hHeld => ?_)
                  clear hK K
                  refine norm_ (a' := ?_) ?_ ?_
                  rotate_left
                  · show Act.put _ (some 14) _ = _
                    simp only [Act.put, List.setIfInBounds_toArray, List.set_cons_zero, List.set_cons_succ, i64_w, i32_w]
                    rfl
                  exact norm_ (by first | (simp only [putAll, Act.put, List.setIfInBounds_toArray, List.set_cons_zero, List.set_cons_succ]; done) | (simp only [putAll, Act.put, List.setIfInBounds_toArray, List.set_cons_zero, List.set_cons_succ]; rfl)) (hJ1_4_5 (v1011, gb1017, gb1018) _ ⟨hHeld, (kv HO1012), (kx BK1007), (kx BK1008), (kx BK1017), (kx BK1018), GW1017.out, GE1017.out, NB1007_1017.out, NB1017_1007.out, NB1008_1017.out, NB1017_1008.out, NB1018_1017.out, NB1017_1018.out, GW1018.out, GE1018.out, NB1007_1018.out, NB1018_1007.out, NB1008_1018.out, NB1018_1008.out, (ky HB)⟩)
              · skip
                rintro ⟨v1011, gb1018⟩ w24 ⟨hS_, h0_, h1_, h2_, h3_, h4_, h5_, h6_, h7_, h8_, h9_, h10_⟩
                have n0_ : Aside0 (Kd.V (Kd.int .i64) 3 w24 w.heap.size (fun k_ => k_ ≠ gb1007 ∧ k_ ≠ gb1008 ∧ k_ ≠ gb1018) v1011 t1010) := ⟨h0_⟩
                have n1_ : Aside0 (w24.heap[gb1007]? = some (.cells #[.int .i64 a0_0, .int .u64 a0_1] 24 (0, 0))) := ⟨h1_⟩
                have n2_ : Aside0 (w24.heap[gb1008]? = some (.cells #[.int .i64 a1_0, .int .u64 a1_1] 24 (0, 0))) := ⟨h2_⟩
                have n3_ : Aside0 (w24.heap[gb1018]? = some (.cells #[.bool false, .slice none 0 0] 32 (0, 0))) := ⟨h3_⟩
                have n4_ : Aside0 (w.heap.size ≤ gb1018) := ⟨h4_⟩
                have n5_ : Aside0 (w.heap.size ≤ gb1018) := ⟨h5_⟩
                have n6_ : Aside0 (gb1007 ≠ gb1018) := ⟨h6_⟩
                have n7_ : Aside0 (gb1018 ≠ gb1007) := ⟨h7_⟩
                have n8_ : Aside0 (gb1008 ≠ gb1018) := ⟨h8_⟩
                have n9_ : Aside0 (gb1018 ≠ gb1008) := ⟨h9_⟩
                have n10_ : Aside0 (Below w.heap.size w w24) := ⟨h10_⟩
                clear BK1007; clear BK1008; clear HB
                clear h0_ h1_ h2_ h3_ h4_ h5_ h6_ h7_ h8_ h9_ h10_
                have HO1012 := n0_; have BK1007 := n1_; have BK1008 := n2_; have BK1018 := n3_; have GW1018 := n4_; have GE1018 := n5_; have NB1007_1018 := n6_; have NB1018_1007 := n7_; have NB1008_1018 := n8_; have NB1018_1008 := n9_; have HB := n10_
                clear n0_ n1_ n2_ n3_ n4_ n5_ n6_ n7_ n8_ n9_ n10_
                have hHeld : w24.cell? ⟨gb1007, 0, none⟩ = some (.int .i64 a0_0) ∧ w24.cell? ⟨gb1007, 1, none⟩ = some (.int .u64 a0_1) ∧ w24.cell? ⟨gb1008, 0, none⟩ = some (.int .i64 a1_0) ∧ w24.cell? ⟨gb1008, 1, none⟩ = some (.int .u64 a1_1) := hS_
                refine norm_ (a' := ?_) ?_ ?_
                rotate_left
                · simp only [putAll, Act.put, List.setIfInBounds_toArray, List.set_cons_zero, List.set_cons_succ]
                  rfl
                refine two_ (i := 3) (j := 4) (Ni := some 16) (Nj := some 5) #[T, T, T, T, O, T, O, O] #[T, T, T, O, T, T, O, O] rfl rfl rfl rfl (two_of HT_.out (by kernel_rfl)) (by decide) (by decide) (fun K hK => ?_) (fun K hK => ?_)
                · skip
                  refine goes_ Try.func19 (by kernel_rfl) rfl #[.agg #[.int .i64 a1_0, .int .u64 a1_1]] (by rfl) rfl rfl (by (try simp only [List.map_toArray, List.map_cons, List.map_nil]); first | done | rfl | (simp only [List.length_drop, List.length_take]; rfl)) ?_
                  with_reducible refine (cobweblaw01_num.calls k a1_0 a1_1 t1013 t1014 _ A4.out).mono ?_
                  rintro e w25 ⟨v1015, rfl, ho0, hb⟩
                  refine ⟨_, rfl, ?_⟩
                  have HO1016 := Aside0.mk (Kd.V_lower (Kd.V_mono (ok' := fun k_ => k_ ≠ gb1007 ∧ k_ ≠ gb1008 ∧ k_ ≠ gb1018) ho0 (fun k_ hk_ => ⟨(Kd.freshB (g := gb1007) (o := .cells #[.int .i64 a0_0, .int .u64 a0_1] 24 (0, 0)) (kx BK1007) k_ hk_), (Kd.freshB (g := gb1008) (o := .cells #[.int .i64 a1_0, .int .u64 a1_1] 24 (0, 0)) (kx BK1008) k_ hk_), (Kd.freshB (g := gb1018) (o := .cells #[.bool false, .slice none 0 0] 32 (0, 0)) (kx BK1018) k_ hk_)⟩)) (below_size (ky HB)))
                  replace HO1012 := kV HO1012 hb
                  replace BK1007 := kb BK1007 hb
                  replace BK1008 := kb BK1008 hb
                  replace BK1018 := kb BK1018 hb
                  replace HB := kB HB hb
                  (try clear hb)
                  (try clear hb2)
                  (try clear hk)
                  (try clear hi)
                  (try clear ho0)
                  refine hK.out _ _ ⟨kc BK1007 0, kc BK1007 1, kc BK1008 0, kc BK1008 1⟩ (fun hHeld => ?_)
                  clear hK K
                  refine norm_ (a' := ?_) ?_ ?_
                  rotate_left
                  · show Act.put _ (some 16) _ = _
                    simp only [Act.put, List.setIfInBounds_toArray, List.set_cons_zero, List.set_cons_succ, i64_w, i32_w]
                    rfl
                  exact norm_ (by first | (simp only [putAll, Act.put, List.setIfInBounds_toArray, List.set_cons_zero, List.set_cons_succ]; done) | (simp only [putAll, Act.put, List.setIfInBounds_toArray, List.set_cons_zero, List.set_cons_succ]; rfl)) (hJ1_3_5 (v1011, v1015, gb1018) _ ⟨hHeld, (kv HO1012), (kv HO1016), (kx BK1007), (kx BK1008), (kx BK1018), GW1018.out, GE1018.out, NB1007_1018.out, NB1018_1007.out, NB1008_1018.out, NB1018_1008.out, (ky HB)⟩)
                · skip
                  refine box_step ?hg (N := 5) ?hd (cs := #[.bool false, .slice none 0 0]) (t := 32) ?hr ?_; (case hd => rfl); (case hg => rfl); (case hr => first | (go_simp; done) | (go_simp; rfl))
                  intro gb1017 hg w25 hbox hb
                  have n0_ := Aside0.mk (Kd.V_below (Kd.V_elderB (kv HO1012) gb1017 (Nat.le_of_eq hg.symm)) hb)
                  have n1_ := kb BK1007 hb
                  have n2_ := kb BK1008 hb
                  have n3_ := kb BK1018 hb
                  have n4_ := kB HB hb
                  have n5_ := Aside0.mk (hbox)
                  have n6_ := kS HB hg
                  have n7_ := kS HB hg
                  have n8_ := kN BK1007 hg
                  have n9_ := kM BK1007 hg
                  have n10_ := kN BK1008 hg
                  have n11_ := kM BK1008 hg
                  have n12_ := kN BK1018 hg
                  have n13_ := kM BK1018 hg
                  clear HO1012; clear BK1007; clear BK1008; clear BK1018; clear HB; have HO1012 := n0_; have BK1007 := n1_; have BK1008 := n2_; have BK1018 := n3_; have HB := n4_; have BK1017 := n5_; have GW1017 := n6_; have GE1017 := n7_; have NB1007_1017 := n8_; have NB1017_1007 := n9_; have NB1008_1017 := n10_; have NB1017_1008 := n11_; have NB1018_1017 := n12_; have NB1017_1018 := n13_
                  clear n0_ n1_ n2_ n3_ n4_ n5_ n6_ n7_ n8_ n9_ n10_ n11_ n12_ n13_
                  clear hb hbox hg
                  refine hK.out _ _ ⟨kc BK1007 0, kc BK1007 1, kc BK1008 0, kc BK1008 1⟩ (fun hHeld => ?_)
                  clear hK K
                  refine norm_ (a' := ?_) ?_ ?_
                  rotate_left
                  · show Act.put _ (some 5) _ = _
                    simp only [Act.put, List.setIfInBounds_toArray, List.set_cons_zero, List.set_cons_succ, i64_w, i32_w]
                    rfl
                  exact norm_ (by first | (simp only [putAll, Act.put, List.setIfInBounds_toArray, List.set_cons_zero, List.set_cons_succ]; done) | (simp only [putAll, Act.put, List.setIfInBounds_toArray, List.set_cons_zero, List.set_cons_succ]; rfl)) (hJ1_4_5 (v1011, gb1017, gb1018) _ ⟨hHeld, (by (with_reducible repeat (first | apply Kd.V_alloc | apply Kd.V_drewN | apply Kd.V_drew)); exact Kd.V_mono HO1012.out (fun _ hk => ⟨hk.1.1, ⟨hk.1.2.1, ⟨hk.2, hk.1.2.2⟩⟩⟩)), (kx BK1007), (kx BK1008), (kx BK1017), (kx BK1018), GW1017.out, GE1017.out, NB1007_1017.out, NB1017_1007.out, NB1008_1017.out, NB1017_1008.out, NB1018_1017.out, NB1017_1018.out, GW1018.out, GE1018.out, NB1007_1018.out, NB1018_1007.out, NB1008_1018.out, NB1018_1008.out, (ky HB)⟩)
            · skip
              rintro ⟨v1011, gb1017⟩ w24 ⟨hS_, h0_, h1_, h2_, h3_, h4_, h5_, h6_, h7_, h8_, h9_, h10_⟩
              have n0_ : Aside0 (Kd.V (Kd.int .i64) 3 w24 w.heap.size (fun k_ => k_ ≠ gb1007 ∧ k_ ≠ gb1008 ∧ k_ ≠ gb1017) v1011 t1010) := ⟨h0_⟩
              have n1_ : Aside0 (w24.heap[gb1007]? = some (.cells #[.int .i64 a0_0, .int .u64 a0_1] 24 (0, 0))) := ⟨h1_⟩
              have n2_ : Aside0 (w24.heap[gb1008]? = some (.cells #[.int .i64 a1_0, .int .u64 a1_1] 24 (0, 0))) := ⟨h2_⟩
              have n3_ : Aside0 (w24.heap[gb1017]? = some (.cells #[.bool false, .slice none 0 0] 32 (0, 0))) := ⟨h3_⟩
              have n4_ : Aside0 (w.heap.size ≤ gb1017) := ⟨h4_⟩
              have n5_ : Aside0 (w.heap.size ≤ gb1017) := ⟨h5_⟩
              have n6_ : Aside0 (gb1007 ≠ gb1017) := ⟨h6_⟩
              have n7_ : Aside0 (gb1017 ≠ gb1007) := ⟨h7_⟩
              have n8_ : Aside0 (gb1008 ≠ gb1017) := ⟨h8_⟩
              have n9_ : Aside0 (gb1017 ≠ gb1008) := ⟨h9_⟩
              have n10_ : Aside0 (Below w.heap.size w w24) := ⟨h10_⟩
              clear BK1007; clear BK1008; clear HB
              clear h0_ h1_ h2_ h3_ h4_ h5_ h6_ h7_ h8_ h9_ h10_
              have HO1012 := n0_; have BK1007 := n1_; have BK1008 := n2_; have BK1017 := n3_; have GW1017 := n4_; have GE1017 := n5_; have NB1007_1017 := n6_; have NB1017_1007 := n7_; have NB1008_1017 := n8_; have NB1017_1008 := n9_; have HB := n10_
              clear n0_ n1_ n2_ n3_ n4_ n5_ n6_ n7_ n8_ n9_ n10_
              have hHeld : w24.cell? ⟨gb1007, 0, none⟩ = some (.int .i64 a0_0) ∧ w24.cell? ⟨gb1007, 1, none⟩ = some (.int .u64 a0_1) ∧ w24.cell? ⟨gb1008, 0, none⟩ = some (.int .i64 a1_0) ∧ w24.cell? ⟨gb1008, 1, none⟩ = some (.int .u64 a1_1) := hS_
              refine norm_ (a' := ?_) ?_ ?_
              rotate_left
              · simp only [putAll, Act.put, List.setIfInBounds_toArray, List.set_cons_zero, List.set_cons_succ]
                rfl
              refine two_ (i := 3) (j := 5) (Ni := some 16) (Nj := some 6) #[T, T, T, T, T, O, O, O] #[T, T, T, O, T, T, O, O] rfl rfl rfl rfl (two_of HT_.out (by kernel_rfl)) (by decide) (by decide) (fun K hK => ?_) (fun K hK => ?_)
              · skip
                refine goes_ Try.func19 (by kernel_rfl) rfl #[.agg #[.int .i64 a1_0, .int .u64 a1_1]] (by rfl) rfl rfl (by (try simp only [List.map_toArray, List.map_cons, List.map_nil]); first | done | rfl | (simp only [List.length_drop, List.length_take]; rfl)) ?_
                with_reducible refine (cobweblaw01_num.calls k a1_0 a1_1 t1013 t1014 _ A4.out).mono ?_
                rintro e w25 ⟨v1015, rfl, ho0, hb⟩
                refine ⟨_, rfl, ?_⟩
                have HO1016 := Aside0.mk (Kd.V_lower (Kd.V_mono (ok' := fun k_ => k_ ≠ gb1007 ∧ k_ ≠ gb1008 ∧ k_ ≠ gb1017) ho0 (fun k_ hk_ => ⟨(Kd.freshB (g := gb1007) (o := .cells #[.int .i64 a0_0, .int .u64 a0_1] 24 (0, 0)) (kx BK1007) k_ hk_), (Kd.freshB (g := gb1008) (o := .cells #[.int .i64 a1_0, .int .u64 a1_1] 24 (0, 0)) (kx BK1008) k_ hk_), (Kd.freshB (g := gb1017) (o := .cells #[.bool false, .slice none 0 0] 32 (0, 0)) (kx BK1017) k_ hk_)⟩)) (below_size (ky HB)))
                replace HO1012 := kV HO1012 hb
                replace BK1007 := kb BK1007 hb
                replace BK1008 := kb BK1008 hb
                replace BK1017 := kb BK1017 hb
                replace HB := kB HB hb
                (try clear hb)
                (try clear hb2)
                (try clear hk)
                (try clear hi)
                (try clear ho0)
                refine hK.out _ _ ⟨kc BK1007 0, kc BK1007 1, kc BK1008 0, kc BK1008 1⟩ (fun hHeld => ?_)
                clear hK K
                refine norm_ (a' := ?_) ?_ ?_
                rotate_left
                · show Act.put _ (some 16) _ = _
                  simp only [Act.put, List.setIfInBounds_toArray, List.set_cons_zero, List.set_cons_succ, i64_w, i32_w]
                  rfl
                exact norm_ (by first | (simp only [putAll, Act.put, List.setIfInBounds_toArray, List.set_cons_zero, List.set_cons_succ]; done) | (simp only [putAll, Act.put, List.setIfInBounds_toArray, List.set_cons_zero, List.set_cons_succ]; rfl)) (hJ1_3_4 (v1011, v1015, gb1017) _ ⟨hHeld, (kv HO1012), (kv HO1016), (kx BK1007), (kx BK1008), (kx BK1017), GW1017.out, GE1017.out, NB1007_1017.out, NB1017_1007.out, NB1008_1017.out, NB1017_1008.out, (ky HB)⟩)
              · skip
                refine box_step ?hg (N := 6) ?hd (cs := #[.bool false, .slice none 0 0]) (t := 32) ?hr ?_; (case hd => rfl); (case hg => rfl); (case hr => first | (go_simp; done) | (go_simp; rfl))
                intro gb1018 hg w25 hbox hb
                have n0_ := Aside0.mk (Kd.V_below (Kd.V_elderB (kv HO1012) gb1018 (Nat.le_of_eq hg.symm)) hb)
                have n1_ := kb BK1007 hb
                have n2_ := kb BK1008 hb
                have n3_ := kb BK1017 hb
                have n4_ := kB HB hb
                have n5_ := Aside0.mk (hbox)
                have n6_ := kS HB hg
                have n7_ := kS HB hg
                have n8_ := kN BK1007 hg
                have n9_ := kM BK1007 hg
                have n10_ := kN BK1008 hg
                have n11_ := kM BK1008 hg
                have n12_ := kN BK1017 hg
                have n13_ := kM BK1017 hg
                clear HO1012; clear BK1007; clear BK1008; clear BK1017; clear HB; have HO1012 := n0_; have BK1007 := n1_; have BK1008 := n2_; have BK1017 := n3_; have HB := n4_; have BK1018 := n5_; have GW1018 := n6_; have GE1018 := n7_; have NB1007_1018 := n8_; have NB1018_1007 := n9_; have NB1008_1018 := n10_; have NB1018_1008 := n11_; have NB1017_1018 := n12_; have NB1018_1017 := n13_
                clear n0_ n1_ n2_ n3_ n4_ n5_ n6_ n7_ n8_ n9_ n10_ n11_ n12_ n13_
                clear hb hbox hg
                refine hK.out _ _ ⟨kc BK1007 0, kc BK1007 1, kc BK1008 0, kc BK1008 1⟩ (fun hHeld => ?_)
                clear hK K
                refine norm_ (a' := ?_) ?_ ?_
                rotate_left
                · show Act.put _ (some 6) _ = _
                  simp only [Act.put, List.setIfInBounds_toArray, List.set_cons_zero, List.set_cons_succ, i64_w, i32_w]
                  rfl
                exact norm_ (by first | (simp only [putAll, Act.put, List.setIfInBounds_toArray, List.set_cons_zero, List.set_cons_succ]; done) | (simp only [putAll, Act.put, List.setIfInBounds_toArray, List.set_cons_zero, List.set_cons_succ]; rfl)) (hJ1_4_5 (v1011, gb1017, gb1018) _ ⟨hHeld, (by (with_reducible repeat (first | apply Kd.V_alloc | apply Kd.V_drewN | apply Kd.V_drew)); exact Kd.V_mono HO1012.out (fun _ hk => ⟨hk.1.1, ⟨hk.1.2.1, ⟨hk.1.2.2, hk.2⟩⟩⟩)), (kx BK1007), (kx BK1008), (kx BK1017), (kx BK1018), GW1017.out, GE1017.out, NB1007_1017.out, NB1017_1007.out, NB1008_1017.out, NB1017_1008.out, NB1018_1017.out, NB1017_1018.out, GW1018.out, GE1018.out, NB1007_1018.out, NB1018_1007.out, NB1008_1018.out, NB1018_1008.out, (ky HB)⟩)
          · skip
            rintro ⟨v1011, v1015⟩ w24 ⟨hS_, h0_, h1_, h2_, h3_, h4_⟩
            have n0_ : Aside0 (Kd.V (Kd.int .i64) 3 w24 w.heap.size (fun k_ => k_ ≠ gb1007 ∧ k_ ≠ gb1008) v1011 t1010) := ⟨h0_⟩
            have n1_ : Aside0 (Kd.V (Kd.int .i64) 3 w24 w.heap.size (fun k_ => k_ ≠ gb1007 ∧ k_ ≠ gb1008) v1015 t1014) := ⟨h1_⟩
            have n2_ : Aside0 (w24.heap[gb1007]? = some (.cells #[.int .i64 a0_0, .int .u64 a0_1] 24 (0, 0))) := ⟨h2_⟩
            have n3_ : Aside0 (w24.heap[gb1008]? = some (.cells #[.int .i64 a1_0, .int .u64 a1_1] 24 (0, 0))) := ⟨h3_⟩
            have n4_ : Aside0 (Below w.heap.size w w24) := ⟨h4_⟩
            clear BK1007; clear BK1008; clear HB
            clear h0_ h1_ h2_ h3_ h4_
            have HO1012 := n0_; have HO1016 := n1_; have BK1007 := n2_; have BK1008 := n3_; have HB := n4_
            clear n0_ n1_ n2_ n3_ n4_
            have hHeld : w24.cell? ⟨gb1007, 0, none⟩ = some (.int .i64 a0_0) ∧ w24.cell? ⟨gb1007, 1, none⟩ = some (.int .u64 a0_1) ∧ w24.cell? ⟨gb1008, 0, none⟩ = some (.int .i64 a1_0) ∧ w24.cell? ⟨gb1008, 1, none⟩ = some (.int .u64 a1_1) := hS_
            refine norm_ (a' := ?_) ?_ ?_
            rotate_left
            · simp only [putAll, Act.put, List.setIfInBounds_toArray, List.set_cons_zero, List.set_cons_succ]
              rfl
            refine two_ (i := 4) (j := 5) (Ni := some 5) (Nj := some 6) #[T, T, T, T, T, O, O, O] #[T, T, T, T, O, T, O, O] rfl rfl rfl rfl (two_of HT_.out (by kernel_rfl)) (by decide) (by decide) (fun K hK => ?_) (fun K hK => ?_)
            · skip
              refine box_step ?hg (N := 5) ?hd (cs := #[.bool false, .slice none 0 0]) (t := 32) ?hr ?_; (case hd => rfl); (case hg => rfl); (case hr => first | (go_simp; done) | (go_simp; rfl))
              intro gb1017 hg w25 hbox hb
              have n0_ := Aside0.mk (Kd.V_below (Kd.V_elderB (kv HO1012) gb1017 (Nat.le_of_eq hg.symm)) hb)
              have n1_ := Aside0.mk (Kd.V_below (Kd.V_elderB (kv HO1016) gb1017 (Nat.le_of_eq hg.symm)) hb)
              have n2_ := kb BK1007 hb
              have n3_ := kb BK1008 hb
              have n4_ := kB HB hb
              have n5_ := Aside0.mk (hbox)
              have n6_ := kS HB hg
              have n7_ := kS HB hg
              have n8_ := kN BK1007 hg
              have n9_ := kM BK1007 hg
              have n10_ := kN BK1008 hg
              have n11_ := kM BK1008 hg
              clear HO1012; clear HO1016; clear BK1007; clear BK1008; clear HB; have HO1012 := n0_; have HO1016 := n1_; have BK1007 := n2_; have BK1008 := n3_; have HB := n4_; have BK1017 := n5_; have GW1017 := n6_; have GE1017 := n7_; have NB1007_1017 := n8_; have NB1017_1007 := n9_; have NB1008_1017 := n10_; have NB1017_1008 := n11_
              clear n0_ n1_ n2_ n3_ n4_ n5_ n6_ n7_ n8_ n9_ n10_ n11_
              clear hb hbox hg
              refine hK.out _ _ ⟨kc BK1007 0, kc BK1007 1, kc BK1008 0, kc BK1008 1⟩ (fun hHeld => ?_)
              clear hK K
              refine norm_ (a' := ?_) ?_ ?_
              rotate_left
              · show Act.put _ (some 5) _ = _
                simp only [Act.put, List.setIfInBounds_toArray, List.set_cons_zero, List.set_cons_succ, i64_w, i32_w]
                rfl
              exact norm_ (by first | (simp only [putAll, Act.put, List.setIfInBounds_toArray, List.set_cons_zero, List.set_cons_succ]; done) | (simp only [putAll, Act.put, List.setIfInBounds_toArray, List.set_cons_zero, List.set_cons_succ]; rfl)) (hJ1_3_4 (v1011, v1015, gb1017) _ ⟨hHeld, (by (with_reducible repeat (first | apply Kd.V_alloc | apply Kd.V_drewN | apply Kd.V_drew)); exact Kd.V_mono HO1012.out (fun _ hk => ⟨hk.1.1, ⟨hk.1.2, hk.2⟩⟩)), (by (with_reducible repeat (first | apply Kd.V_alloc | apply Kd.V_drewN | apply Kd.V_drew)); exact Kd.V_mono HO1016.out (fun _ hk => ⟨hk.1.1, ⟨hk.1.2, hk.2⟩⟩)), (kx BK1007), (kx BK1008), (kx BK1017), GW1017.out, GE1017.out, NB1007_1017.out, NB1017_1007.out, NB1008_1017.out, NB1017_1008.out, (ky HB)⟩)
            · skip
              refine box_step ?hg (N := 6) ?hd (cs := #[.bool false, .slice none 0 0]) (t := 32) ?hr ?_; (case hd => rfl); (case hg => rfl); (case hr => first | (go_simp; done) | (go_simp; rfl))
              intro gb1018 hg w25 hbox hb
              have n0_ := Aside0.mk (Kd.V_below (Kd.V_elderB (kv HO1012) gb1018 (Nat.le_of_eq hg.symm)) hb)
              have n1_ := Aside0.mk (Kd.V_below (Kd.V_elderB (kv HO1016) gb1018 (Nat.le_of_eq hg.symm)) hb)
              have n2_ := kb BK1007 hb
              have n3_ := kb BK1008 hb
              have n4_ := kB HB hb
              have n5_ := Aside0.mk (hbox)
              have n6_ := kS HB hg
              have n7_ := kS HB hg
              have n8_ := kN BK1007 hg
              have n9_ := kM BK1007 hg
              have n10_ := kN BK1008 hg
              have n11_ := kM BK1008 hg
              clear HO1012; clear HO1016; clear BK1007; clear BK1008; clear HB; have HO1012 := n0_; have HO1016 := n1_; have BK1007 := n2_; have BK1008 := n3_; have HB := n4_; have BK1018 := n5_; have GW1018 := n6_; have GE1018 := n7_; have NB1007_1018 := n8_; have NB1018_1007 := n9_; have NB1008_1018 := n10_; have NB1018_1008 := n11_
              clear n0_ n1_ n2_ n3_ n4_ n5_ n6_ n7_ n8_ n9_ n10_ n11_
              clear hb hbox hg
              refine hK.out _ _ ⟨kc BK1007 0, kc BK1007 1, kc BK1008 0, kc BK1008 1⟩ (fun hHeld => ?_)
              clear hK K
              refine norm_ (a' := ?_) ?_ ?_
              rotate_left
              · show Act.put _ (some 6) _ = _
                simp only [Act.put, List.setIfInBounds_toArray, List.set_cons_zero, List.set_cons_succ, i64_w, i32_w]
                rfl
              exact norm_ (by first | (simp only [putAll, Act.put, List.setIfInBounds_toArray, List.set_cons_zero, List.set_cons_succ]; done) | (simp only [putAll, Act.put, List.setIfInBounds_toArray, List.set_cons_zero, List.set_cons_succ]; rfl)) (hJ1_3_5 (v1011, v1015, gb1018) _ ⟨hHeld, (by (with_reducible repeat (first | apply Kd.V_alloc | apply Kd.V_drewN | apply Kd.V_drew)); exact Kd.V_mono HO1012.out (fun _ hk => ⟨hk.1.1, ⟨hk.1.2, hk.2⟩⟩)), (by (with_reducible repeat (first | apply Kd.V_alloc | apply Kd.V_drewN | apply Kd.V_drew)); exact Kd.V_mono HO1016.out (fun _ hk => ⟨hk.1.1, ⟨hk.1.2, hk.2⟩⟩)), (kx BK1007), (kx BK1008), (kx BK1018), GW1018.out, GE1018.out, NB1007_1018.out, NB1018_1007.out, NB1008_1018.out, NB1018_1008.out, (ky HB)⟩)
        · skip
          rintro ⟨v1011, gb1017, gb1018⟩ w25 ⟨hS_, h0_, h1_, h2_, h3_, h4_, h5_, h6_, h7_, h8_, h9_, h10_, h11_, h12_, h13_, h14_, h15_, h16_, h17_, h18_, h19_⟩
          have n0_ : Aside0 (Kd.V (Kd.int .i64) 3 w25 w.heap.size (fun k_ => k_ ≠ gb1007 ∧ k_ ≠ gb1008 ∧ k_ ≠ gb1017 ∧ k_ ≠ gb1018) v1011 t1010) := ⟨h0_⟩
          have n1_ : Aside0 (w25.heap[gb1007]? = some (.cells #[.int .i64 a0_0, .int .u64 a0_1] 24 (0, 0))) := ⟨h1_⟩
          have n2_ : Aside0 (w25.heap[gb1008]? = some (.cells #[.int .i64 a1_0, .int .u64 a1_1] 24 (0, 0))) := ⟨h2_⟩
          have n3_ : Aside0 (w25.heap[gb1017]? = some (.cells #[.bool false, .slice none 0 0] 32 (0, 0))) := ⟨h3_⟩
          have n4_ : Aside0 (w25.heap[gb1018]? = some (.cells #[.bool false, .slice none 0 0] 32 (0, 0))) := ⟨h4_⟩
          have n5_ : Aside0 (w.heap.size ≤ gb1017) := ⟨h5_⟩
          have n6_ : Aside0 (w.heap.size ≤ gb1017) := ⟨h6_⟩
          have n7_ : Aside0 (gb1007 ≠ gb1017) := ⟨h7_⟩
          have n8_ : Aside0 (gb1017 ≠ gb1007) := ⟨h8_⟩
          have n9_ : Aside0 (gb1008 ≠ gb1017) := ⟨h9_⟩
          have n10_ : Aside0 (gb1017 ≠ gb1008) := ⟨h10_⟩
          have n11_ : Aside0 (gb1018 ≠ gb1017) := ⟨h11_⟩
          have n12_ : Aside0 (gb1017 ≠ gb1018) := ⟨h12_⟩
          have n13_ : Aside0 (w.heap.size ≤ gb1018) := ⟨h13_⟩
          have n14_ : Aside0 (w.heap.size ≤ gb1018) := ⟨h14_⟩
          have n15_ : Aside0 (gb1007 ≠ gb1018) := ⟨h15_⟩
          have n16_ : Aside0 (gb1018 ≠ gb1007) := ⟨h16_⟩
          have n17_ : Aside0 (gb1008 ≠ gb1018) := ⟨h17_⟩
          have n18_ : Aside0 (gb1018 ≠ gb1008) := ⟨h18_⟩
          have n19_ : Aside0 (Below w.heap.size w w25) := ⟨h19_⟩
          clear BK1007; clear BK1008; clear HB
          clear h0_ h1_ h2_ h3_ h4_ h5_ h6_ h7_ h8_ h9_ h10_ h11_ h12_ h13_ h14_ h15_ h16_ h17_ h18_ h19_
          have HO1012 := n0_; have BK1007 := n1_; have BK1008 := n2_; have BK1017 := n3_; have BK1018 := n4_; have GW1017 := n5_; have GE1017 := n6_; have NB1007_1017 := n7_; have NB1017_1007 := n8_; have NB1008_1017 := n9_; have NB1017_1008 := n10_; have NB1018_1017 := n11_; have NB1017_1018 := n12_; have GW1018 := n13_; have GE1018 := n14_; have NB1007_1018 := n15_; have NB1018_1007 := n16_; have NB1008_1018 := n17_; have NB1018_1008 := n18_; have HB := n19_
          clear n0_ n1_ n2_ n3_ n4_ n5_ n6_ n7_ n8_ n9_ n10_ n11_ n12_ n13_ n14_ n15_ n16_ n17_ n18_ n19_
          have hHeld : w25.cell? ⟨gb1007, 0, none⟩ = some (.int .i64 a0_0) ∧ w25.cell? ⟨gb1007, 1, none⟩ = some (.int .u64 a0_1) ∧ w25.cell? ⟨gb1008, 0, none⟩ = some (.int .i64 a1_0) ∧ w25.cell? ⟨gb1008, 1, none⟩ = some (.int .u64 a1_1) := hS_
          refine norm_ (a' := ?_) ?_ ?_
          rotate_left
          · simp only [putAll, Act.put, List.setIfInBounds_toArray, List.set_cons_zero, List.set_cons_succ]
            rfl
          refine one_ (i := 3) (N := some 16) #[T, T, T, T, T, T, O, O] rfl rfl (one_of HT_.out (by kernel_rfl)) (by decide) (fun K hK => ?_)
          refine goes_ Try.func19 (by kernel_rfl) rfl #[.agg #[.int .i64 a1_0, .int .u64 a1_1]] (by rfl) rfl rfl (by (try simp only [List.map_toArray, List.map_cons, List.map_nil]); first | done | rfl | (simp only [List.length_drop, List.length_take]; rfl)) ?_
          with_reducible refine (cobweblaw01_num.calls k a1_0 a1_1 t1013 t1014 _ A4.out).mono ?_
          rintro e w26 ⟨v1015, rfl, ho0, hb⟩
          refine ⟨_, rfl, ?_⟩
          have HO1016 := Aside0.mk (Kd.V_lower (Kd.V_mono (ok' := fun k_ => k_ ≠ gb1007 ∧ k_ ≠ gb1008 ∧ k_ ≠ gb1017 ∧ k_ ≠ gb1018) ho0 (fun k_ hk_ => ⟨(Kd.freshB (g := gb1007) (o := .cells #[.int .i64 a0_0, .int .u64 a0_1] 24 (0, 0)) (kx BK1007) k_ hk_), (Kd.freshB (g := gb1008) (o := .cells #[.int .i64 a1_0, .int .u64 a1_1] 24 (0, 0)) (kx BK1008) k_ hk_), (Kd.freshB (g := gb1017) (o := .cells #[.bool false, .slice none 0 0] 32 (0, 0)) (kx BK1017) k_ hk_), (Kd.freshB (g := gb1018) (o := .cells #[.bool false, .slice none 0 0] 32 (0, 0)) (kx BK1018) k_ hk_)⟩)) (below_size (ky HB)))
          replace HO1012 := kV HO1012 hb
          replace BK1007 := kb BK1007 hb
          replace BK1008 := kb BK1008 hb
          replace BK1017 := kb BK1017 hb
          replace BK1018 := kb BK1018 hb
          replace HB := kB HB hb
          (try clear hb)
          (try clear hb2)
          (try clear hk)
          (try clear hi)
          (try clear ho0)
          refine hK.out _ _ ⟨kc BK1007 0, kc BK1007 1, kc BK1008 0, kc BK1008 1⟩ (fun hHeld => ?_)
          clear hK K
          refine norm_ (a' := ?_) ?_ ?_
          rotate_left
          · show Act.put _ (some 16) _ = _
            simp only [Act.put, List.setIfInBounds_toArray, List.set_cons_zero, List.set_cons_succ, i64_w, i32_w]
            rfl
          exact norm_ (by first | (simp only [putAll, Act.put, List.setIfInBounds_toArray, List.set_cons_zero, List.set_cons_succ]; done) | (simp only [putAll, Act.put, List.setIfInBounds_toArray, List.set_cons_zero, List.set_cons_succ]; rfl)) (hJ1_3_4_5 (v1011, v1015, gb1017, gb1018) _ ⟨hHeld, (kv HO1012), (kv HO1016), (kx BK1007), (kx BK1008), (kx BK1017), (kx BK1018), GW1017.out, GE1017.out, NB1007_1017.out, NB1017_1007.out, NB1008_1017.out, NB1017_1008.out, NB1018_1017.out, NB1017_1018.out, GW1018.out, GE1018.out, NB1007_1018.out, NB1018_1007.out, NB1008_1018.out, NB1018_1008.out, (ky HB)⟩)
      · skip
        rintro ⟨v1011, v1015, gb1018⟩ w25 ⟨hS_, h0_, h1_, h2_, h3_, h4_, h5_, h6_, h7_, h8_, h9_, h10_, h11_⟩
        have n0_ : Aside0 (Kd.V (Kd.int .i64) 3 w25 w.heap.size (fun k_ => k_ ≠ gb1007 ∧ k_ ≠ gb1008 ∧ k_ ≠ gb1018) v1011 t1010) := ⟨h0_⟩
        have n1_ : Aside0 (Kd.V (Kd.int .i64) 3 w25 w.heap.size (fun k_ => k_ ≠ gb1007 ∧ k_ ≠ gb1008 ∧ k_ ≠ gb1018) v1015 t1014) := ⟨h1_⟩
        have n2_ : Aside0 (w25.heap[gb1007]? = some (.cells #[.int .i64 a0_0, .int .u64 a0_1] 24 (0, 0))) := ⟨h2_⟩
        have n3_ : Aside0 (w25.heap[gb1008]? = some (.cells #[.int .i64 a1_0, .int .u64 a1_1] 24 (0, 0))) := ⟨h3_⟩
        have n4_ : Aside0 (w25.heap[gb1018]? = some (.cells #[.bool false, .slice none 0 0] 32 (0, 0))) := ⟨h4_⟩
        have n5_ : Aside0 (w.heap.size ≤ gb1018) := ⟨h5_⟩
        have n6_ : Aside0 (w.heap.size ≤ gb1018) := ⟨h6_⟩
        have n7_ : Aside0 (gb1007 ≠ gb1018) := ⟨h7_⟩
        have n8_ : Aside0 (gb1018 ≠ gb1007) := ⟨h8_⟩
        have n9_ : Aside0 (gb1008 ≠ gb1018) := ⟨h9_⟩
        have n10_ : Aside0 (gb1018 ≠ gb1008) := ⟨h10_⟩
        have n11_ : Aside0 (Below w.heap.size w w25) := ⟨h11_⟩
        clear BK1007; clear BK1008; clear HB
        clear h0_ h1_ h2_ h3_ h4_ h5_ h6_ h7_ h8_ h9_ h10_ h11_
        have HO1012 := n0_; have HO1016 := n1_; have BK1007 := n2_; have BK1008 := n3_; have BK1018 := n4_; have GW1018 := n5_; have GE1018 := n6_; have NB1007_1018 := n7_; have NB1018_1007 := n8_; have NB1008_1018 := n9_; have NB1018_1008 := n10_; have HB := n11_
        clear n0_ n1_ n2_ n3_ n4_ n5_ n6_ n7_ n8_ n9_ n10_ n11_
        have hHeld : w25.cell? ⟨gb1007, 0, none⟩ = some (.int .i64 a0_0) ∧ w25.cell? ⟨gb1007, 1, none⟩ = some (.int .u64 a0_1) ∧ w25.cell? ⟨gb1008, 0, none⟩ = some (.int .i64 a1_0) ∧ w25.cell? ⟨gb1008, 1, none⟩ = some (.int .u64 a1_1) := hS_
        refine norm_ (a' := ?_) ?_ ?_
        rotate_left
        · simp only [putAll, Act.put, List.setIfInBounds_toArray, List.set_cons_zero, List.set_cons_succ]
          rfl
        refine one_ (i := 4) (N := some 5) #[T, T, T, T, T, T, O, O] rfl rfl (one_of HT_.out (by kernel_rfl)) (by decide) (fun K hK => ?_)
        refine box_step ?hg (N := 5) ?hd (cs := #[.bool false, .slice none 0 0]) (t := 32) ?hr ?_; (case hd => rfl); (case hg => rfl); (case hr => first | (go_simp; done) | (go_simp; rfl))
        intro gb1017 hg w26 hbox hb
        have n0_ := Aside0.mk (Kd.V_below (Kd.V_elderB (kv HO1012) gb1017 (Nat.le_of_eq hg.symm)) hb)
        have n1_ := Aside0.mk (Kd.V_below (Kd.V_elderB (kv HO1016) gb1017 (Nat.le_of_eq hg.symm)) hb)
        have n2_ := kb BK1007 hb
        have n3_ := kb BK1008 hb
        have n4_ := kb BK1018 hb
        have n5_ := kB HB hb
        have n6_ := Aside0.mk (hbox)
        have n7_ := kS HB hg
        have n8_ := kS HB hg
        have n9_ := kN BK1007 hg
        have n10_ := kM BK1007 hg
        have n11_ := kN BK1008 hg
        have n12_ := kM BK1008 hg
        have n13_ := kN BK1018 hg
        have n14_ := kM BK1018 hg
        clear HO1012; clear HO1016; clear BK1007; clear BK1008; clear BK1018; clear HB; have HO1012 := n0_; have HO1016 := n1_; have BK1007 := n2_; have BK1008 := n3_; have BK1018 := n4_; have HB := n5_; have BK1017 := n6_; have GW1017 := n7_; have GE1017 := n8_; have NB1007_1017 := n9_; have NB1017_1007 := n10_; have NB1008_1017 := n11_; have NB1017_1008 := n12_; have NB1018_1017 := n13_; have NB1017_1018 := n14_
        clear n0_ n1_ n2_ n3_ n4_ n5_ n6_ n7_ n8_ n9_ n10_ n11_ n12_ n13_ n14_
        clear hb hbox hg
        refine hK.out _ _ ⟨kc BK1007 0, kc BK1007 1, kc BK1008 0, kc BK1008 1⟩ (fun hHeld => ?_)
        clear hK K
        refine norm_ (a' := ?_) ?_ ?_
        rotate_left
        · show Act.put _ (some 5) _ = _
          simp only [Act.put, List.setIfInBounds_toArray, List.set_cons_zero, List.set_cons_succ, i64_w, i32_w]
          rfl
        exact norm_ (by first | (simp only [putAll, Act.put, List.setIfInBounds_toArray, List.set_cons_zero, List.set_cons_succ]; done) | (simp only [putAll, Act.put, List.setIfInBounds_toArray, List.set_cons_zero, List.set_cons_succ]; rfl)) (hJ1_3_4_5 (v1011, v1015, gb1017, gb1018) _ ⟨hHeld, (by (with_reducible repeat (first | apply Kd.V_alloc | apply Kd.V_drewN | apply Kd.V_drew)); exact Kd.V_mono HO1012.out (fun _ hk => ⟨hk.1.1, ⟨hk.1.2.1, ⟨hk.2, hk.1.2.2⟩⟩⟩)), (by (with_reducible repeat (first | apply Kd.V_alloc | apply Kd.V_drewN | apply Kd.V_drew)); exact Kd.V_mono HO1016.out (fun _ hk => ⟨hk.1.1, ⟨hk.1.2.1, ⟨hk.2, hk.1.2.2⟩⟩⟩)), (kx BK1007), (kx BK1008), (kx BK1017), (kx BK1018), GW1017.out, GE1017.out, NB1007_1017.out, NB1017_1007.out, NB1008_1017.out, NB1017_1008.out, NB1018_1017.out, NB1017_1018.out, GW1018.out, GE1018.out, NB1007_1018.out, NB1018_1007.out, NB1008_1018.out, NB1018_1008.out, (ky HB)⟩)
    · skip
      rintro ⟨v1011, v1015, gb1017⟩ w25 ⟨hS_, h0_, h1_, h2_, h3_, h4_, h5_, h6_, h7_, h8_, h9_, h10_, h11_⟩
      have n0_ : Aside0 (Kd.V (Kd.int .i64) 3 w25 w.heap.size (fun k_ => k_ ≠ gb1007 ∧ k_ ≠ gb1008 ∧ k_ ≠ gb1017) v1011 t1010) := ⟨h0_⟩
      have n1_ : Aside0 (Kd.V (Kd.int .i64) 3 w25 w.heap.size (fun k_ => k_ ≠ gb1007 ∧ k_ ≠ gb1008 ∧ k_ ≠ gb1017) v1015 t1014) := ⟨h1_⟩
      have n2_ : Aside0 (w25.heap[gb1007]? = some (.cells #[.int .i64 a0_0, .int .u64 a0_1] 24 (0, 0))) := ⟨h2_⟩
      have n3_ : Aside0 (w25.heap[gb1008]? = some (.cells #[.int .i64 a1_0, .int .u64 a1_1] 24 (0, 0))) := ⟨h3_⟩
      have n4_ : Aside0 (w25.heap[gb1017]? = some (.cells #[.bool false, .slice none 0 0] 32 (0, 0))) := ⟨h4_⟩
      have n5_ : Aside0 (w.heap.size ≤ gb1017) := ⟨h5_⟩
      have n6_ : Aside0 (w.heap.size ≤ gb1017) := ⟨h6_⟩
      have n7_ : Aside0 (gb1007 ≠ gb1017) := ⟨h7_⟩
      have n8_ : Aside0 (gb1017 ≠ gb1007) := ⟨h8_⟩
      have n9_ : Aside0 (gb1008 ≠ gb1017) := ⟨h9_⟩
      have n10_ : Aside0 (gb1017 ≠ gb1008) := ⟨h10_⟩
      have n11_ : Aside0 (Below w.heap.size w w25) := ⟨h11_⟩
      clear BK1007; clear BK1008; clear HB
      clear h0_ h1_ h2_ h3_ h4_ h5_ h6_ h7_ h8_ h9_ h10_ h11_
      have HO1012 := n0_; have HO1016 := n1_; have BK1007 := n2_; have BK1008 := n3_; have BK1017 := n4_; have GW1017 := n5_; have GE1017 := n6_; have NB1007_1017 := n7_; have NB1017_1007 := n8_; have NB1008_1017 := n9_; have NB1017_1008 := n10_; have HB := n11_
      clear n0_ n1_ n2_ n3_ n4_ n5_ n6_ n7_ n8_ n9_ n10_ n11_
      have hHeld : w25.cell? ⟨gb1007, 0, none⟩ = some (.int .i64 a0_0) ∧ w25.cell? ⟨gb1007, 1, none⟩ = some (.int .u64 a0_1) ∧ w25.cell? ⟨gb1008, 0, none⟩ = some (.int .i64 a1_0) ∧ w25.cell? ⟨gb1008, 1, none⟩ = some (.int .u64 a1_1) := hS_
      refine norm_ (a' := ?_) ?_ ?_
      rotate_left
      · simp only [putAll, Act.put, List.setIfInBounds_toArray, List.set_cons_zero, List.set_cons_succ]
        rfl
      refine one_ (i := 5) (N := some 6) #[T, T, T, T, T, T, O, O] rfl rfl (one_of HT_.out (by kernel_rfl)) (by decide) (fun K hK => ?_)
      refine box_step ?hg (N := 6) ?hd (cs := #[.bool false, .slice none 0 0]) (t := 32) ?hr ?_; (case hd => rfl); (case hg => rfl); (case hr => first | (go_simp; done) | (go_simp; rfl))
      intro gb1018 hg w26 hbox hb
      have n0_ := Aside0.mk (Kd.V_below (Kd.V_elderB (kv HO1012) gb1018 (Nat.le_of_eq hg.symm)) hb)
      have n1_ := Aside0.mk (Kd.V_below (Kd.V_elderB (kv HO1016) gb1018 (Nat.le_of_eq hg.symm)) hb)
      have n2_ := kb BK1007 hb
      have n3_ := kb BK1008 hb
      have n4_ := kb BK1017 hb
      have n5_ := kB HB hb
      have n6_ := Aside0.mk (hbox)
      have n7_ := kS HB hg
      have n8_ := kS HB hg
      have n9_ := kN BK1007 hg
      have n10_ := kM BK1007 hg
      have n11_ := kN BK1008 hg
      have n12_ := kM BK1008 hg
      have n13_ := kN BK1017 hg
      have n14_ := kM BK1017 hg
      clear HO1012; clear HO1016; clear BK1007; clear BK1008; clear BK1017; clear HB; have HO1012 := n0_; have HO1016 := n1_; have BK1007 := n2_; have BK1008 := n3_; have BK1017 := n4_; have HB := n5_; have BK1018 := n6_; have GW1018 := n7_; have GE1018 := n8_; have NB1007_1018 := n9_; have NB1018_1007 := n10_; have NB1008_1018 := n11_; have NB1018_1008 := n12_; have NB1017_1018 := n13_; have NB1018_1017 := n14_
      clear n0_ n1_ n2_ n3_ n4_ n5_ n6_ n7_ n8_ n9_ n10_ n11_ n12_ n13_ n14_
      clear hb hbox hg
      refine hK.out _ _ ⟨kc BK1007 0, kc BK1007 1, kc BK1008 0, kc BK1008 1⟩ (fun hHeld => ?_)
      clear hK K
      refine norm_ (a' := ?_) ?_ ?_
      rotate_left
      · show Act.put _ (some 6) _ = _
        simp only [Act.put, List.setIfInBounds_toArray, List.set_cons_zero, List.set_cons_succ, i64_w, i32_w]
        rfl
      exact norm_ (by first | (simp only [putAll, Act.put, List.setIfInBounds_toArray, List.set_cons_zero, List.set_cons_succ]; done) | (simp only [putAll, Act.put, List.setIfInBounds_toArray, List.set_cons_zero, List.set_cons_succ]; rfl)) (hJ1_3_4_5 (v1011, v1015, gb1017, gb1018) _ ⟨hHeld, (by (with_reducible repeat (first | apply Kd.V_alloc | apply Kd.V_drewN | apply Kd.V_drew)); exact Kd.V_mono HO1012.out (fun _ hk => ⟨hk.1.1, ⟨hk.1.2.1, ⟨hk.1.2.2, hk.2⟩⟩⟩)), (by (with_reducible repeat (first | apply Kd.V_alloc | apply Kd.V_drewN | apply Kd.V_drew)); exact Kd.V_mono HO1016.out (fun _ hk => ⟨hk.1.1, ⟨hk.1.2.1, ⟨hk.1.2.2, hk.2⟩⟩⟩)), (kx BK1007), (kx BK1008), (kx BK1017), (kx BK1018), GW1017.out, GE1017.out, NB1007_1017.out, NB1017_1007.out, NB1008_1017.out, NB1017_1008.out, NB1018_1017.out, NB1017_1018.out, GW1018.out, GE1018.out, NB1007_1018.out, NB1018_1007.out, NB1008_1018.out, NB1018_1008.out, (ky HB)⟩)
  rintro ⟨v1011, v1015, gb1017, gb1018⟩ w26 ⟨hS_, h0_, h1_, h2_, h3_, h4_, h5_, h6_, h7_, h8_, h9_, h10_, h11_, h12_, h13_, h14_, h15_, h16_, h17_, h18_, h19_, h20_⟩
  have n0_ : Aside0 (Kd.V (Kd.int .i64) 3 w26 w.heap.size (fun k_ => k_ ≠ gb1007 ∧ k_ ≠ gb1008 ∧ k_ ≠ gb1017 ∧ k_ ≠ gb1018) v1011 t1010) := ⟨h0_⟩
  have n1_ : Aside0 (Kd.V (Kd.int .i64) 3 w26 w.heap.size (fun k_ => k_ ≠ gb1007 ∧ k_ ≠ gb1008 ∧ k_ ≠ gb1017 ∧ k_ ≠ gb1018) v1015 t1014) := ⟨h1_⟩
  have n2_ : Aside0 (w26.heap[gb1007]? = some (.cells #[.int .i64 a0_0, .int .u64 a0_1] 24 (0, 0))) := ⟨h2_⟩
  have n3_ : Aside0 (w26.heap[gb1008]? = some (.cells #[.int .i64 a1_0, .int .u64 a1_1] 24 (0, 0))) := ⟨h3_⟩
  have n4_ : Aside0 (w26.heap[gb1017]? = some (.cells #[.bool false, .slice none 0 0] 32 (0, 0))) := ⟨h4_⟩
  have n5_ : Aside0 (w26.heap[gb1018]? = some (.cells #[.bool false, .slice none 0 0] 32 (0, 0))) := ⟨h5_⟩
  have n6_ : Aside0 (w.heap.size ≤ gb1017) := ⟨h6_⟩
  have n7_ : Aside0 (w.heap.size ≤ gb1017) := ⟨h7_⟩
  have n8_ : Aside0 (gb1007 ≠ gb1017) := ⟨h8_⟩
  have n9_ : Aside0 (gb1017 ≠ gb1007) := ⟨h9_⟩
  have n10_ : Aside0 (gb1008 ≠ gb1017) := ⟨h10_⟩
  have n11_ : Aside0 (gb1017 ≠ gb1008) := ⟨h11_⟩
  have n12_ : Aside0 (gb1018 ≠ gb1017) := ⟨h12_⟩
  have n13_ : Aside0 (gb1017 ≠ gb1018) := ⟨h13_⟩
  have n14_ : Aside0 (w.heap.size ≤ gb1018) := ⟨h14_⟩
  have n15_ : Aside0 (w.heap.size ≤ gb1018) := ⟨h15_⟩
  have n16_ : Aside0 (gb1007 ≠ gb1018) := ⟨h16_⟩
  have n17_ : Aside0 (gb1018 ≠ gb1007) := ⟨h17_⟩
  have n18_ : Aside0 (gb1008 ≠ gb1018) := ⟨h18_⟩
  have n19_ : Aside0 (gb1018 ≠ gb1008) := ⟨h19_⟩
  have n20_ : Aside0 (Below w.heap.size w w26) := ⟨h20_⟩
  clear BK1007; clear BK1008; clear HB
  clear h0_ h1_ h2_ h3_ h4_ h5_ h6_ h7_ h8_ h9_ h10_ h11_ h12_ h13_ h14_ h15_ h16_ h17_ h18_ h19_ h20_
  have HO1012 := n0_; have HO1016 := n1_; have BK1007 := n2_; have BK1008 := n3_; have BK1017 := n4_; have BK1018 := n5_; have GW1017 := n6_; have GE1017 := n7_; have NB1007_1017 := n8_; have NB1017_1007 := n9_; have NB1008_1017 := n10_; have NB1017_1008 := n11_; have NB1018_1017 := n12_; have NB1017_1018 := n13_; have GW1018 := n14_; have GE1018 := n15_; have NB1007_1018 := n16_; have NB1018_1007 := n17_; have NB1008_1018 := n18_; have NB1018_1008 := n19_; have HB := n20_
  clear n0_ n1_ n2_ n3_ n4_ n5_ n6_ n7_ n8_ n9_ n10_ n11_ n12_ n13_ n14_ n15_ n16_ n17_ n18_ n19_ n20_
  have hHeld : w26.cell? ⟨gb1007, 0, none⟩ = some (.int .i64 a0_0) ∧ w26.cell? ⟨gb1007, 1, none⟩ = some (.int .u64 a0_1) ∧ w26.cell? ⟨gb1008, 0, none⟩ = some (.int .i64 a1_0) ∧ w26.cell? ⟨gb1008, 1, none⟩ = some (.int .u64 a1_1) := hS_
  obtain ⟨Ao28, co28, eo28⟩ := Kd.V_slice HO1012.out
  (first | subst eo28 | (injection eo28 with f1_ f2_ f3_; have f4_ := f1_.symm; have f5_ := f3_.symm; clear f1_ f2_ f3_; subst f4_; subst f5_))
  obtain ⟨Ao31, co31, eo31⟩ := Kd.V_slice HO1016.out
  (first | subst eo31 | (injection eo31 with f1_ f2_ f3_; have f4_ := f1_.symm; have f5_ := f3_.symm; clear f1_ f2_ f3_; subst f4_; subst f5_))
  refine norm_ (a' := ?_) ?_ ?_
  rotate_left
  · simp only [putAll, Act.put, List.setIfInBounds_toArray, List.set_cons_zero, List.set_cons_succ]
    rfl
  refine one_ (i := 6) (N := none) #[T, T, T, T, T, T, T, O] rfl rfl (one_of HT_.out (by kernel_rfl)) (by decide) (fun K hK => ?_)
  have hs27 : w26.cell? ⟨gb1017, 0, none⟩ = some (.bool false) := kc BK1017 0
  have hfs27 := blk_frozen BK1017.out 0
  have hns27_0 := NB1007_1017.out; have hns27_1 := NB1008_1017.out; have hns27_3 := NB1018_1017.out; have hms27_0 := NB1017_1007.out; have hms27_1 := NB1017_1008.out; have hms27_3 := NB1017_1018.out
  have hs29 : w26.cell? ⟨gb1017, 1, none⟩ = some (.slice none 0 0) := kc BK1017 1
  have hfs29 := blk_frozen BK1017.out 1
  have hns29_0 := NB1007_1017.out; have hns29_1 := NB1008_1017.out; have hns29_3 := NB1018_1017.out; have hms29_0 := NB1017_1007.out; have hms29_1 := NB1017_1008.out; have hms29_3 := NB1017_1018.out
  refine skip_ (w1 := ?_) (by rfl) rfl ?_ ?_
  rotate_left
  · go_simp
    rfl
  refine hK.out _ _ ⟨((cell_far (p := ⟨gb1017, _, none⟩) NB1007_1017.out _).trans (((cell_far (p := ⟨gb1017, _, none⟩) NB1007_1017.out _).trans (hHeld.1)))), ((cell_far (p := ⟨gb1017, _, none⟩) NB1007_1017.out _).trans (((cell_far (p := ⟨gb1017, _, none⟩) NB1007_1017.out _).trans (hHeld.2.1)))), ((cell_far (p := ⟨gb1017, _, none⟩) NB1008_1017.out _).trans (((cell_far (p := ⟨gb1017, _, none⟩) NB1008_1017.out _).trans (hHeld.2.2.1)))), ((cell_far (p := ⟨gb1017, _, none⟩) NB1008_1017.out _).trans (((cell_far (p := ⟨gb1017, _, none⟩) NB1008_1017.out _).trans (hHeld.2.2.2))))⟩ (fun hHeld => ?_)
  clear hK K
  refine one_ (i := 7) (N := none) #[T, T, T, T, T, T, T, T] rfl rfl (one_of HT_.out (by kernel_rfl)) (by decide) (fun K hK => ?_)
  have hs30 : w26.cell? ⟨gb1018, 0, none⟩ = some (.bool false) := kc BK1018 0
  have hfs30 := blk_frozen BK1018.out 0
  have hns30_0 := NB1007_1018.out; have hns30_1 := NB1008_1018.out; have hns30_2 := NB1017_1018.out; have hms30_0 := NB1018_1007.out; have hms30_1 := NB1018_1008.out; have hms30_2 := NB1018_1017.out
  have hs32 : w26.cell? ⟨gb1018, 1, none⟩ = some (.slice none 0 0) := kc BK1018 1
  have hfs32 := blk_frozen BK1018.out 1
  have hns32_0 := NB1007_1018.out; have hns32_1 := NB1008_1018.out; have hns32_2 := NB1017_1018.out; have hms32_0 := NB1018_1007.out; have hms32_1 := NB1018_1008.out; have hms32_2 := NB1018_1017.out
  refine skip_ (w1 := ?_) (by rfl) rfl ?_ ?_
  rotate_left
  · go_simp
    rfl
  refine hK.out _ _ ⟨((cell_far (p := ⟨gb1018, _, none⟩) NB1007_1018.out _).trans (((cell_far (p := ⟨gb1018, _, none⟩) NB1007_1018.out _).trans (hHeld.1)))), ((cell_far (p := ⟨gb1018, _, none⟩) NB1007_1018.out _).trans (((cell_far (p := ⟨gb1018, _, none⟩) NB1007_1018.out _).trans (hHeld.2.1)))), ((cell_far (p := ⟨gb1018, _, none⟩) NB1008_1018.out _).trans (((cell_far (p := ⟨gb1018, _, none⟩) NB1008_1018.out _).trans (hHeld.2.2.1)))), ((cell_far (p := ⟨gb1018, _, none⟩) NB1008_1018.out _).trans (((cell_far (p := ⟨gb1018, _, none⟩) NB1008_1018.out _).trans (hHeld.2.2.2))))⟩ (fun hHeld => ?_)
  clear hK K
  refine done_ (done_of HT_.out (by kernel_rfl)) ?_
  have hnb33 := NB1007_1008.out; have hnc33 := NB1008_1007.out; have hnb34 := NB1007_1017.out; have hnc34 := NB1017_1007.out; have hnb35 := NB1007_1018.out; have hnc35 := NB1018_1007.out
  have hcz36_0 : w26.cell? ⟨gb1007, 0, none⟩ = some (.int .i64 a0_0) := kc BK1007 0
  have hcz36_1 : w26.cell? ⟨gb1007, 1, none⟩ = some (.int .u64 a0_1) := kc BK1007 1
  have hfz36_0 := blk_frozen BK1007.out 0
  have hfz36_1 := blk_frozen BK1007.out 1
  have hnb37 := NB1008_1017.out; have hnc37 := NB1017_1008.out; have hnb38 := NB1008_1018.out; have hnc38 := NB1018_1008.out
  have hcz39_0 : w26.cell? ⟨gb1008, 0, none⟩ = some (.int .i64 a1_0) := kc BK1008 0
  have hcz39_1 : w26.cell? ⟨gb1008, 1, none⟩ = some (.int .u64 a1_1) := kc BK1008 1
  have hfz39_0 := blk_frozen BK1008.out 0
  have hfz39_1 := blk_frozen BK1008.out 1
  try go_wp2_with (first | ((with_reducible refine gate_callee (f := 29) rfl ?_); refine goesL_ (some 20) rfl rfl Try.func29 (by kernel_rfl) rfl #[.agg #[.int .i64 a0_0, .int .u64 a0_1], .agg #[.int .i64 a1_0, .int .u64 a1_1]] rfl (by (try simp only [List.map_toArray, List.map_cons, List.map_nil]); first | done | rfl | (simp only [List.length_drop, List.length_take]; rfl)) ?_; (with_reducible refine (wide_Add.calls a0_0 a0_1 a1_0 a1_1 t1019 t1020 t1021 _ A5.out).mono ?_); rintro e w40 ⟨rfl, hb⟩; refine ⟨_, rfl, ?_⟩; have n0_ := Aside0.mk (Kd.V_below (by (with_reducible repeat (first | apply Kd.V_alloc | apply Kd.V_drewN | apply Kd.V_drew)); exact (Kd.V_mono (Kd.V_mono (Kd.V_far (p := ⟨gb1018, 1, none⟩) (Kd.V_far (p := ⟨gb1018, 0, none⟩) (Kd.V_far (p := ⟨gb1017, 1, none⟩) (Kd.V_far (p := ⟨gb1017, 0, none⟩) (Kd.V_mono (Kd.V_mono HO1012.out (fun k_ hk => (⟨hk, hk.2.2.1⟩ : _ ∧ k_ ≠ gb1017))) (fun k_ hk => (⟨hk, hk.1.2.2.2⟩ : _ ∧ k_ ≠ gb1018))) (fun _ hk => hk.1.2) (.bool t1009)) (fun _ hk => hk.1.2) (.slice Ao28 t1010.length co28)) (fun _ hk => hk.2) (.bool t1013)) (fun _ hk => hk.2) (.slice Ao31 t1014.length co31)) (fun _ h_ => h_.1)) (fun _ h_ => h_.1))) hb); have n1_ := Aside0.mk (Kd.V_below (by (with_reducible repeat (first | apply Kd.V_alloc | apply Kd.V_drewN | apply Kd.V_drew)); exact (Kd.V_mono (Kd.V_mono (Kd.V_far (p := ⟨gb1018, 1, none⟩) (Kd.V_far (p := ⟨gb1018, 0, none⟩) (Kd.V_far (p := ⟨gb1017, 1, none⟩) (Kd.V_far (p := ⟨gb1017, 0, none⟩) (Kd.V_mono (Kd.V_mono HO1016.out (fun k_ hk => (⟨hk, hk.2.2.1⟩ : _ ∧ k_ ≠ gb1017))) (fun k_ hk => (⟨hk, hk.1.2.2.2⟩ : _ ∧ k_ ≠ gb1018))) (fun _ hk => hk.1.2) (.bool t1009)) (fun _ hk => hk.1.2) (.slice Ao28 t1010.length co28)) (fun _ hk => hk.2) (.bool t1013)) (fun _ hk => hk.2) (.slice Ao31 t1014.length co31)) (fun _ h_ => h_.1)) (fun _ h_ => h_.1))) hb); have n2_ := kb BK1007 hb; have n3_ := kb BK1008 hb; have n4_ := Aside0.mk (blk_below (g := gb1017) (o := .cells #[.bool t1009, .slice Ao28 t1010.length co28] 32 (0, 0)) (by (with_reducible repeat (first | refine blk_drewN ?_ _ | refine blk_drew ?_ | refine blk_alloc ?_ _)); refine blk_far ?_ NB1017_1018.out _; (with_reducible repeat (first | refine blk_drewN ?_ _ | refine blk_drew ?_ | refine blk_alloc ?_ _)); refine blk_far ?_ NB1017_1018.out _; (with_reducible repeat (first | refine blk_drewN ?_ _ | refine blk_drew ?_ | refine blk_alloc ?_ _)); refine blk_put (cs := #[.bool t1009, .slice none 0 0]) ?_ 1 _ rfl; (with_reducible repeat (first | refine blk_drewN ?_ _ | refine blk_drew ?_ | refine blk_alloc ?_ _)); refine blk_put (cs := #[.bool false, .slice none 0 0]) ?_ 0 _ rfl; (with_reducible repeat (first | refine blk_drewN ?_ _ | refine blk_drew ?_ | refine blk_alloc ?_ _)); exact BK1017.out) hb); have n5_ := Aside0.mk (blk_below (g := gb1018) (o := .cells #[.bool t1013, .slice Ao31 t1014.length co31] 32 (0, 0)) (by (with_reducible repeat (first | refine blk_drewN ?_ _ | refine blk_drew ?_ | refine blk_alloc ?_ _)); refine blk_put (cs := #[.bool t1013, .slice none 0 0]) ?_ 1 _ rfl; (with_reducible repeat (first | refine blk_drewN ?_ _ | refine blk_drew ?_ | refine blk_alloc ?_ _)); refine blk_put (cs := #[.bool false, .slice none 0 0]) ?_ 0 _ rfl; (with_reducible repeat (first | refine blk_drewN ?_ _ | refine blk_drew ?_ | refine blk_alloc ?_ _)); refine blk_far ?_ NB1018_1017.out _; (with_reducible repeat (first | refine blk_drewN ?_ _ | refine blk_drew ?_ | refine blk_alloc ?_ _)); refine blk_far ?_ NB1018_1017.out _; (with_reducible repeat (first | refine blk_drewN ?_ _ | refine blk_drew ?_ | refine blk_alloc ?_ _)); exact BK1018.out) hb); have n6_ := kB HB hb; clear HO1012; clear HO1016; clear BK1007; clear BK1008; clear BK1017; clear BK1018; clear HB; have HO1012 := n0_; have HO1016 := n1_; have BK1007 := n2_; have BK1008 := n3_; have BK1017 := n4_; have BK1018 := n5_; have HB := n6_; clear n0_ n1_ n2_ n3_ n4_ n5_ n6_; (try clear hb); (try clear hb2); (try clear hk); (try clear hi)) | ((with_reducible refine gate_dst (N := 7) rfl ?_); refine box_event ?hg (N := 7) ?hd (cs := #[.int .i64 0, .int .u64 0]) (t := 24) ?hr ?_; (case hd => rfl); (case hg => rfl); (case hr => first | (go_simp; done) | (go_simp; rfl)); intro gb1022 hg w41 hbox hb; have n0_ := Aside0.mk (Kd.V_below (Kd.V_elderB (kv HO1012) gb1022 (Nat.le_of_eq hg.symm)) hb); have n1_ := Aside0.mk (Kd.V_below (Kd.V_elderB (kv HO1016) gb1022 (Nat.le_of_eq hg.symm)) hb); have n2_ := kb BK1007 hb; have n3_ := kb BK1008 hb; have n4_ := kb BK1017 hb; have n5_ := kb BK1018 hb; have n6_ := kB HB hb; have n7_ := Aside0.mk (hbox); have n8_ := kS HB hg; have n9_ := kS HB hg; have n10_ := kN BK1007 hg; have n11_ := kM BK1007 hg; have n12_ := kN BK1008 hg; have n13_ := kM BK1008 hg; have n14_ := kN BK1017 hg; have n15_ := kM BK1017 hg; have n16_ := kN BK1018 hg; have n17_ := kM BK1018 hg; clear HO1012; clear HO1016; clear BK1007; clear BK1008; clear BK1017; clear BK1018; clear HB; have HO1012 := n0_; have HO1016 := n1_; have BK1007 := n2_; have BK1008 := n3_; have BK1017 := n4_; have BK1018 := n5_; have HB := n6_; have BK1022 := n7_; have GW1022 := n8_; have GE1022 := n9_; have NB1007_1022 := n10_; have NB1022_1007 := n11_; have NB1008_1022 := n12_; have NB1022_1008 := n13_; have NB1017_1022 := n14_; have NB1022_1017 := n15_; have NB1018_1022 := n16_; have NB1022_1018 := n17_; clear n0_ n1_ n2_ n3_ n4_ n5_ n6_ n7_ n8_ n9_ n10_ n11_ n12_ n13_ n14_ n15_ n16_ n17_; clear hb hbox hg; have hnb42 := NB1022_1007.out; have hnc42 := NB1007_1022.out; have hnb43 := NB1022_1008.out; have hnc43 := NB1008_1022.out; have hnb44 := NB1022_1017.out; have hnc44 := NB1017_1022.out; have hnb45 := NB1022_1018.out; have hnc45 := NB1018_1022.out; have hcz46_0 : w41.cell? ⟨gb1022, 0, none⟩ = some (.int .i64 0) := kc BK1022 0; have hcz46_1 : w41.cell? ⟨gb1022, 1, none⟩ = some (.int .u64 0) := kc BK1022 1; have hfz46_0 := blk_frozen BK1022.out 0; have hfz46_1 := blk_frozen BK1022.out 1; have hcz47_0 : w41.cell? ⟨gb1007, 0, none⟩ = some (.int .i64 a0_0) := kc BK1007 0; have hcz47_1 : w41.cell? ⟨gb1007, 1, none⟩ = some (.int .u64 a0_1) := kc BK1007 1; have hfz47_0 := blk_frozen BK1007.out 0; have hfz47_1 := blk_frozen BK1007.out 1; have hcz48_0 : w41.cell? ⟨gb1008, 0, none⟩ = some (.int .i64 a1_0) := kc BK1008 0; have hcz48_1 : w41.cell? ⟨gb1008, 1, none⟩ = some (.int .u64 a1_1) := kc BK1008 1; have hfz48_0 := blk_frozen BK1008.out 0; have hfz48_1 := blk_frozen BK1008.out 1) | ((with_reducible refine gate_callee (f := 43) rfl ?_); refine goesL_ (some 26) rfl rfl Try.func43 (by kernel_rfl) rfl #[.agg #[.int .i64 a0_0, .int .u64 a0_1], .agg #[.int .i64 a1_0, .int .u64 a1_1]] rfl (by (try simp only [List.map_toArray, List.map_cons, List.map_nil]); first | done | rfl | (simp only [List.length_drop, List.length_take]; rfl)) ?_; (with_reducible refine (wide_Sub.calls a0_0 a0_1 a1_0 a1_1 t1023 t1024 t1025 _ A6.out).mono ?_); rintro e w49 ⟨rfl, hb⟩; refine ⟨_, rfl, ?_⟩; have n0_ := Aside0.mk (Kd.V_below (by (with_reducible repeat (first | apply Kd.V_alloc | apply Kd.V_drewN | apply Kd.V_drew)); exact (Kd.V_mono (Kd.V_far (p := ⟨gb1022, 1, none⟩) (Kd.V_far (p := ⟨gb1022, 0, none⟩) (Kd.V_mono HO1012.out (fun k_ hk => (⟨hk, hk.2⟩ : _ ∧ k_ ≠ gb1022))) (fun _ hk => hk.2) (.int .i64 t1019)) (fun _ hk => hk.2) (.int .u64 t1020)) (fun _ h_ => h_.1))) hb); have n1_ := Aside0.mk (Kd.V_below (by (with_reducible repeat (first | apply Kd.V_alloc | apply Kd.V_drewN | apply Kd.V_drew)); exact (Kd.V_mono (Kd.V_far (p := ⟨gb1022, 1, none⟩) (Kd.V_far (p := ⟨gb1022, 0, none⟩) (Kd.V_mono HO1016.out (fun k_ hk => (⟨hk, hk.2⟩ : _ ∧ k_ ≠ gb1022))) (fun _ hk => hk.2) (.int .i64 t1019)) (fun _ hk => hk.2) (.int .u64 t1020)) (fun _ h_ => h_.1))) hb); have n2_ := kb BK1007 hb; have n3_ := kb BK1008 hb; have n4_ := kb BK1017 hb; have n5_ := kb BK1018 hb; have n6_ := Aside0.mk (blk_below (g := gb1022) (o := .cells #[.int .i64 t1019, .int .u64 t1020] 24 (0, 0)) (by (with_reducible repeat (first | refine blk_drewN ?_ _ | refine blk_drew ?_ | refine blk_alloc ?_ _)); refine blk_put (cs := #[.int .i64 t1019, .int .u64 0]) ?_ 1 _ rfl; (with_reducible repeat (first | refine blk_drewN ?_ _ | refine blk_drew ?_ | refine blk_alloc ?_ _)); refine blk_put (cs := #[.int .i64 0, .int .u64 0]) ?_ 0 _ rfl; (with_reducible repeat (first | refine blk_drewN ?_ _ | refine blk_drew ?_ | refine blk_alloc ?_ _)); exact BK1022.out) hb); have n7_ := kB HB hb; clear HO1012; clear HO1016; clear BK1007; clear BK1008; clear BK1017; clear BK1018; clear BK1022; clear HB; have HO1012 := n0_; have HO1016 := n1_; have BK1007 := n2_; have BK1008 := n3_; have BK1017 := n4_; have BK1018 := n5_; have BK1022 := n6_; have HB := n7_; clear n0_ n1_ n2_ n3_ n4_ n5_ n6_ n7_; (try clear hb); (try clear hb2); (try clear hk); (try clear hi)) | ((with_reducible refine gate_dst (N := 9) rfl ?_); refine box_event ?hg (N := 9) ?hd (cs := #[.int .i64 0, .int .u64 0]) (t := 24) ?hr ?_; (case hd => rfl); (case hg => rfl); (case hr => first | (go_simp; done) | (go_simp; rfl)); intro gb1026 hg w50 hbox hb; have n0_ := Aside0.mk (Kd.V_below (Kd.V_elderB (kv HO1012) gb1026 (Nat.le_of_eq hg.symm)) hb); have n1_ := Aside0.mk (Kd.V_below (Kd.V_elderB (kv HO1016) gb1026 (Nat.le_of_eq hg.symm)) hb); have n2_ := kb BK1007 hb; have n3_ := kb BK1008 hb; have n4_ := kb BK1017 hb; have n5_ := kb BK1018 hb; have n6_ := kb BK1022 hb; have n7_ := kB HB hb; have n8_ := Aside0.mk (hbox); have n9_ := kS HB hg; have n10_ := kS HB hg; have n11_ := kN BK1007 hg; have n12_ := kM BK1007 hg; have n13_ := kN BK1008 hg; have n14_ := kM BK1008 hg; have n15_ := kN BK1017 hg; have n16_ := kM BK1017 hg; have n17_ := kN BK1018 hg; have n18_ := kM BK1018 hg; have n19_ := kN BK1022 hg; have n20_ := kM BK1022 hg; clear HO1012; clear HO1016; clear BK1007; clear BK1008; clear BK1017; clear BK1018; clear BK1022; clear HB; have HO1012 := n0_; have HO1016 := n1_; have BK1007 := n2_; have BK1008 := n3_; have BK1017 := n4_; have BK1018 := n5_; have BK1022 := n6_; have HB := n7_; have BK1026 := n8_; have GW1026 := n9_; have GE1026 := n10_; have NB1007_1026 := n11_; have NB1026_1007 := n12_; have NB1008_1026 := n13_; have NB1026_1008 := n14_; have NB1017_1026 := n15_; have NB1026_1017 := n16_; have NB1018_1026 := n17_; have NB1026_1018 := n18_; have NB1022_1026 := n19_; have NB1026_1022 := n20_; clear n0_ n1_ n2_ n3_ n4_ n5_ n6_ n7_ n8_ n9_ n10_ n11_ n12_ n13_ n14_ n15_ n16_ n17_ n18_ n19_ n20_; clear hb hbox hg; have hnb51 := NB1026_1007.out; have hnc51 := NB1007_1026.out; have hnb52 := NB1026_1008.out; have hnc52 := NB1008_1026.out; have hnb53 := NB1026_1017.out; have hnc53 := NB1017_1026.out; have hnb54 := NB1026_1018.out; have hnc54 := NB1018_1026.out; have hnb55 := NB1026_1022.out; have hnc55 := NB1022_1026.out; have hcz56_0 : w50.cell? ⟨gb1026, 0, none⟩ = some (.int .i64 0) := kc BK1026 0; have hcz56_1 : w50.cell? ⟨gb1026, 1, none⟩ = some (.int .u64 0) := kc BK1026 1; have hfz56_0 := blk_frozen BK1026.out 0; have hfz56_1 := blk_frozen BK1026.out 1; have hcz57_0 : w50.cell? ⟨gb1007, 0, none⟩ = some (.int .i64 a0_0) := kc BK1007 0; have hcz57_1 : w50.cell? ⟨gb1007, 1, none⟩ = some (.int .u64 a0_1) := kc BK1007 1; have hfz57_0 := blk_frozen BK1007.out 0; have hfz57_1 := blk_frozen BK1007.out 1) | ((with_reducible refine gate_callee (f := 44) rfl ?_); refine goesL_ (some 31) rfl rfl Try.func44 (by kernel_rfl) rfl #[.agg #[.int .i64 a0_0, .int .u64 a0_1]] rfl (by (try simp only [List.map_toArray, List.map_cons, List.map_nil]); first | done | rfl | (simp only [List.length_drop, List.length_take]; rfl)) ?_; (with_reducible refine (wide_Neg.calls a0_0 a0_1 t1027 t1028 t1029 _ A7.out).mono ?_); rintro e w58 ⟨rfl, hb⟩; refine ⟨_, rfl, ?_⟩; have n0_ := Aside0.mk (Kd.V_below (by (with_reducible repeat (first | apply Kd.V_alloc | apply Kd.V_drewN | apply Kd.V_drew)); exact (Kd.V_mono (Kd.V_far (p := ⟨gb1026, 1, none⟩) (Kd.V_far (p := ⟨gb1026, 0, none⟩) (Kd.V_mono HO1012.out (fun k_ hk => (⟨hk, hk.2⟩ : _ ∧ k_ ≠ gb1026))) (fun _ hk => hk.2) (.int .i64 t1023)) (fun _ hk => hk.2) (.int .u64 t1024)) (fun _ h_ => h_.1))) hb); have n1_ := Aside0.mk (Kd.V_below (by (with_reducible repeat (first | apply Kd.V_alloc | apply Kd.V_drewN | apply Kd.V_drew)); exact (Kd.V_mono (Kd.V_far (p := ⟨gb1026, 1, none⟩) (Kd.V_far (p := ⟨gb1026, 0, none⟩) (Kd.V_mono HO1016.out (fun k_ hk => (⟨hk, hk.2⟩ : _ ∧ k_ ≠ gb1026))) (fun _ hk => hk.2) (.int .i64 t1023)) (fun _ hk => hk.2) (.int .u64 t1024)) (fun _ h_ => h_.1))) hb); have n2_ := kb BK1007 hb; have n3_ := kb BK1008 hb; have n4_ := kb BK1017 hb; have n5_ := kb BK1018 hb; have n6_ := kb BK1022 hb; have n7_ := Aside0.mk (blk_below (g := gb1026) (o := .cells #[.int .i64 t1023, .int .u64 t1024] 24 (0, 0)) (by (with_reducible repeat (first | refine blk_drewN ?_ _ | refine blk_drew ?_ | refine blk_alloc ?_ _)); refine blk_put (cs := #[.int .i64 t1023, .int .u64 0]) ?_ 1 _ rfl; (with_reducible repeat (first | refine blk_drewN ?_ _ | refine blk_drew ?_ | refine blk_alloc ?_ _)); refine blk_put (cs := #[.int .i64 0, .int .u64 0]) ?_ 0 _ rfl; (with_reducible repeat (first | refine blk_drewN ?_ _ | refine blk_drew ?_ | refine blk_alloc ?_ _)); exact BK1026.out) hb); have n8_ := kB HB hb; clear HO1012; clear HO1016; clear BK1007; clear BK1008; clear BK1017; clear BK1018; clear BK1022; clear BK1026; clear HB; have HO1012 := n0_; have HO1016 := n1_; have BK1007 := n2_; have BK1008 := n3_; have BK1017 := n4_; have BK1018 := n5_; have BK1022 := n6_; have BK1026 := n7_; have HB := n8_; clear n0_ n1_ n2_ n3_ n4_ n5_ n6_ n7_ n8_; (try clear hb); (try clear hb2); (try clear hk); (try clear hi)) | ((with_reducible refine gate_dst (N := 11) rfl ?_); refine box_event ?hg (N := 11) ?hd (cs := #[.int .i64 0, .int .u64 0]) (t := 24) ?hr ?_; (case hd => rfl); (case hg => rfl); (case hr => first | (go_simp; done) | (go_simp; rfl)); intro gb1030 hg w59 hbox hb; have n0_ := Aside0.mk (Kd.V_below (Kd.V_elderB (kv HO1012) gb1030 (Nat.le_of_eq hg.symm)) hb); have n1_ := Aside0.mk (Kd.V_below (Kd.V_elderB (kv HO1016) gb1030 (Nat.le_of_eq hg.symm)) hb); have n2_ := kb BK1007 hb; have n3_ := kb BK1008 hb; have n4_ := kb BK1017 hb; have n5_ := kb BK1018 hb; have n6_ := kb BK1022 hb; have n7_ := kb BK1026 hb; have n8_ := kB HB hb; have n9_ := Aside0.mk (hbox); have n10_ := kS HB hg; have n11_ := kS HB hg; have n12_ := kN BK1007 hg; have n13_ := kM BK1007 hg; have n14_ := kN BK1008 hg; have n15_ := kM BK1008 hg; have n16_ := kN BK1017 hg; have n17_ := kM BK1017 hg; have n18_ := kN BK1018 hg; have n19_ := kM BK1018 hg; have n20_ := kN BK1022 hg; have n21_ := kM BK1022 hg; have n22_ := kN BK1026 hg; have n23_ := kM BK1026 hg; clear HO1012; clear HO1016; clear BK1007; clear BK1008; clear BK1017; clear BK1018; clear BK1022; clear BK1026; clear HB; have HO1012 := n0_; have HO1016 := n1_; have BK1007 := n2_; have BK1008 := n3_; have BK1017 := n4_; have BK1018 := n5_; have BK1022 := n6_; have BK1026 := n7_; have HB := n8_; have BK1030 := n9_; have GW1030 := n10_; have GE1030 := n11_; have NB1007_1030 := n12_; have NB1030_1007 := n13_; have NB1008_1030 := n14_; have NB1030_1008 := n15_; have NB1017_1030 := n16_; have NB1030_1017 := n17_; have NB1018_1030 := n18_; have NB1030_1018 := n19_; have NB1022_1030 := n20_; have NB1030_1022 := n21_; have NB1026_1030 := n22_; have NB1030_1026 := n23_; clear n0_ n1_ n2_ n3_ n4_ n5_ n6_ n7_ n8_ n9_ n10_ n11_ n12_ n13_ n14_ n15_ n16_ n17_ n18_ n19_ n20_ n21_ n22_ n23_; clear hb hbox hg; have hnb60 := NB1030_1007.out; have hnc60 := NB1007_1030.out; have hnb61 := NB1030_1008.out; have hnc61 := NB1008_1030.out; have hnb62 := NB1030_1017.out; have hnc62 := NB1017_1030.out; have hnb63 := NB1030_1018.out; have hnc63 := NB1018_1030.out; have hnb64 := NB1030_1022.out; have hnc64 := NB1022_1030.out; have hnb65 := NB1030_1026.out; have hnc65 := NB1026_1030.out; have hcz66_0 : w59.cell? ⟨gb1030, 0, none⟩ = some (.int .i64 0) := kc BK1030 0; have hcz66_1 : w59.cell? ⟨gb1030, 1, none⟩ = some (.int .u64 0) := kc BK1030 1; have hfz66_0 := blk_frozen BK1030.out 0; have hfz66_1 := blk_frozen BK1030.out 1))
  have n0_ : Aside0 (Kd.V (Kd.int .i64) 3 ((w59.setCell ⟨gb1030, 0, none⟩ (.int .i64 t1027)).setCell ⟨gb1030, 1, none⟩ (.int .u64 t1028)) w.heap.size (fun k_ => k_ ≠ gb1007 ∧ k_ ≠ gb1008 ∧ k_ ≠ gb1017 ∧ k_ ≠ gb1018 ∧ k_ ≠ gb1022 ∧ k_ ≠ gb1026 ∧ k_ ≠ gb1030) (.slice Ao28 t1010.length co28) t1010) := ⟨by (with_reducible repeat (first | apply Kd.V_alloc | apply Kd.V_drewN | apply Kd.V_drew)); exact Kd.V_mono (Kd.V_far (p := ⟨gb1030, 1, none⟩) (Kd.V_far (p := ⟨gb1030, 0, none⟩) (Kd.V_mono HO1012.out (fun k_ hk => (⟨hk, hk.2⟩ : _ ∧ k_ ≠ gb1030))) (fun _ hk => hk.2) (.int .i64 t1027)) (fun _ hk => hk.2) (.int .u64 t1028)) (fun _ hk => ⟨hk.1.1.1.1.1, ⟨hk.1.1.1.1.2.1, ⟨hk.1.1.1.1.2.2.1, ⟨hk.1.1.1.1.2.2.2, ⟨hk.1.1.1.2, ⟨hk.1.1.2, hk.1.2⟩⟩⟩⟩⟩⟩)⟩
  have n1_ : Aside0 (Kd.V (Kd.int .i64) 3 ((w59.setCell ⟨gb1030, 0, none⟩ (.int .i64 t1027)).setCell ⟨gb1030, 1, none⟩ (.int .u64 t1028)) w.heap.size (fun k_ => k_ ≠ gb1007 ∧ k_ ≠ gb1008 ∧ k_ ≠ gb1017 ∧ k_ ≠ gb1018 ∧ k_ ≠ gb1022 ∧ k_ ≠ gb1026 ∧ k_ ≠ gb1030) (.slice Ao31 t1014.length co31) t1014) := ⟨by (with_reducible repeat (first | apply Kd.V_alloc | apply Kd.V_drewN | apply Kd.V_drew)); exact Kd.V_mono (Kd.V_far (p := ⟨gb1030, 1, none⟩) (Kd.V_far (p := ⟨gb1030, 0, none⟩) (Kd.V_mono HO1016.out (fun k_ hk => (⟨hk, hk.2⟩ : _ ∧ k_ ≠ gb1030))) (fun _ hk => hk.2) (.int .i64 t1027)) (fun _ hk => hk.2) (.int .u64 t1028)) (fun _ hk => ⟨hk.1.1.1.1.1, ⟨hk.1.1.1.1.2.1, ⟨hk.1.1.1.1.2.2.1, ⟨hk.1.1.1.1.2.2.2, ⟨hk.1.1.1.2, ⟨hk.1.1.2, hk.1.2⟩⟩⟩⟩⟩⟩)⟩
  have n2_ : Aside0 (((w59.setCell ⟨gb1030, 0, none⟩ (.int .i64 t1027)).setCell ⟨gb1030, 1, none⟩ (.int .u64 t1028)).heap[gb1007]? = some (.cells #[.int .i64 a0_0, .int .u64 a0_1] 24 (0, 0))) := ⟨kx BK1007⟩
  have n3_ : Aside0 (((w59.setCell ⟨gb1030, 0, none⟩ (.int .i64 t1027)).setCell ⟨gb1030, 1, none⟩ (.int .u64 t1028)).heap[gb1008]? = some (.cells #[.int .i64 a1_0, .int .u64 a1_1] 24 (0, 0))) := ⟨kx BK1008⟩
  have n4_ : Aside0 (((w59.setCell ⟨gb1030, 0, none⟩ (.int .i64 t1027)).setCell ⟨gb1030, 1, none⟩ (.int .u64 t1028)).heap[gb1017]? = some (.cells #[.bool t1009, .slice Ao28 t1010.length co28] 32 (0, 0))) := ⟨kx BK1017⟩
  have n5_ : Aside0 (((w59.setCell ⟨gb1030, 0, none⟩ (.int .i64 t1027)).setCell ⟨gb1030, 1, none⟩ (.int .u64 t1028)).heap[gb1018]? = some (.cells #[.bool t1013, .slice Ao31 t1014.length co31] 32 (0, 0))) := ⟨kx BK1018⟩
  have n6_ : Aside0 (((w59.setCell ⟨gb1030, 0, none⟩ (.int .i64 t1027)).setCell ⟨gb1030, 1, none⟩ (.int .u64 t1028)).heap[gb1022]? = some (.cells #[.int .i64 t1019, .int .u64 t1020] 24 (0, 0))) := ⟨kx BK1022⟩
  have n7_ : Aside0 (((w59.setCell ⟨gb1030, 0, none⟩ (.int .i64 t1027)).setCell ⟨gb1030, 1, none⟩ (.int .u64 t1028)).heap[gb1026]? = some (.cells #[.int .i64 t1023, .int .u64 t1024] 24 (0, 0))) := ⟨kx BK1026⟩
  have n8_ : Aside0 (((w59.setCell ⟨gb1030, 0, none⟩ (.int .i64 t1027)).setCell ⟨gb1030, 1, none⟩ (.int .u64 t1028)).heap[gb1030]? = some (.cells #[.int .i64 t1027, .int .u64 t1028] 24 (0, 0))) := ⟨by (with_reducible repeat (first | refine blk_drewN ?_ _ | refine blk_drew ?_ | refine blk_alloc ?_ _)); refine blk_put (cs := #[.int .i64 t1027, .int .u64 0]) ?_ 1 _ rfl; (with_reducible repeat (first | refine blk_drewN ?_ _ | refine blk_drew ?_ | refine blk_alloc ?_ _)); refine blk_put (cs := #[.int .i64 0, .int .u64 0]) ?_ 0 _ rfl; (with_reducible repeat (first | refine blk_drewN ?_ _ | refine blk_drew ?_ | refine blk_alloc ?_ _)); exact BK1030.out⟩
  have n9_ : Aside0 (Below w.heap.size w ((w59.setCell ⟨gb1030, 0, none⟩ (.int .i64 t1027)).setCell ⟨gb1030, 1, none⟩ (.int .u64 t1028))) := ⟨ky HB⟩
  (try clear HO1012)
  (try clear HO1016)
  (try clear BK1007)
  (try clear BK1008)
  (try clear BK1017)
  (try clear BK1018)
  (try clear BK1022)
  (try clear BK1026)
  (try clear BK1030)
  (try clear HB)
  generalize ((w59.setCell ⟨gb1030, 0, none⟩ (.int .i64 t1027)).setCell ⟨gb1030, 1, none⟩ (.int .u64 t1028)) = w67 at n0_ n1_ n2_ n3_ n4_ n5_ n6_ n7_ n8_ n9_ ⊢
  have HO1012 := n0_; have HO1016 := n1_; have BK1007 := n2_; have BK1008 := n3_; have BK1017 := n4_; have BK1018 := n5_; have BK1022 := n6_; have BK1026 := n7_; have BK1030 := n8_; have HB := n9_
  clear n0_ n1_ n2_ n3_ n4_ n5_ n6_ n7_ n8_ n9_
  replace HO1012 := Aside0.mk (Kd.V_drew HO1012.out)
  replace HO1016 := Aside0.mk (Kd.V_drew HO1016.out)
  replace BK1007 := Aside0.mk (blk_drew BK1007.out)
  replace BK1008 := Aside0.mk (blk_drew BK1008.out)
  replace BK1017 := Aside0.mk (blk_drew BK1017.out)
  replace BK1018 := Aside0.mk (blk_drew BK1018.out)
  replace BK1022 := Aside0.mk (blk_drew BK1022.out)
  replace BK1026 := Aside0.mk (blk_drew BK1026.out)
  replace BK1030 := Aside0.mk (blk_drew BK1030.out)
  replace HB := Aside0.mk (below_drew1 HB.out)
  refine start_ (n := 26) (S := fun w' => w'.cell? ⟨gb1022, 0, none⟩ = some (.int .i64 t1019) ∧ w'.cell? ⟨gb1022, 1, none⟩ = some (.int .u64 t1020) ∧ w'.cell? ⟨gb1017, 0, none⟩ = some (.bool t1009) ∧ w'.cell? ⟨gb1017, 1, none⟩ = some (.slice Ao28 t1010.length co28) ∧ w'.cell? ⟨gb1018, 0, none⟩ = some (.bool t1013) ∧ w'.cell? ⟨gb1018, 1, none⟩ = some (.slice Ao31 t1014.length co31) ∧ w'.cell? ⟨gb1026, 0, none⟩ = some (.int .i64 t1023) ∧ w'.cell? ⟨gb1026, 1, none⟩ = some (.int .u64 t1024) ∧ w'.cell? ⟨gb1030, 0, none⟩ = some (.int .i64 t1027) ∧ w'.cell? ⟨gb1030, 1, none⟩ = some (.int .u64 t1028)) (ds := []) #[O, O, O, O, O, O, O, O, O, O, O, O, O, O, O, O, O, O, O, O, O, O, O, O, O, O] (by kernel_rfl) rfl rfl ⟨kc BK1022 0, kc BK1022 1, kc BK1017 0, kc BK1017 1, kc BK1018 0, kc BK1018 1, kc BK1026 0, kc BK1026 1, kc BK1030 0, kc BK1030 1⟩ (fun hHeld => ?_); refine with_tabW cobweblaw01_WideAdds.tab5 cobweblaw01_WideAdds.bits5 (fun HT_ HW_ => ?_)
  generalize w67.drew = w68 at HO1012 HO1016 BK1007 BK1008 BK1017 BK1018 BK1022 BK1026 BK1030 HB hHeld ⊢
  refine one_ (i := 0) (N := some 34) #[T, O, O, O, O, O, O, O, O, O, O, O, O, O, O, O, O, O, O, O, O, O, O, O, O, O] rfl rfl (one_of HT_.out (by kernel_rfl)) (by decide) (fun K hK => ?_)
  refine goes_ Try.func16 (by kernel_rfl) rfl #[] (by rfl) rfl rfl (by (try simp only [List.map_toArray, List.map_cons, List.map_nil]); first | done | rfl | (simp only [List.length_drop, List.length_take]; rfl)) ?_
  with_reducible refine (cobweblaw01_alive.calls k  true _ A8.out).mono ?_
  rintro e w69 ⟨rfl, hb⟩
  refine ⟨_, rfl, ?_⟩
  replace HO1012 := kV HO1012 hb
  replace HO1016 := kV HO1016 hb
  replace BK1007 := kb BK1007 hb
  replace BK1008 := kb BK1008 hb
  replace BK1017 := kb BK1017 hb
  replace BK1018 := kb BK1018 hb
  replace BK1022 := kb BK1022 hb
  replace BK1026 := kb BK1026 hb
  replace BK1030 := kb BK1030 hb
  replace HB := kB HB hb
  (try clear hb)
  (try clear hb2)
  (try clear hk)
  (try clear hi)
  refine hK.out _ _ ⟨kc BK1022 0, kc BK1022 1, kc BK1017 0, kc BK1017 1, kc BK1018 0, kc BK1018 1, kc BK1026 0, kc BK1026 1, kc BK1030 0, kc BK1030 1⟩ (fun hHeld => ?_)
  clear hK K
  refine norm_ (a' := ?_) ?_ ?_
  rotate_left
  · show Act.put _ (some 34) _ = _
    simp only [Act.put, List.setIfInBounds_toArray, List.set_cons_zero, List.set_cons_succ, i64_w, i32_w]
    rfl
  refine pure_ (i := 1) (N := some 35) (v := ?_) (a' := ?_) #[T, T, O, O, O, O, O, O, O, O, O, O, O, O, O, O, O, O, O, O, O, O, O, O, O, O] rfl rfl (any_of HT_.out (by kernel_rfl)) (fun _ _ _ h => h) (Or.inl ⟨by rfl, ?_⟩) ?_ ?_; rotate_left; focus (intro w'; go_simp; with_reducible rfl)
  rotate_left; focus (simp only [Act.put, List.setIfInBounds_toArray, List.set_cons_zero, List.set_cons_succ, i64_w, i32_w]; rfl)
  refine pure_ (i := 3) (N := some 37) (v := ?_) (a' := ?_) #[T, T, O, T, O, O, O, O, O, O, O, O, O, O, O, O, O, O, O, O, O, O, O, O, O, O] rfl rfl (any_of HT_.out (by kernel_rfl)) (fun _ _ _ h => h) (Or.inl ⟨by rfl, ?_⟩) ?_ ?_; rotate_left; focus (intro w'; go_simp; with_reducible rfl)
  rotate_left; focus (simp only [Act.put, List.setIfInBounds_toArray, List.set_cons_zero, List.set_cons_succ, i64_w, i32_w]; rfl)
  refine take_ (i := 2) (N := some 36) (v := ?_) (a' := ?_) #[T, T, T, T, O, O, O, O, O, O, O, O, O, O, O, O, O, O, O, O, O, O, O, O, O, O] rfl rfl (take_ofW HT_.out HW_.out (by kernel_rfl)) (fun _ _ _ h => h) (Or.inl ⟨by rfl, ?_⟩) hHeld ?_ ?_; rotate_left; focus (rintro w' ⟨s0, s1, s2, s3, s4, s5, s6, s7, s8, s9⟩; go_simp; with_reducible rfl)
  rotate_left; focus (simp only [Act.put, List.setIfInBounds_toArray, List.set_cons_zero, List.set_cons_succ, i64_w, i32_w]; rfl)
  refine take_ (i := 4) (N := some 38) (v := ?_) (a' := ?_) #[T, T, T, T, T, O, O, O, O, O, O, O, O, O, O, O, O, O, O, O, O, O, O, O, O, O] rfl rfl (take_ofW HT_.out HW_.out (by kernel_rfl)) (fun _ _ _ h => h) (Or.inl ⟨by rfl, ?_⟩) hHeld ?_ ?_; rotate_left; focus (rintro w' ⟨s0, s1, s2, s3, s4, s5, s6, s7, s8, s9⟩; go_simp; with_reducible rfl)
  rotate_left; focus (simp only [Act.put, List.setIfInBounds_toArray, List.set_cons_zero, List.set_cons_succ, i64_w, i32_w]; rfl)
  refine take_ (i := 5) (N := some 39) (v := ?_) (a' := ?_) #[T, T, T, T, T, T, O, O, O, O, O, O, O, O, O, O, O, O, O, O, O, O, O, O, O, O] rfl rfl (take_ofW HT_.out HW_.out (by kernel_rfl)) (fun _ _ _ h => h) (Or.inl ⟨by rfl, ?_⟩) hHeld ?_ ?_; rotate_left; focus (rintro w' ⟨s0, s1, s2, s3, s4, s5, s6, s7, s8, s9⟩; go_simp; with_reducible rfl)
  rotate_left; focus (simp only [Act.put, List.setIfInBounds_toArray, List.set_cons_zero, List.set_cons_succ, i64_w, i32_w]; rfl)
  refine one_ (i := 6) (N := some 40) #[T, T, T, T, T, T, T, O, O, O, O, O, O, O, O, O, O, O, O, O, O, O, O, O, O, O] rfl rfl (one_of HT_.out (by kernel_rfl)) (by decide) (fun K hK => ?_)
  refine goes_ Try.func45 (by kernel_rfl) rfl #[.agg #[.bool t1009, .slice Ao28 t1010.length co28], .agg #[.bool t1013, .slice Ao31 t1014.length co31]] (by rfl) rfl rfl (by (try simp only [List.map_toArray, List.map_cons, List.map_nil]); first | done | rfl | (simp only [List.length_drop, List.length_take]; rfl)) ?_
  with_reducible refine (cobwebref01_Add.calls k t1009 _ _ t1010 t1013 _ _ t1014 t1032 t1033 _ ?side1 ?side2 ?side3 ?side4 A10.out).mono ?_
  (case side1 => repeat (first | exact (Kd.V_reads' HO1012.out).2.2 | (with_reducible refine Kd.C_alloc ?_ _) | (with_reducible refine Kd.C_drewN ?_ _) | (with_reducible refine Kd.C_drew ?_)))
  (case side2 => exact (Kd.V_reads' HO1012.out).2.1)
  (case side3 => repeat (first | exact (Kd.V_reads' HO1016.out).2.2 | (with_reducible refine Kd.C_alloc ?_ _) | (with_reducible refine Kd.C_drewN ?_ _) | (with_reducible refine Kd.C_drew ?_)))
  (case side4 => exact (Kd.V_reads' HO1016.out).2.1)
  rintro e w70 ⟨v1034, rfl, ho0, hb⟩
  refine ⟨_, rfl, ?_⟩
  have HO1035 := Aside0.mk (Kd.V_lower (Kd.V_mono (ok' := fun k_ => k_ ≠ gb1007 ∧ k_ ≠ gb1008 ∧ k_ ≠ gb1017 ∧ k_ ≠ gb1018 ∧ k_ ≠ gb1022 ∧ k_ ≠ gb1026 ∧ k_ ≠ gb1030) ho0 (fun k_ hk_ => ⟨(Kd.freshB (g := gb1007) (o := .cells #[.int .i64 a0_0, .int .u64 a0_1] 24 (0, 0)) (kx BK1007) k_ hk_), (Kd.freshB (g := gb1008) (o := .cells #[.int .i64 a1_0, .int .u64 a1_1] 24 (0, 0)) (kx BK1008) k_ hk_), (Kd.freshB (g := gb1017) (o := .cells #[.bool t1009, .slice Ao28 t1010.length co28] 32 (0, 0)) (kx BK1017) k_ hk_), (Kd.freshB (g := gb1018) (o := .cells #[.bool t1013, .slice Ao31 t1014.length co31] 32 (0, 0)) (kx BK1018) k_ hk_), (Kd.freshB (g := gb1022) (o := .cells #[.int .i64 t1019, .int .u64 t1020] 24 (0, 0)) (kx BK1022) k_ hk_), (Kd.freshB (g := gb1026) (o := .cells #[.int .i64 t1023, .int .u64 t1024] 24 (0, 0)) (kx BK1026) k_ hk_), (Kd.freshB (g := gb1030) (o := .cells #[.int .i64 t1027, .int .u64 t1028] 24 (0, 0)) (kx BK1030) k_ hk_)⟩)) (below_size (ky HB)))
  replace HO1012 := kV HO1012 hb
  replace HO1016 := kV HO1016 hb
  replace BK1007 := kb BK1007 hb
  replace BK1008 := kb BK1008 hb
  replace BK1017 := kb BK1017 hb
  replace BK1018 := kb BK1018 hb
  replace BK1022 := kb BK1022 hb
  replace BK1026 := kb BK1026 hb
  replace BK1030 := kb BK1030 hb
  replace HB := kB HB hb
  (try clear hb)
  (try clear hb2)
  (try clear hk)
  (try clear hi)
  (try clear ho0)
  obtain ⟨Ao71, co71, eo71⟩ := Kd.V_slice HO1035.out
  (first | subst eo71 | (injection eo71 with f1_ f2_ f3_; have f4_ := f1_.symm; have f5_ := f3_.symm; clear f1_ f2_ f3_; subst f4_; subst f5_))
  refine hK.out _ _ ⟨kc BK1022 0, kc BK1022 1, kc BK1017 0, kc BK1017 1, kc BK1018 0, kc BK1018 1, kc BK1026 0, kc BK1026 1, kc BK1030 0, kc BK1030 1⟩ (fun hHeld => ?_)
  clear hK K
  refine norm_ (a' := ?_) ?_ ?_
  rotate_left
  · show Act.put _ (some 40) _ = _
    simp only [Act.put, List.setIfInBounds_toArray, List.set_cons_zero, List.set_cons_succ, i64_w, i32_w]
    rfl
  refine one_ (i := 7) (N := some 41) #[T, T, T, T, T, T, T, T, O, O, O, O, O, O, O, O, O, O, O, O, O, O, O, O, O, O] rfl rfl (one_of HT_.out (by kernel_rfl)) (by decide) (fun K hK => ?_)
  refine goes_ Try.func17 (by kernel_rfl) rfl #[.agg #[.int .i64 t1019, .int .u64 t1020], .bool t1021, .agg #[.bool t1032, .slice Ao71 t1033.length co71]] (by rfl) rfl rfl (by (try simp only [List.map_toArray, List.map_cons, List.map_nil]); first | done | rfl | (simp only [List.length_drop, List.length_take]; rfl)) ?_
  with_reducible refine (cobweblaw01_same.calls k t1019 t1020 t1021 t1032 _ _ t1033 true _ ?side1 ?side2 A11.out).mono ?_
  (case side1 => repeat (first | exact (Kd.V_reads' HO1035.out).2.2 | (with_reducible refine Kd.C_alloc ?_ _) | (with_reducible refine Kd.C_drewN ?_ _) | (with_reducible refine Kd.C_drew ?_)))
  (case side2 => exact (Kd.V_reads' HO1035.out).2.1)
  rintro e w72 ⟨rfl, hb⟩
  refine ⟨_, rfl, ?_⟩
  replace HO1012 := kV HO1012 hb
  replace HO1016 := kV HO1016 hb
  replace HO1035 := kV HO1035 hb
  replace BK1007 := kb BK1007 hb
  replace BK1008 := kb BK1008 hb
  replace BK1017 := kb BK1017 hb
  replace BK1018 := kb BK1018 hb
  replace BK1022 := kb BK1022 hb
  replace BK1026 := kb BK1026 hb
  replace BK1030 := kb BK1030 hb
  replace HB := kB HB hb
  (try clear hb)
  (try clear hb2)
  (try clear hk)
  (try clear hi)
  refine hK.out _ _ ⟨kc BK1022 0, kc BK1022 1, kc BK1017 0, kc BK1017 1, kc BK1018 0, kc BK1018 1, kc BK1026 0, kc BK1026 1, kc BK1030 0, kc BK1030 1⟩ (fun hHeld => ?_)
  clear hK K
  refine norm_ (a' := ?_) ?_ ?_
  rotate_left
  · show Act.put _ (some 41) _ = _
    simp only [Act.put, List.setIfInBounds_toArray, List.set_cons_zero, List.set_cons_succ, i64_w, i32_w]
    rfl
  refine pure_ (i := 8) (N := some 42) (v := ?_) (a' := ?_) #[T, T, T, T, T, T, T, T, T, O, O, O, O, O, O, O, O, O, O, O, O, O, O, O, O, O] rfl rfl (any_of HT_.out (by kernel_rfl)) (fun _ _ _ h => h) (Or.inl ⟨by rfl, ?_⟩) ?_ ?_; rotate_left; focus (intro w'; go_simp; with_reducible rfl)
  rotate_left; focus (simp only [Act.put, List.setIfInBounds_toArray, List.set_cons_zero, List.set_cons_succ, i64_w, i32_w]; rfl)
  refine pure_ (i := 9) (N := some 43) (v := ?_) (a' := ?_) #[T, T, T, T, T, T, T, T, T, T, O, O, O, O, O, O, O, O, O, O, O, O, O, O, O, O] rfl rfl (any_of HT_.out (by kernel_rfl)) (fun _ _ _ h => h) (Or.inl ⟨by rfl, ?_⟩) ?_ ?_; rotate_left; focus (intro w'; go_simp; with_reducible rfl)
  rotate_left; focus (simp only [Act.put, List.setIfInBounds_toArray, List.set_cons_zero, List.set_cons_succ, i64_w, i32_w]; rfl)
  refine pure_ (i := 11) (N := some 45) (v := ?_) (a' := ?_) #[T, T, T, T, T, T, T, T, T, T, O, T, O, O, O, O, O, O, O, O, O, O, O, O, O, O] rfl rfl (any_of HT_.out (by kernel_rfl)) (fun _ _ _ h => h) (Or.inl ⟨by rfl, ?_⟩) ?_ ?_; rotate_left; focus (intro w'; go_simp; with_reducible rfl)
  rotate_left; focus (simp only [Act.put, List.setIfInBounds_toArray, List.set_cons_zero, List.set_cons_succ, i64_w, i32_w]; rfl)
  refine take_ (i := 10) (N := some 44) (v := ?_) (a' := ?_) #[T, T, T, T, T, T, T, T, T, T, T, T, O, O, O, O, O, O, O, O, O, O, O, O, O, O] rfl rfl (take_ofW HT_.out HW_.out (by kernel_rfl)) (fun _ _ _ h => h) (Or.inl ⟨by rfl, ?_⟩) hHeld ?_ ?_; rotate_left; focus (rintro w' ⟨s0, s1, s2, s3, s4, s5, s6, s7, s8, s9⟩; go_simp; with_reducible rfl)
  rotate_left; focus (simp only [Act.put, List.setIfInBounds_toArray, List.set_cons_zero, List.set_cons_succ, i64_w, i32_w]; rfl)
  refine take_ (i := 12) (N := some 46) (v := ?_) (a' := ?_) #[T, T, T, T, T, T, T, T, T, T, T, T, T, O, O, O, O, O, O, O, O, O, O, O, O, O] rfl rfl (take_ofW HT_.out HW_.out (by kernel_rfl)) (fun _ _ _ h => h) (Or.inl ⟨by rfl, ?_⟩) hHeld ?_ ?_; rotate_left; focus (rintro w' ⟨s0, s1, s2, s3, s4, s5, s6, s7, s8, s9⟩; go_simp; with_reducible rfl)
  rotate_left; focus (simp only [Act.put, List.setIfInBounds_toArray, List.set_cons_zero, List.set_cons_succ, i64_w, i32_w]; rfl)
  refine take_ (i := 13) (N := some 47) (v := ?_) (a' := ?_) #[T, T, T, T, T, T, T, T, T, T, T, T, T, T, O, O, O, O, O, O, O, O, O, O, O, O] rfl rfl (take_ofW HT_.out HW_.out (by kernel_rfl)) (fun _ _ _ h => h) (Or.inl ⟨by rfl, ?_⟩) hHeld ?_ ?_; rotate_left; focus (rintro w' ⟨s0, s1, s2, s3, s4, s5, s6, s7, s8, s9⟩; go_simp; with_reducible rfl)
  rotate_left; focus (simp only [Act.put, List.setIfInBounds_toArray, List.set_cons_zero, List.set_cons_succ, i64_w, i32_w]; rfl)
  refine one_ (i := 14) (N := some 48) #[T, T, T, T, T, T, T, T, T, T, T, T, T, T, T, O, O, O, O, O, O, O, O, O, O, O] rfl rfl (one_of HT_.out (by kernel_rfl)) (by decide) (fun K hK => ?_)
  refine goes_ Try.func31 (by kernel_rfl) rfl #[.agg #[.bool t1013, .slice Ao31 t1014.length co31]] (by rfl) rfl rfl (by (try simp only [List.map_toArray, List.map_cons, List.map_nil]); first | done | rfl | (simp only [List.length_drop, List.length_take]; rfl)) ?_
  with_reducible refine (cobwebref01_Neg.calls k t1013 (fun k_ => (k_ ≠ gb1007 ∧ (k_ ≠ gb1008 ∧ (k_ ≠ gb1017 ∧ (k_ ≠ gb1018 ∧ (k_ ≠ gb1022 ∧ (k_ ≠ gb1026 ∧ k_ ≠ gb1030))))))) _ _ t1014 t1037 t1038 _ ?side1 A13.out).mono ?_
  (case side1 => exact HO1016.out)
  rintro e w73 ⟨v1039, rfl, ho0, hb⟩
  refine ⟨_, rfl, ?_⟩
  have HO1040 := Aside0.mk (Kd.V_lower (Kd.V_mono (ok' := fun k_ => k_ ≠ gb1007 ∧ k_ ≠ gb1008 ∧ k_ ≠ gb1017 ∧ k_ ≠ gb1018 ∧ k_ ≠ gb1022 ∧ k_ ≠ gb1026 ∧ k_ ≠ gb1030) ho0 (fun k_ hk_ => ⟨Or.elim hk_ (fun hs_ => hs_.1) (fun hn_ => (Kd.freshB (g := gb1007) (o := .cells #[.int .i64 a0_0, .int .u64 a0_1] 24 (0, 0)) (kx BK1007) k_ hn_)), Or.elim hk_ (fun hs_ => hs_.2.1) (fun hn_ => (Kd.freshB (g := gb1008) (o := .cells #[.int .i64 a1_0, .int .u64 a1_1] 24 (0, 0)) (kx BK1008) k_ hn_)), Or.elim hk_ (fun hs_ => hs_.2.2.1) (fun hn_ => (Kd.freshB (g := gb1017) (o := .cells #[.bool t1009, .slice Ao28 t1010.length co28] 32 (0, 0)) (kx BK1017) k_ hn_)), Or.elim hk_ (fun hs_ => hs_.2.2.2.1) (fun hn_ => (Kd.freshB (g := gb1018) (o := .cells #[.bool t1013, .slice Ao31 t1014.length co31] 32 (0, 0)) (kx BK1018) k_ hn_)), Or.elim hk_ (fun hs_ => hs_.2.2.2.2.1) (fun hn_ => (Kd.freshB (g := gb1022) (o := .cells #[.int .i64 t1019, .int .u64 t1020] 24 (0, 0)) (kx BK1022) k_ hn_)), Or.elim hk_ (fun hs_ => hs_.2.2.2.2.2.1) (fun hn_ => (Kd.freshB (g := gb1026) (o := .cells #[.int .i64 t1023, .int .u64 t1024] 24 (0, 0)) (kx BK1026) k_ hn_)), Or.elim hk_ (fun hs_ => hs_.2.2.2.2.2.2) (fun hn_ => (Kd.freshB (g := gb1030) (o := .cells #[.int .i64 t1027, .int .u64 t1028] 24 (0, 0)) (kx BK1030) k_ hn_))⟩)) (below_size (ky HB)))
  replace HO1012 := kV HO1012 hb
  replace HO1016 := kV HO1016 hb
  replace HO1035 := kV HO1035 hb
  replace BK1007 := kb BK1007 hb
  replace BK1008 := kb BK1008 hb
  replace BK1017 := kb BK1017 hb
  replace BK1018 := kb BK1018 hb
  replace BK1022 := kb BK1022 hb
  replace BK1026 := kb BK1026 hb
  replace BK1030 := kb BK1030 hb
  replace HB := kB HB hb
  (try clear hb)
  (try clear hb2)
  (try clear hk)
  (try clear hi)
  (try clear ho0)
  obtain ⟨Ao74, co74, eo74⟩ := Kd.V_slice HO1040.out
  (first | subst eo74 | (injection eo74 with f1_ f2_ f3_; have f4_ := f1_.symm; have f5_ := f3_.symm; clear f1_ f2_ f3_; subst f4_; subst f5_))
  refine hK.out _ _ ⟨kc BK1022 0, kc BK1022 1, kc BK1017 0, kc BK1017 1, kc BK1018 0, kc BK1018 1, kc BK1026 0, kc BK1026 1, kc BK1030 0, kc BK1030 1⟩ (fun hHeld => ?_)
  clear hK K
  refine norm_ (a' := ?_) ?_ ?_
  rotate_left
  · show Act.put _ (some 48) _ = _
    simp only [Act.put, List.setIfInBounds_toArray, List.set_cons_zero, List.set_cons_succ, i64_w, i32_w]
    rfl
  refine one_ (i := 15) (N := some 49) #[T, T, T, T, T, T, T, T, T, T, T, T, T, T, T, T, O, O, O, O, O, O, O, O, O, O] rfl rfl (one_of HT_.out (by kernel_rfl)) (by decide) (fun K hK => ?_)
  refine goes_ Try.func45 (by kernel_rfl) rfl #[.agg #[.bool t1009, .slice Ao28 t1010.length co28], .agg #[.bool t1037, .slice Ao74 t1038.length co74]] (by rfl) rfl rfl (by (try simp only [List.map_toArray, List.map_cons, List.map_nil]); first | done | rfl | (simp only [List.length_drop, List.length_take]; rfl)) ?_
  with_reducible refine (cobwebref01_Add.calls k t1009 _ _ t1010 t1037 _ _ t1038 t1041 t1042 _ ?side1 ?side2 ?side3 ?side4 A14.out).mono ?_
  (case side1 => repeat (first | exact (Kd.V_reads' HO1012.out).2.2 | (with_reducible refine Kd.C_alloc ?_ _) | (with_reducible refine Kd.C_drewN ?_ _) | (with_reducible refine Kd.C_drew ?_)))
  (case side2 => exact (Kd.V_reads' HO1012.out).2.1)
  (case side3 => repeat (first | exact (Kd.V_reads' HO1040.out).2.2 | (with_reducible refine Kd.C_alloc ?_ _) | (with_reducible refine Kd.C_drewN ?_ _) | (with_reducible refine Kd.C_drew ?_)))
  (case side4 => exact (Kd.V_reads' HO1040.out).2.1)
  rintro e w75 ⟨v1043, rfl, ho0, hb⟩
  refine ⟨_, rfl, ?_⟩
  have HO1044 := Aside0.mk (Kd.V_lower (Kd.V_mono (ok' := fun k_ => k_ ≠ gb1007 ∧ k_ ≠ gb1008 ∧ k_ ≠ gb1017 ∧ k_ ≠ gb1018 ∧ k_ ≠ gb1022 ∧ k_ ≠ gb1026 ∧ k_ ≠ gb1030) ho0 (fun k_ hk_ => ⟨(Kd.freshB (g := gb1007) (o := .cells #[.int .i64 a0_0, .int .u64 a0_1] 24 (0, 0)) (kx BK1007) k_ hk_), (Kd.freshB (g := gb1008) (o := .cells #[.int .i64 a1_0, .int .u64 a1_1] 24 (0, 0)) (kx BK1008) k_ hk_), (Kd.freshB (g := gb1017) (o := .cells #[.bool t1009, .slice Ao28 t1010.length co28] 32 (0, 0)) (kx BK1017) k_ hk_), (Kd.freshB (g := gb1018) (o := .cells #[.bool t1013, .slice Ao31 t1014.length co31] 32 (0, 0)) (kx BK1018) k_ hk_), (Kd.freshB (g := gb1022) (o := .cells #[.int .i64 t1019, .int .u64 t1020] 24 (0, 0)) (kx BK1022) k_ hk_), (Kd.freshB (g := gb1026) (o := .cells #[.int .i64 t1023, .int .u64 t1024] 24 (0, 0)) (kx BK1026) k_ hk_), (Kd.freshB (g := gb1030) (o := .cells #[.int .i64 t1027, .int .u64 t1028] 24 (0, 0)) (kx BK1030) k_ hk_)⟩)) (below_size (ky HB)))
  replace HO1012 := kV HO1012 hb
  replace HO1016 := kV HO1016 hb
  replace HO1035 := kV HO1035 hb
  replace HO1040 := kV HO1040 hb
  replace BK1007 := kb BK1007 hb
  replace BK1008 := kb BK1008 hb
  replace BK1017 := kb BK1017 hb
  replace BK1018 := kb BK1018 hb
  replace BK1022 := kb BK1022 hb
  replace BK1026 := kb BK1026 hb
  replace BK1030 := kb BK1030 hb
  replace HB := kB HB hb
  (try clear hb)
  (try clear hb2)
  (try clear hk)
  (try clear hi)
  (try clear ho0)
  obtain ⟨Ao76, co76, eo76⟩ := Kd.V_slice HO1044.out
  (first | subst eo76 | (injection eo76 with f1_ f2_ f3_; have f4_ := f1_.symm; have f5_ := f3_.symm; clear f1_ f2_ f3_; subst f4_; subst f5_))
  refine hK.out _ _ ⟨kc BK1022 0, kc BK1022 1, kc BK1017 0, kc BK1017 1, kc BK1018 0, kc BK1018 1, kc BK1026 0, kc BK1026 1, kc BK1030 0, kc BK1030 1⟩ (fun hHeld => ?_)
  clear hK K
  refine norm_ (a' := ?_) ?_ ?_
  rotate_left
  · show Act.put _ (some 49) _ = _
    simp only [Act.put, List.setIfInBounds_toArray, List.set_cons_zero, List.set_cons_succ, i64_w, i32_w]
    rfl
  refine one_ (i := 16) (N := some 50) #[T, T, T, T, T, T, T, T, T, T, T, T, T, T, T, T, T, O, O, O, O, O, O, O, O, O] rfl rfl (one_of HT_.out (by kernel_rfl)) (by decide) (fun K hK => ?_)
  refine goes_ Try.func17 (by kernel_rfl) rfl #[.agg #[.int .i64 t1023, .int .u64 t1024], .bool t1025, .agg #[.bool t1041, .slice Ao76 t1042.length co76]] (by rfl) rfl rfl (by (try simp only [List.map_toArray, List.map_cons, List.map_nil]); first | done | rfl | (simp only [List.length_drop, List.length_take]; rfl)) ?_
  with_reducible refine (cobweblaw01_same.calls k t1023 t1024 t1025 t1041 _ _ t1042 true _ ?side1 ?side2 A15.out).mono ?_
  (case side1 => repeat (first | exact (Kd.V_reads' HO1044.out).2.2 | (with_reducible refine Kd.C_alloc ?_ _) | (with_reducible refine Kd.C_drewN ?_ _) | (with_reducible refine Kd.C_drew ?_)))
  (case side2 => exact (Kd.V_reads' HO1044.out).2.1)
  rintro e w77 ⟨rfl, hb⟩
  refine ⟨_, rfl, ?_⟩
  replace HO1012 := kV HO1012 hb
  replace HO1016 := kV HO1016 hb
  replace HO1035 := kV HO1035 hb
  replace HO1040 := kV HO1040 hb
  replace HO1044 := kV HO1044 hb
  replace BK1007 := kb BK1007 hb
  replace BK1008 := kb BK1008 hb
  replace BK1017 := kb BK1017 hb
  replace BK1018 := kb BK1018 hb
  replace BK1022 := kb BK1022 hb
  replace BK1026 := kb BK1026 hb
  replace BK1030 := kb BK1030 hb
  replace HB := kB HB hb
  (try clear hb)
  (try clear hb2)
  (try clear hk)
  (try clear hi)
  refine hK.out _ _ ⟨kc BK1022 0, kc BK1022 1, kc BK1017 0, kc BK1017 1, kc BK1018 0, kc BK1018 1, kc BK1026 0, kc BK1026 1, kc BK1030 0, kc BK1030 1⟩ (fun hHeld => ?_)
  clear hK K
  refine norm_ (a' := ?_) ?_ ?_
  rotate_left
  · show Act.put _ (some 50) _ = _
    simp only [Act.put, List.setIfInBounds_toArray, List.set_cons_zero, List.set_cons_succ, i64_w, i32_w]
    rfl
  refine pure_ (i := 17) (N := some 51) (v := ?_) (a' := ?_) #[T, T, T, T, T, T, T, T, T, T, T, T, T, T, T, T, T, T, O, O, O, O, O, O, O, O] rfl rfl (any_of HT_.out (by kernel_rfl)) (fun _ _ _ h => h) (Or.inl ⟨by rfl, ?_⟩) ?_ ?_; rotate_left; focus (intro w'; go_simp; with_reducible rfl)
  rotate_left; focus (simp only [Act.put, List.setIfInBounds_toArray, List.set_cons_zero, List.set_cons_succ, i64_w, i32_w]; rfl)
  refine pure_ (i := 18) (N := some 52) (v := ?_) (a' := ?_) #[T, T, T, T, T, T, T, T, T, T, T, T, T, T, T, T, T, T, T, O, O, O, O, O, O, O] rfl rfl (any_of HT_.out (by kernel_rfl)) (fun _ _ _ h => h) (Or.inl ⟨by rfl, ?_⟩) ?_ ?_; rotate_left; focus (intro w'; go_simp; with_reducible rfl)
  rotate_left; focus (simp only [Act.put, List.setIfInBounds_toArray, List.set_cons_zero, List.set_cons_succ, i64_w, i32_w]; rfl)
  refine pure_ (i := 20) (N := some 54) (v := ?_) (a' := ?_) #[T, T, T, T, T, T, T, T, T, T, T, T, T, T, T, T, T, T, T, O, T, O, O, O, O, O] rfl rfl (any_of HT_.out (by kernel_rfl)) (fun _ _ _ h => h) (Or.inl ⟨by rfl, ?_⟩) ?_ ?_; rotate_left; focus (intro w'; go_simp; with_reducible rfl)
  rotate_left; focus (simp only [Act.put, List.setIfInBounds_toArray, List.set_cons_zero, List.set_cons_succ, i64_w, i32_w]; rfl)
  refine take_ (i := 19) (N := some 53) (v := ?_) (a' := ?_) #[T, T, T, T, T, T, T, T, T, T, T, T, T, T, T, T, T, T, T, T, T, O, O, O, O, O] rfl rfl (take_ofW HT_.out HW_.out (by kernel_rfl)) (fun _ _ _ h => h) (Or.inl ⟨by rfl, ?_⟩) hHeld ?_ ?_; rotate_left; focus (rintro w' ⟨s0, s1, s2, s3, s4, s5, s6, s7, s8, s9⟩; go_simp; with_reducible rfl)
  rotate_left; focus (simp only [Act.put, List.setIfInBounds_toArray, List.set_cons_zero, List.set_cons_succ, i64_w, i32_w]; rfl)
  refine take_ (i := 21) (N := some 55) (v := ?_) (a' := ?_) #[T, T, T, T, T, T, T, T, T, T, T, T, T, T, T, T, T, T, T, T, T, T, O, O, O, O] rfl rfl (take_ofW HT_.out HW_.out (by kernel_rfl)) (fun _ _ _ h => h) (Or.inl ⟨by rfl, ?_⟩) hHeld ?_ ?_; rotate_left; focus (rintro w' ⟨s0, s1, s2, s3, s4, s5, s6, s7, s8, s9⟩; go_simp; with_reducible rfl)
  rotate_left; focus (simp only [Act.put, List.setIfInBounds_toArray, List.set_cons_zero, List.set_cons_succ, i64_w, i32_w]; rfl)
  refine one_ (i := 22) (N := some 56) #[T, T, T, T, T, T, T, T, T, T, T, T, T, T, T, T, T, T, T, T, T, T, T, O, O, O] rfl rfl (one_of HT_.out (by kernel_rfl)) (by decide) (fun K hK => ?_)
  refine goes_ Try.func31 (by kernel_rfl) rfl #[.agg #[.bool t1009, .slice Ao28 t1010.length co28]] (by rfl) rfl rfl (by (try simp only [List.map_toArray, List.map_cons, List.map_nil]); first | done | rfl | (simp only [List.length_drop, List.length_take]; rfl)) ?_
  with_reducible refine (cobwebref01_Neg.calls k t1009 (fun k_ => (k_ ≠ gb1007 ∧ (k_ ≠ gb1008 ∧ (k_ ≠ gb1017 ∧ (k_ ≠ gb1018 ∧ (k_ ≠ gb1022 ∧ (k_ ≠ gb1026 ∧ k_ ≠ gb1030))))))) _ _ t1010 t1046 t1047 _ ?side1 A17.out).mono ?_
  (case side1 => exact HO1012.out)
  rintro e w78 ⟨v1048, rfl, ho0, hb⟩
  refine ⟨_, rfl, ?_⟩
  have HO1049 := Aside0.mk (Kd.V_lower (Kd.V_mono (ok' := fun k_ => k_ ≠ gb1007 ∧ k_ ≠ gb1008 ∧ k_ ≠ gb1017 ∧ k_ ≠ gb1018 ∧ k_ ≠ gb1022 ∧ k_ ≠ gb1026 ∧ k_ ≠ gb1030) ho0 (fun k_ hk_ => ⟨Or.elim hk_ (fun hs_ => hs_.1) (fun hn_ => (Kd.freshB (g := gb1007) (o := .cells #[.int .i64 a0_0, .int .u64 a0_1] 24 (0, 0)) (kx BK1007) k_ hn_)), Or.elim hk_ (fun hs_ => hs_.2.1) (fun hn_ => (Kd.freshB (g := gb1008) (o := .cells #[.int .i64 a1_0, .int .u64 a1_1] 24 (0, 0)) (kx BK1008) k_ hn_)), Or.elim hk_ (fun hs_ => hs_.2.2.1) (fun hn_ => (Kd.freshB (g := gb1017) (o := .cells #[.bool t1009, .slice Ao28 t1010.length co28] 32 (0, 0)) (kx BK1017) k_ hn_)), Or.elim hk_ (fun hs_ => hs_.2.2.2.1) (fun hn_ => (Kd.freshB (g := gb1018) (o := .cells #[.bool t1013, .slice Ao31 t1014.length co31] 32 (0, 0)) (kx BK1018) k_ hn_)), Or.elim hk_ (fun hs_ => hs_.2.2.2.2.1) (fun hn_ => (Kd.freshB (g := gb1022) (o := .cells #[.int .i64 t1019, .int .u64 t1020] 24 (0, 0)) (kx BK1022) k_ hn_)), Or.elim hk_ (fun hs_ => hs_.2.2.2.2.2.1) (fun hn_ => (Kd.freshB (g := gb1026) (o := .cells #[.int .i64 t1023, .int .u64 t1024] 24 (0, 0)) (kx BK1026) k_ hn_)), Or.elim hk_ (fun hs_ => hs_.2.2.2.2.2.2) (fun hn_ => (Kd.freshB (g := gb1030) (o := .cells #[.int .i64 t1027, .int .u64 t1028] 24 (0, 0)) (kx BK1030) k_ hn_))⟩)) (below_size (ky HB)))
  replace HO1012 := kV HO1012 hb
  replace HO1016 := kV HO1016 hb
  replace HO1035 := kV HO1035 hb
  replace HO1040 := kV HO1040 hb
  replace HO1044 := kV HO1044 hb
  replace BK1007 := kb BK1007 hb
  replace BK1008 := kb BK1008 hb
  replace BK1017 := kb BK1017 hb
  replace BK1018 := kb BK1018 hb
  replace BK1022 := kb BK1022 hb
  replace BK1026 := kb BK1026 hb
  replace BK1030 := kb BK1030 hb
  replace HB := kB HB hb
  (try clear hb)
  (try clear hb2)
  (try clear hk)
  (try clear hi)
  (try clear ho0)
  obtain ⟨Ao79, co79, eo79⟩ := Kd.V_slice HO1049.out
  (first | subst eo79 | (injection eo79 with f1_ f2_ f3_; have f4_ := f1_.symm; have f5_ := f3_.symm; clear f1_ f2_ f3_; subst f4_; subst f5_))
  refine hK.out _ _ ⟨kc BK1022 0, kc BK1022 1, kc BK1017 0, kc BK1017 1, kc BK1018 0, kc BK1018 1, kc BK1026 0, kc BK1026 1, kc BK1030 0, kc BK1030 1⟩ (fun hHeld => ?_)
  clear hK K
  refine norm_ (a' := ?_) ?_ ?_
  rotate_left
  · show Act.put _ (some 56) _ = _
    simp only [Act.put, List.setIfInBounds_toArray, List.set_cons_zero, List.set_cons_succ, i64_w, i32_w]
    rfl
  refine one_ (i := 23) (N := some 57) #[T, T, T, T, T, T, T, T, T, T, T, T, T, T, T, T, T, T, T, T, T, T, T, T, O, O] rfl rfl (one_of HT_.out (by kernel_rfl)) (by decide) (fun K hK => ?_)
  refine goes_ Try.func17 (by kernel_rfl) rfl #[.agg #[.int .i64 t1027, .int .u64 t1028], .bool t1029, .agg #[.bool t1046, .slice Ao79 t1047.length co79]] (by rfl) rfl rfl (by (try simp only [List.map_toArray, List.map_cons, List.map_nil]); first | done | rfl | (simp only [List.length_drop, List.length_take]; rfl)) ?_
  with_reducible refine (cobweblaw01_same.calls k t1027 t1028 t1029 t1046 _ _ t1047 t1050 _ ?side1 ?side2 A18.out).mono ?_
  (case side1 => repeat (first | exact (Kd.V_reads' HO1049.out).2.2 | (with_reducible refine Kd.C_alloc ?_ _) | (with_reducible refine Kd.C_drewN ?_ _) | (with_reducible refine Kd.C_drew ?_)))
  (case side2 => exact (Kd.V_reads' HO1049.out).2.1)
  rintro e w80 ⟨rfl, hb⟩
  refine ⟨_, rfl, ?_⟩
  replace HO1012 := kV HO1012 hb
  replace HO1016 := kV HO1016 hb
  replace HO1035 := kV HO1035 hb
  replace HO1040 := kV HO1040 hb
  replace HO1044 := kV HO1044 hb
  replace HO1049 := kV HO1049 hb
  replace BK1007 := kb BK1007 hb
  replace BK1008 := kb BK1008 hb
  replace BK1017 := kb BK1017 hb
  replace BK1018 := kb BK1018 hb
  replace BK1022 := kb BK1022 hb
  replace BK1026 := kb BK1026 hb
  replace BK1030 := kb BK1030 hb
  replace HB := kB HB hb
  (try clear hb)
  (try clear hb2)
  (try clear hk)
  (try clear hi)
  refine hK.out _ _ ⟨kc BK1022 0, kc BK1022 1, kc BK1017 0, kc BK1017 1, kc BK1018 0, kc BK1018 1, kc BK1026 0, kc BK1026 1, kc BK1030 0, kc BK1030 1⟩ (fun hHeld => ?_)
  clear hK K
  refine norm_ (a' := ?_) ?_ ?_
  rotate_left
  · show Act.put _ (some 57) _ = _
    simp only [Act.put, List.setIfInBounds_toArray, List.set_cons_zero, List.set_cons_succ, i64_w, i32_w]
    rfl
  refine pure_ (i := 24) (N := some 58) (v := ?_) (a' := ?_) #[T, T, T, T, T, T, T, T, T, T, T, T, T, T, T, T, T, T, T, T, T, T, T, T, T, O] rfl rfl (any_of HT_.out (by kernel_rfl)) (fun _ _ _ h => h) (Or.inl ⟨by rfl, ?_⟩) ?_ ?_; rotate_left; focus (intro w'; go_simp; with_reducible rfl)
  rotate_left; focus (simp only [Act.put, List.setIfInBounds_toArray, List.set_cons_zero, List.set_cons_succ, i64_w, i32_w]; rfl)
  refine pure_ (i := 25) (N := some 4) (v := ?_) (a' := ?_) #[T, T, T, T, T, T, T, T, T, T, T, T, T, T, T, T, T, T, T, T, T, T, T, T, T, T] rfl rfl (any_of HT_.out (by kernel_rfl)) (fun _ _ _ h => h) (Or.inl ⟨by rfl, ?_⟩) ?_ ?_; rotate_left; focus (intro w'; go_simp; with_reducible rfl)
  rotate_left; focus (simp only [Act.put, List.setIfInBounds_toArray, List.set_cons_zero, List.set_cons_succ, i64_w, i32_w]; rfl)
  refine done_ (done_of HT_.out (by kernel_rfl)) ?_
  try go_wp2
  go_ret
  exact ⟨by first | rfl | (simp [errW_none, errW_some] <;> rfl) | (simp [*, errW_none, errW_some] <;> rfl), ky HB⟩
end Go.Proofs.Ytpjbniihdndlmaa.Q
