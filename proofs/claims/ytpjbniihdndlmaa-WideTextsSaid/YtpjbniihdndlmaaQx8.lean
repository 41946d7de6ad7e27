-- Printed by wip/pp.sh (a session's own turning of the kit's print) for this seat.
import Derived.Test.YtpjbniihdndlmaaQx0
import Derived.Test.YtpjbniihdndlmaaQx6
namespace Go.Proofs.Ytpjbniihdndlmaa.Q
open Go.RowKit Go.Proofs.YtpjbniihdndlmaaW.PrintWords Go.Proofs.YtpjbniihdndlmaaW.PrintLast Go.Proofs.YtpjbniihdndlmaaW.PrintMore
open Go.Proofs.Ytpjbniihdndlmaa.H
attribute [local go_sem] hq_add64 hq_sub64 hq_not64 add64c_nn sub64c_nn sub64c_le
attribute [local go_sem] max2_int min2_int max_two min_two max_three min_three max_four min_four   -- for this text's walks alone
set_option linter.unusedVariables false
set_option linter.unusedSimpArgs false

/-! ### bits_Mul64: function 52 -/
def bits_Mul64.f (a0 : Int) (a1 : Int) : Option (Int × Int) := some (IntKind.u64.wrap ((IntKind.u64.wrap ((IntKind.u64.wrap ((a0 / 4294967296) * (a1 / 4294967296))) + ((IntKind.u64.wrap ((IntKind.u64.wrap ((a0 / 4294967296) * (Go.bits .and .u64 a1 4294967295))) + ((IntKind.u64.wrap ((Go.bits .and .u64 a0 4294967295) * (Go.bits .and .u64 a1 4294967295))) / 4294967296))) / 4294967296))) + ((IntKind.u64.wrap ((Go.bits .and .u64 (IntKind.u64.wrap ((IntKind.u64.wrap ((a0 / 4294967296) * (Go.bits .and .u64 a1 4294967295))) + ((IntKind.u64.wrap ((Go.bits .and .u64 a0 4294967295) * (Go.bits .and .u64 a1 4294967295))) / 4294967296))) 4294967295) + (IntKind.u64.wrap ((Go.bits .and .u64 a0 4294967295) * (a1 / 4294967296))))) / 4294967296)), IntKind.u64.wrap (a0 * a1))
set_option maxHeartbeats 8000000 in
set_option maxRecDepth 100000 in
theorem bits_Mul64.calls (a0 : Int) (a1 : Int) (r1 : Int) (r2 : Int) (w : World) (h : bits_Mul64.f a0 a1 = some (r1, r2)) :
  Calls Try.prog 52 #[.int .u64 a0, .int .u64 a1] w fun e w' => e = .returned (.tuple #[.int .u64 r1, .int .u64 r2]) ∧ Drawn0 w w' := by
 have H : (some (IntKind.u64.wrap ((IntKind.u64.wrap ((IntKind.u64.wrap ((a0 / 4294967296) * (a1 / 4294967296))) + ((IntKind.u64.wrap ((IntKind.u64.wrap ((a0 / 4294967296) * (Go.bits .and .u64 a1 4294967295))) + ((IntKind.u64.wrap ((Go.bits .and .u64 a0 4294967295) * (Go.bits .and .u64 a1 4294967295))) / 4294967296))) / 4294967296))) + ((IntKind.u64.wrap ((Go.bits .and .u64 (IntKind.u64.wrap ((IntKind.u64.wrap ((a0 / 4294967296) * (Go.bits .and .u64 a1 4294967295))) + ((IntKind.u64.wrap ((Go.bits .and .u64 a0 4294967295) * (Go.bits .and .u64 a1 4294967295))) / 4294967296))) 4294967295) + (IntKind.u64.wrap ((Go.bits .and .u64 a0 4294967295) * (a1 / 4294967296))))) / 4294967296)), IntKind.u64.wrap (a0 * a1))) = some (r1, r2) := h; clear h
 simp only [Option.some.injEq, Prod.mk.injEq] at H
 obtain ⟨rfl, rfl⟩ := H
 go_enter Try.func52, Try.ntmps52
 go_wp2
 go_ret2
 exact ⟨by first | rfl | (simp; done) | (simp [*]; done), by repeat (first | exact Drawn0.refl _ | apply Drawn0.step)⟩

/-! ### wide_Mul: function 15 -/
def wide_Mul.j0 : Nat → Int → Int → Bool → Int → Int → Int → Int → Option (Int × Int × Bool)
 | 0, _, _, _, _, _, _, _ => none
 | k + 1, x11, x18, x20, x133000, x133001, x134000, x134001 => if x20 = true then ((wide_signed.f x18 x11 ((decide (x133000 < 0)) != (decide (x134000 < 0)))).bind fun bt145 => (some (bt145.1, bt145.2.1, bt145.2.2))) else (some (0, 0, false))
def wide_Mul.f (k : Nat) (a0_0 : Int) (a0_1 : Int) (a1_0 : Int) (a1_1 : Int) : Option (Int × Int × Bool) := (wide_size.f a0_0 a0_1).bind fun bt135 => ((wide_size.f a1_0 a1_1).bind fun bt137 => ((bits_Mul64.f bt135.2 bt137.2).bind fun bt139 => ((bits_Mul64.f bt135.1 bt137.2).bind fun bt141 => ((bits_Mul64.f bt135.2 bt137.1).bind fun bt143 => (if bt135.1 = 0 then (if bt141.1 = 0 then (if bt143.1 = 0 then (if (add64c bt139.1 bt141.2 0) = 0 then (wide_Mul.j0 k bt139.2 (add64s (add64s bt139.1 bt141.2 0) bt143.2 0) ((add64c (add64s bt139.1 bt141.2 0) bt143.2 0) == 0) a0_0 a0_1 a1_0 a1_1) else (wide_Mul.j0 k bt139.2 (add64s (add64s bt139.1 bt141.2 0) bt143.2 0) false a0_0 a0_1 a1_0 a1_1)) else (wide_Mul.j0 k bt139.2 (add64s (add64s bt139.1 bt141.2 0) bt143.2 0) false a0_0 a0_1 a1_0 a1_1)) else (wide_Mul.j0 k bt139.2 (add64s (add64s bt139.1 bt141.2 0) bt143.2 0) false a0_0 a0_1 a1_0 a1_1)) else (if bt137.1 = 0 then (if bt141.1 = 0 then (if bt143.1 = 0 then (if (add64c bt139.1 bt141.2 0) = 0 then (wide_Mul.j0 k bt139.2 (add64s (add64s bt139.1 bt141.2 0) bt143.2 0) ((add64c (add64s bt139.1 bt141.2 0) bt143.2 0) == 0) a0_0 a0_1 a1_0 a1_1) else (wide_Mul.j0 k bt139.2 (add64s (add64s bt139.1 bt141.2 0) bt143.2 0) false a0_0 a0_1 a1_0 a1_1)) else (wide_Mul.j0 k bt139.2 (add64s (add64s bt139.1 bt141.2 0) bt143.2 0) false a0_0 a0_1 a1_0 a1_1)) else (wide_Mul.j0 k bt139.2 (add64s (add64s bt139.1 bt141.2 0) bt143.2 0) false a0_0 a0_1 a1_0 a1_1)) else (wide_Mul.j0 k bt139.2 (add64s (add64s bt139.1 bt141.2 0) bt143.2 0) false a0_0 a0_1 a1_0 a1_1)))))))
theorem wide_Mul.mono_l : ∀ k, (∀ y0 y1 y2 y3 y4 y5 y6, LeO (wide_Mul.j0 k y0 y1 y2 y3 y4 y5 y6) (wide_Mul.j0 (k + 1) y0 y1 y2 y3 y4 y5 y6))
 | 0 => fun _ _ _ _ _ _ _ r h => by simp [wide_Mul.j0] at h
 | k + 1 => by
  have ih0 := wide_Mul.mono_l k
  ·intro y0 y1 y2 y3 y4 y5 y6
   unfold wide_Mul.j0
   repeat' first
   | (with_reducible exact ih0 _ _ _ _ _ _ _)
   | (with_reducible exact LeO.refl _)
   | (with_reducible exact LeO.none _)
   | (with_reducible refine LeO.ite ?_ ?_)
   | (with_reducible refine LeO.bind ?_ (fun _ => ?_))
   | exact ih0 _ _ _ _ _ _ _
   | exact LeO.none _
   | refine LeO.ite ?_ ?_
   | refine LeO.bind ?_ (fun _ => ?_)
theorem wide_Mul.mono : ∀ a0 a1 a2 a3 k, LeO (wide_Mul.f k a0 a1 a2 a3) (wide_Mul.f (k + 1) a0 a1 a2 a3) := by
 intro a0 a1 a2 a3 k; have ih0 := wide_Mul.mono_l k
 unfold wide_Mul.f
 repeat' first
   | (with_reducible exact ih0 _ _ _ _ _ _ _)
   | (with_reducible exact LeO.refl _)
   | (with_reducible exact LeO.none _)
   | (with_reducible refine LeO.ite ?_ ?_)
   | (with_reducible refine LeO.bind ?_ (fun _ => ?_))
   | exact ih0 _ _ _ _ _ _ _
   | exact LeO.none _
   | refine LeO.ite ?_ ?_
   | refine LeO.bind ?_ (fun _ => ?_)
set_option maxHeartbeats 8000000 in
set_option maxRecDepth 100000 in
theorem wide_Mul.calls (k : Nat) (a0_0 : Int) (a0_1 : Int) (a1_0 : Int) (a1_1 : Int) (r1 : Int) (r2 : Int) (r3 : Bool) (w : World) (h : wide_Mul.f k a0_0 a0_1 a1_0 a1_1 = some (r1, r2, r3)) :
  Calls Try.prog 15 #[.agg #[.int .i64 a0_0, .int .u64 a0_1], .agg #[.int .i64 a1_0, .int .u64 a1_1]] w fun e w' => e = .returned (.tuple #[.agg #[.int .i64 r1, .int .u64 r2], .bool r3]) ∧ Below w.heap.size w w' := by
 have hu24 := Try.underlying24; have HB := Aside0.mk (Below.refl w.heap.size w); have H : ((wide_size.f a0_0 a0_1).bind fun bt135 => ((wide_size.f a1_0 a1_1).bind fun bt137 => ((bits_Mul64.f bt135.2 bt137.2).bind fun bt139 => ((bits_Mul64.f bt135.1 bt137.2).bind fun bt141 => ((bits_Mul64.f bt135.2 bt137.1).bind fun bt143 => (if bt135.1 = 0 then (if bt141.1 = 0 then (if bt143.1 = 0 then (if (add64c bt139.1 bt141.2 0) = 0 then (wide_Mul.j0 k bt139.2 (add64s (add64s bt139.1 bt141.2 0) bt143.2 0) ((add64c (add64s bt139.1 bt141.2 0) bt143.2 0) == 0) a0_0 a0_1 a1_0 a1_1) else (wide_Mul.j0 k bt139.2 (add64s (add64s bt139.1 bt141.2 0) bt143.2 0) false a0_0 a0_1 a1_0 a1_1)) else (wide_Mul.j0 k bt139.2 (add64s (add64s bt139.1 bt141.2 0) bt143.2 0) false a0_0 a0_1 a1_0 a1_1)) else (wide_Mul.j0 k bt139.2 (add64s (add64s bt139.1 bt141.2 0) bt143.2 0) false a0_0 a0_1 a1_0 a1_1)) else (if bt137.1 = 0 then (if bt141.1 = 0 then (if bt143.1 = 0 then (if (add64c bt139.1 bt141.2 0) = 0 then (wide_Mul.j0 k bt139.2 (add64s (add64s bt139.1 bt141.2 0) bt143.2 0) ((add64c (add64s bt139.1 bt141.2 0) bt143.2 0) == 0) a0_0 a0_1 a1_0 a1_1) else (wide_Mul.j0 k bt139.2 (add64s (add64s bt139.1 bt141.2 0) bt143.2 0) false a0_0 a0_1 a1_0 a1_1)) else (wide_Mul.j0 k bt139.2 (add64s (add64s bt139.1 bt141.2 0) bt143.2 0) false a0_0 a0_1 a1_0 a1_1)) else (wide_Mul.j0 k bt139.2 (add64s (add64s bt139.1 bt141.2 0) bt143.2 0) false a0_0 a0_1 a1_0 a1_1)) else (wide_Mul.j0 k bt139.2 (add64s (add64s bt139.1 bt141.2 0) bt143.2 0) false a0_0 a0_1 a1_0 a1_1)))))))) = some (r1, r2, r3) := h; clear h; replace H := Option.bind_eq_some_iff.mp H; obtain ⟨⟨t135, t136⟩, A30, H⟩ := H
 replace H : ((wide_size.f a1_0 a1_1).bind fun bt137 => ((bits_Mul64.f t136 bt137.2).bind fun bt139 => ((bits_Mul64.f t135 bt137.2).bind fun bt141 => ((bits_Mul64.f t136 bt137.1).bind fun bt143 => (if t135 = 0 then (if bt141.1 = 0 then (if bt143.1 = 0 then (if (add64c bt139.1 bt141.2 0) = 0 then (wide_Mul.j0 k bt139.2 (add64s (add64s bt139.1 bt141.2 0) bt143.2 0) ((add64c (add64s bt139.1 bt141.2 0) bt143.2 0) == 0) a0_0 a0_1 a1_0 a1_1) else (wide_Mul.j0 k bt139.2 (add64s (add64s bt139.1 bt141.2 0) bt143.2 0) false a0_0 a0_1 a1_0 a1_1)) else (wide_Mul.j0 k bt139.2 (add64s (add64s bt139.1 bt141.2 0) bt143.2 0) false a0_0 a0_1 a1_0 a1_1)) else (wide_Mul.j0 k bt139.2 (add64s (add64s bt139.1 bt141.2 0) bt143.2 0) false a0_0 a0_1 a1_0 a1_1)) else (if bt137.1 = 0 then (if bt141.1 = 0 then (if bt143.1 = 0 then (if (add64c bt139.1 bt141.2 0) = 0 then (wide_Mul.j0 k bt139.2 (add64s (add64s bt139.1 bt141.2 0) bt143.2 0) ((add64c (add64s bt139.1 bt141.2 0) bt143.2 0) == 0) a0_0 a0_1 a1_0 a1_1) else (wide_Mul.j0 k bt139.2 (add64s (add64s bt139.1 bt141.2 0) bt143.2 0) false a0_0 a0_1 a1_0 a1_1)) else (wide_Mul.j0 k bt139.2 (add64s (add64s bt139.1 bt141.2 0) bt143.2 0) false a0_0 a0_1 a1_0 a1_1)) else (wide_Mul.j0 k bt139.2 (add64s (add64s bt139.1 bt141.2 0) bt143.2 0) false a0_0 a0_1 a1_0 a1_1)) else (wide_Mul.j0 k bt139.2 (add64s (add64s bt139.1 bt141.2 0) bt143.2 0) false a0_0 a0_1 a1_0 a1_1))))))) = some (r1, r2, r3) := H; have A3 := Aside0.mk A30; clear A30; replace H := Option.bind_eq_some_iff.mp H; obtain ⟨⟨t137, t138⟩, A40, H⟩ := H
 replace H : ((bits_Mul64.f t136 t138).bind fun bt139 => ((bits_Mul64.f t135 t138).bind fun bt141 => ((bits_Mul64.f t136 t137).bind fun bt143 => (if t135 = 0 then (if bt141.1 = 0 then (if bt143.1 = 0 then (if (add64c bt139.1 bt141.2 0) = 0 then (wide_Mul.j0 k bt139.2 (add64s (add64s bt139.1 bt141.2 0) bt143.2 0) ((add64c (add64s bt139.1 bt141.2 0) bt143.2 0) == 0) a0_0 a0_1 a1_0 a1_1) else (wide_Mul.j0 k bt139.2 (add64s (add64s bt139.1 bt141.2 0) bt143.2 0) false a0_0 a0_1 a1_0 a1_1)) else (wide_Mul.j0 k bt139.2 (add64s (add64s bt139.1 bt141.2 0) bt143.2 0) false a0_0 a0_1 a1_0 a1_1)) else (wide_Mul.j0 k bt139.2 (add64s (add64s bt139.1 bt141.2 0) bt143.2 0) false a0_0 a0_1 a1_0 a1_1)) else (if t137 = 0 then (if bt141.1 = 0 then (if bt143.1 = 0 then (if (add64c bt139.1 bt141.2 0) = 0 then (wide_Mul.j0 k bt139.2 (add64s (add64s bt139.1 bt141.2 0) bt143.2 0) ((add64c (add64s bt139.1 bt141.2 0) bt143.2 0) == 0) a0_0 a0_1 a1_0 a1_1) else (wide_Mul.j0 k bt139.2 (add64s (add64s bt139.1 bt141.2 0) bt143.2 0) false a0_0 a0_1 a1_0 a1_1)) else (wide_Mul.j0 k bt139.2 (add64s (add64s bt139.1 bt141.2 0) bt143.2 0) false a0_0 a0_1 a1_0 a1_1)) else (wide_Mul.j0 k bt139.2 (add64s (add64s bt139.1 bt141.2 0) bt143.2 0) false a0_0 a0_1 a1_0 a1_1)) else (wide_Mul.j0 k bt139.2 (add64s (add64s bt139.1 bt141.2 0) bt143.2 0) false a0_0 a0_1 a1_0 a1_1)))))) = some (r1, r2, r3) := H; have A4 := Aside0.mk A40; clear A40; replace H := Option.bind_eq_some_iff.mp H; obtain ⟨⟨t139, t140⟩, A50, H⟩ := H
 replace H : ((bits_Mul64.f t135 t138).bind fun bt141 => ((bits_Mul64.f t136 t137).bind fun bt143 => (if t135 = 0 then (if bt141.1 = 0 then (if bt143.1 = 0 then (if (add64c t139 bt141.2 0) = 0 then (wide_Mul.j0 k t140 (add64s (add64s t139 bt141.2 0) bt143.2 0) ((add64c (add64s t139 bt141.2 0) bt143.2 0) == 0) a0_0 a0_1 a1_0 a1_1) else (wide_Mul.j0 k t140 (add64s (add64s t139 bt141.2 0) bt143.2 0) false a0_0 a0_1 a1_0 a1_1)) else (wide_Mul.j0 k t140 (add64s (add64s t139 bt141.2 0) bt143.2 0) false a0_0 a0_1 a1_0 a1_1)) else (wide_Mul.j0 k t140 (add64s (add64s t139 bt141.2 0) bt143.2 0) false a0_0 a0_1 a1_0 a1_1)) else (if t137 = 0 then (if bt141.1 = 0 then (if bt143.1 = 0 then (if (add64c t139 bt141.2 0) = 0 then (wide_Mul.j0 k t140 (add64s (add64s t139 bt141.2 0) bt143.2 0) ((add64c (add64s t139 bt141.2 0) bt143.2 0) == 0) a0_0 a0_1 a1_0 a1_1) else (wide_Mul.j0 k t140 (add64s (add64s t139 bt141.2 0) bt143.2 0) false a0_0 a0_1 a1_0 a1_1)) else (wide_Mul.j0 k t140 (add64s (add64s t139 bt141.2 0) bt143.2 0) false a0_0 a0_1 a1_0 a1_1)) else (wide_Mul.j0 k t140 (add64s (add64s t139 bt141.2 0) bt143.2 0) false a0_0 a0_1 a1_0 a1_1)) else (wide_Mul.j0 k t140 (add64s (add64s t139 bt141.2 0) bt143.2 0) false a0_0 a0_1 a1_0 a1_1))))) = some (r1, r2, r3) := H; have A5 := Aside0.mk A50; clear A50; replace H := Option.bind_eq_some_iff.mp H; obtain ⟨⟨t141, t142⟩, A60, H⟩ := H
 replace H : ((bits_Mul64.f t136 t137).bind fun bt143 => (if t135 = 0 then (if t141 = 0 then (if bt143.1 = 0 then (if (add64c t139 t142 0) = 0 then (wide_Mul.j0 k t140 (add64s (add64s t139 t142 0) bt143.2 0) ((add64c (add64s t139 t142 0) bt143.2 0) == 0) a0_0 a0_1 a1_0 a1_1) else (wide_Mul.j0 k t140 (add64s (add64s t139 t142 0) bt143.2 0) false a0_0 a0_1 a1_0 a1_1)) else (wide_Mul.j0 k t140 (add64s (add64s t139 t142 0) bt143.2 0) false a0_0 a0_1 a1_0 a1_1)) else (wide_Mul.j0 k t140 (add64s (add64s t139 t142 0) bt143.2 0) false a0_0 a0_1 a1_0 a1_1)) else (if t137 = 0 then (if t141 = 0 then (if bt143.1 = 0 then (if (add64c t139 t142 0) = 0 then (wide_Mul.j0 k t140 (add64s (add64s t139 t142 0) bt143.2 0) ((add64c (add64s t139 t142 0) bt143.2 0) == 0) a0_0 a0_1 a1_0 a1_1) else (wide_Mul.j0 k t140 (add64s (add64s t139 t142 0) bt143.2 0) false a0_0 a0_1 a1_0 a1_1)) else (wide_Mul.j0 k t140 (add64s (add64s t139 t142 0) bt143.2 0) false a0_0 a0_1 a1_0 a1_1)) else (wide_Mul.j0 k t140 (add64s (add64s t139 t142 0) bt143.2 0) false a0_0 a0_1 a1_0 a1_1)) else (wide_Mul.j0 k t140 (add64s (add64s t139 t142 0) bt143.2 0) false a0_0 a0_1 a1_0 a1_1)))) = some (r1, r2, r3) := H; have A6 := Aside0.mk A60; clear A60; replace H := Option.bind_eq_some_iff.mp H; obtain ⟨⟨t143, t144⟩, A70, H⟩ := H; replace H : (if t135 = 0 then (if t141 = 0 then (if t143 = 0 then (if (add64c t139 t142 0) = 0 then (wide_Mul.j0 k t140 (add64s (add64s t139 t142 0) t144 0) ((add64c (add64s t139 t142 0) t144 0) == 0) a0_0 a0_1 a1_0 a1_1) else (wide_Mul.j0 k t140 (add64s (add64s t139 t142 0) t144 0) false a0_0 a0_1 a1_0 a1_1)) else (wide_Mul.j0 k t140 (add64s (add64s t139 t142 0) t144 0) false a0_0 a0_1 a1_0 a1_1)) else (wide_Mul.j0 k t140 (add64s (add64s t139 t142 0) t144 0) false a0_0 a0_1 a1_0 a1_1)) else (if t137 = 0 then (if t141 = 0 then (if t143 = 0 then (if (add64c t139 t142 0) = 0 then (wide_Mul.j0 k t140 (add64s (add64s t139 t142 0) t144 0) ((add64c (add64s t139 t142 0) t144 0) == 0) a0_0 a0_1 a1_0 a1_1) else (wide_Mul.j0 k t140 (add64s (add64s t139 t142 0) t144 0) false a0_0 a0_1 a1_0 a1_1)) else (wide_Mul.j0 k t140 (add64s (add64s t139 t142 0) t144 0) false a0_0 a0_1 a1_0 a1_1)) else (wide_Mul.j0 k t140 (add64s (add64s t139 t142 0) t144 0) false a0_0 a0_1 a1_0 a1_1)) else (wide_Mul.j0 k t140 (add64s (add64s t139 t142 0) t144 0) false a0_0 a0_1 a1_0 a1_1))) = some (r1, r2, r3) := H
 have A7 := Aside0.mk A70; clear A70; have HC8 := Aside0.mk H; clear H
 go_enter Try.func15, Try.ntmps15
 go_upto_region 8 with (first | ((with_reducible refine gate_dst (N := 2) rfl ?_); refine box_event ?hg (N := 2) ?hd (cs := #[.int .i64 a0_0, .int .u64 a0_1]) (t := 24) ?hr ?_; (case hd => rfl); (case hg => rfl); (case hr => first | (go_simp; done) | (go_simp; rfl)); intro gb132 hg w9 hbox hb; have BK132 := Aside0.mk (hbox); have GW132 := kS HB hg; have GE132 := kS HB hg; replace HB := kB HB hb; clear hb hbox hg) | ((with_reducible refine gate_dst (N := 3) rfl ?_); refine box_event ?hg (N := 3) ?hd (cs := #[.int .i64 a1_0, .int .u64 a1_1]) (t := 24) ?hr ?_; (case hd => rfl); (case hg => rfl); (case hr => first | (go_simp; done) | (go_simp; rfl)); intro gb133 hg w10 hbox hb; have BK133 := Aside0.mk (hbox); have GW133 := kS HB hg; have GE133 := kS HB hg; have NB132_133 := kN BK132 hg; have NB133_132 := kM BK132 hg; replace BK132 := kb BK132 hb; replace HB := kB HB hb; clear hb hbox hg) | ((with_reducible refine gate_dst (N := 4) rfl ?_); refine box_event ?hg (N := 4) ?hd (cs := #[.int .i64 0, .int .u64 0]) (t := 24) ?hr ?_; (case hd => rfl); (case hg => rfl); (case hr => first | (go_simp; done) | (go_simp; rfl)); intro gb134 hg w11 hbox hb; have BK134 := Aside0.mk (hbox); have GW134 := kS HB hg; have GE134 := kS HB hg; have NB132_134 := kN BK132 hg; have NB134_132 := kM BK132 hg; have NB133_134 := kN BK133 hg; have NB134_133 := kM BK133 hg; replace BK132 := kb BK132 hb; replace BK133 := kb BK133 hb; replace HB := kB HB hb; clear hb hbox hg; have hnb12 := NB132_133.out; have hnc12 := NB133_132.out; have hnb13 := NB132_134.out; have hnc13 := NB134_132.out; have hcz14_0 : w11.cell? ⟨gb132, 0, none⟩ = some (.int .i64 a0_0) := kc BK132 0; have hcz14_1 : w11.cell? ⟨gb132, 1, none⟩ = some (.int .u64 a0_1) := kc BK132 1; have hfz14_0 := blk_frozen BK132.out 0; have hfz14_1 := blk_frozen BK132.out 1) | ((with_reducible refine gate_callee (f := 51) rfl ?_); refine goesL_ (some 23) rfl rfl Try.func51 (by kernel_rfl) rfl #[.agg #[.int .i64 a0_0, .int .u64 a0_1]] rfl (by (try simp only [zm, zc, zn]); first | done | rfl | (simp only [zd, zt]; rfl)) ?_; (with_reducible refine (wide_size.calls a0_0 a0_1 t135 t136 _ A3.out).mono ?_); rintro e w15 ⟨rfl, hb⟩; refine ⟨_, rfl, ?_⟩; replace BK132 := kb BK132 hb; replace BK133 := kb BK133 hb; replace BK134 := kb BK134 hb; replace HB := kB HB hb; (try clear hb); (try clear hb2); (try clear hk); (try clear hi); have hnb16 := NB133_134.out; have hnc16 := NB134_133.out; have hcz17_0 : w15.cell? ⟨gb133, 0, none⟩ = some (.int .i64 a1_0) := kc BK133 0; have hcz17_1 : w15.cell? ⟨gb133, 1, none⟩ = some (.int .u64 a1_1) := kc BK133 1; have hfz17_0 := blk_frozen BK133.out 0; have hfz17_1 := blk_frozen BK133.out 1) | ((with_reducible refine gate_callee (f := 51) rfl ?_); refine goesL_ (some 28) rfl rfl Try.func51 (by kernel_rfl) rfl #[.agg #[.int .i64 a1_0, .int .u64 a1_1]] rfl (by (try simp only [zm, zc, zn]); first | done | rfl | (simp only [zd, zt]; rfl)) ?_; (with_reducible refine (wide_size.calls a1_0 a1_1 t137 t138 _ A4.out).mono ?_); rintro e w18 ⟨rfl, hb⟩; refine ⟨_, rfl, ?_⟩; replace BK132 := kb BK132 hb; replace BK133 := kb BK133 hb; replace BK134 := kb BK134 hb; replace HB := kB HB hb; (try clear hb); (try clear hb2); (try clear hk); (try clear hi)) | ((with_reducible refine gate_callee (f := 52) rfl ?_); refine goesL_ (some 34) rfl rfl Try.func52 (by kernel_rfl) rfl #[.int .u64 t136, .int .u64 t138] rfl (by (try simp only [zm, zc, zn]); first | done | rfl | (simp only [zd, zt]; rfl)) ?_; (with_reducible refine (bits_Mul64.calls t136 t138 t139 t140 _ A5.out).mono ?_); rintro e w' ⟨rfl, ⟨nd, rfl⟩⟩; refine ⟨_, rfl, ?_⟩) | ((with_reducible refine gate_callee (f := 52) rfl ?_); refine goesL_ (some 40) rfl rfl Try.func52 (by kernel_rfl) rfl #[.int .u64 t135, .int .u64 t138] rfl (by (try simp only [zm, zc, zn]); first | done | rfl | (simp only [zd, zt]; rfl)) ?_; (with_reducible refine (bits_Mul64.calls t135 t138 t141 t142 _ A6.out).mono ?_); rintro e w' ⟨rfl, ⟨nd, rfl⟩⟩; refine ⟨_, rfl, ?_⟩) | ((with_reducible refine gate_callee (f := 52) rfl ?_); refine goesL_ (some 46) rfl rfl Try.func52 (by kernel_rfl) rfl #[.int .u64 t136, .int .u64 t137] rfl (by (try simp only [zm, zc, zn]); first | done | rfl | (simp only [zd, zt]; rfl)) ?_; (with_reducible refine (bits_Mul64.calls t136 t137 t143 t144 _ A7.out).mono ?_); rintro e w' ⟨rfl, ⟨nd, rfl⟩⟩; refine ⟨_, rfl, ?_⟩))
 (try simp only [Act.put, s1, s2, s3])
 go_cut [20] (fun v20 wc => ∃ (kq : Nat) (x20_7 : Bool), v20 = .bool x20_7 ∧ Aside0 (wide_Mul.j0 kq t140 (add64s (add64s t139 t142 0) t144 0) x20_7 a0_0 a0_1 a1_0 a1_1 = some (r1, r2, r3)) ∧ Aside0 (kq ≤ k) ∧ Aside0 (wc.heap[gb132]? = some (.cells #[.int .i64 a0_0, .int .u64 a0_1] 24 (0, 0))) ∧ Aside0 (wc.heap[gb133]? = some (.cells #[.int .i64 a1_0, .int .u64 a1_1] 24 (0, 0))) ∧ Aside0 (wc.heap[gb134]? = some (.cells #[.int .i64 0, .int .u64 0] 24 (0, 0))) ∧ Aside0 (Below w.heap.size w wc))
 case first =>
  have H := HC8.out; clear HC8
  by_cases c19 : t135 = 0
  ·rw [if_pos c19] at H
   have c19b0 : (t135 == 0) = true := beq_iff_eq.mpr c19; have c19b1 : (t135 != 0) = false := bne_eq_false_iff_eq.mpr c19; clear c19
   (first | rw [c19b0] | (simp only [i64_w, i32_w]; rw [c19b0]) | skip)
   by_cases c20 : t141 = 0
   rotate_left
   ·rw [if_neg c20] at H
    have c20b0 : (t141 == 0) = false := beq_eq_false_iff_ne.mpr c20; have c20b1 : (t141 != 0) = true := bne_iff_ne.mpr c20; have H' := Aside0.mk H; clear H
    go_wp2_with (first | ((first | rw [hq_add64] | rw [hq_sub64]); rotate_left; (first | decide | exact add64c_nn _ _ _ | exact sub64c_nn _ _ _); (first | decide | exact sub64c_le _ _ _ | exact of_eq_true (by assumption))))
    go_meet
    case rel => exact ⟨_, (false), (by first | rfl | (simp; done) | (simp [*]; done)), H', ⟨by first | omega | exact Nat.le_refl _⟩, ⟨kx BK132⟩, ⟨kx BK133⟩, ⟨kx BK134⟩, ⟨ky HB⟩⟩
   rw [if_pos c20] at H
   have c20b0 : (t141 == 0) = true := beq_iff_eq.mpr c20; have c20b1 : (t141 != 0) = false := bne_eq_false_iff_eq.mpr c20; clear c20
   by_cases c21 : t143 = 0
   rotate_left
   ·rw [if_neg c21] at H
    have c21b0 : (t143 == 0) = false := beq_eq_false_iff_ne.mpr c21; have c21b1 : (t143 != 0) = true := bne_iff_ne.mpr c21; have H' := Aside0.mk H; clear H
    go_wp2_with (first | ((first | rw [hq_add64] | rw [hq_sub64]); rotate_left; (first | decide | exact add64c_nn _ _ _ | exact sub64c_nn _ _ _); (first | decide | exact sub64c_le _ _ _ | exact of_eq_true (by assumption))))
    go_meet
    case rel => exact ⟨_, (false), (by first | rfl | (simp; done) | (simp [*]; done)), H', ⟨by first | omega | exact Nat.le_refl _⟩, ⟨kx BK132⟩, ⟨kx BK133⟩, ⟨kx BK134⟩, ⟨ky HB⟩⟩
   rw [if_pos c21] at H
   have c21b0 : (t143 == 0) = true := beq_iff_eq.mpr c21; have c21b1 : (t143 != 0) = false := bne_eq_false_iff_eq.mpr c21; clear c21
   by_cases c22 : (add64c t139 t142 0) = 0
   rotate_left
   ·rw [if_neg c22] at H
    have c22b0 : ((add64c t139 t142 0) == 0) = false := beq_eq_false_iff_ne.mpr c22; have c22b1 : ((add64c t139 t142 0) != 0) = true := bne_iff_ne.mpr c22; have H' := Aside0.mk H; clear H
    go_wp2_with (first | ((first | rw [hq_add64] | rw [hq_sub64]); rotate_left; (first | decide | exact add64c_nn _ _ _ | exact sub64c_nn _ _ _); (first | decide | exact sub64c_le _ _ _ | exact of_eq_true (by assumption))))
    go_meet
    case rel => exact ⟨_, (false), (by first | rfl | (simp; done) | (simp [*]; done)), H', ⟨by first | omega | exact Nat.le_refl _⟩, ⟨kx BK132⟩, ⟨kx BK133⟩, ⟨kx BK134⟩, ⟨ky HB⟩⟩
   rw [if_pos c22] at H
   have c22b0 : ((add64c t139 t142 0) == 0) = true := beq_iff_eq.mpr c22; have c22b1 : ((add64c t139 t142 0) != 0) = false := bne_eq_false_iff_eq.mpr c22; clear c22; have H' := Aside0.mk H; clear H
   go_wp2_with (first | ((first | rw [hq_add64] | rw [hq_sub64]); rotate_left; (first | decide | exact add64c_nn _ _ _ | exact sub64c_nn _ _ _); (first | decide | exact sub64c_le _ _ _ | exact of_eq_true (by assumption))))
   go_meet
   case rel => exact ⟨_, (((add64c (add64s t139 t142 0) t144 0) == 0)), (by first | rfl | (simp; done) | (simp [*]; done)), H', ⟨by first | omega | exact Nat.le_refl _⟩, ⟨kx BK132⟩, ⟨kx BK133⟩, ⟨kx BK134⟩, ⟨ky HB⟩⟩
  rw [if_neg c19] at H
  have c19b0 : (t135 == 0) = false := beq_eq_false_iff_ne.mpr c19; have c19b1 : (t135 != 0) = true := bne_iff_ne.mpr c19
  (first | rw [c19b0] | (simp only [i64_w, i32_w]; rw [c19b0]) | skip)
  by_cases c23 : t137 = 0
  rotate_left
  ·rw [if_neg c23] at H
   have c23b0 : (t137 == 0) = false := beq_eq_false_iff_ne.mpr c23; have c23b1 : (t137 != 0) = true := bne_iff_ne.mpr c23; have H' := Aside0.mk H; clear H
   go_wp2_with (first | ((first | rw [hq_add64] | rw [hq_sub64]); rotate_left; (first | decide | exact add64c_nn _ _ _ | exact sub64c_nn _ _ _); (first | decide | exact sub64c_le _ _ _ | exact of_eq_true (by assumption))))
   go_meet
   case rel => exact ⟨_, (false), (by first | rfl | (simp; done) | (simp [*]; done)), H', ⟨by first | omega | exact Nat.le_refl _⟩, ⟨kx BK132⟩, ⟨kx BK133⟩, ⟨kx BK134⟩, ⟨ky HB⟩⟩
  rw [if_pos c23] at H
  have c23b0 : (t137 == 0) = true := beq_iff_eq.mpr c23; have c23b1 : (t137 != 0) = false := bne_eq_false_iff_eq.mpr c23; clear c23
  by_cases c24 : t141 = 0
  rotate_left
  ·rw [if_neg c24] at H
   have c24b0 : (t141 == 0) = false := beq_eq_false_iff_ne.mpr c24; have c24b1 : (t141 != 0) = true := bne_iff_ne.mpr c24; have H' := Aside0.mk H; clear H
   go_wp2_with (first | ((first | rw [hq_add64] | rw [hq_sub64]); rotate_left; (first | decide | exact add64c_nn _ _ _ | exact sub64c_nn _ _ _); (first | decide | exact sub64c_le _ _ _ | exact of_eq_true (by assumption))))
   go_meet
   case rel => exact ⟨_, (false), (by first | rfl | (simp; done) | (simp [*]; done)), H', ⟨by first | omega | exact Nat.le_refl _⟩, ⟨kx BK132⟩, ⟨kx BK133⟩, ⟨kx BK134⟩, ⟨ky HB⟩⟩
  rw [if_pos c24] at H
  have c24b0 : (t141 == 0) = true := beq_iff_eq.mpr c24; have c24b1 : (t141 != 0) = false := bne_eq_false_iff_eq.mpr c24; clear c24
  by_cases c25 : t143 = 0
  rotate_left
  ·rw [if_neg c25] at H
   have c25b0 : (t143 == 0) = false := beq_eq_false_iff_ne.mpr c25; have c25b1 : (t143 != 0) = true := bne_iff_ne.mpr c25; have H' := Aside0.mk H; clear H
   go_wp2_with (first | ((first | rw [hq_add64] | rw [hq_sub64]); rotate_left; (first | decide | exact add64c_nn _ _ _ | exact sub64c_nn _ _ _); (first | decide | exact sub64c_le _ _ _ | exact of_eq_true (by assumption))))
   go_meet
   case rel => exact ⟨_, (false), (by first | rfl | (simp; done) | (simp [*]; done)), H', ⟨by first | omega | exact Nat.le_refl _⟩, ⟨kx BK132⟩, ⟨kx BK133⟩, ⟨kx BK134⟩, ⟨ky HB⟩⟩
  rw [if_pos c25] at H
  have c25b0 : (t143 == 0) = true := beq_iff_eq.mpr c25; have c25b1 : (t143 != 0) = false := bne_eq_false_iff_eq.mpr c25; clear c25
  by_cases c26 : (add64c t139 t142 0) = 0
  rotate_left
  ·rw [if_neg c26] at H
   have c26b0 : ((add64c t139 t142 0) == 0) = false := beq_eq_false_iff_ne.mpr c26; have c26b1 : ((add64c t139 t142 0) != 0) = true := bne_iff_ne.mpr c26; have H' := Aside0.mk H; clear H
   go_wp2_with (first | ((first | rw [hq_add64] | rw [hq_sub64]); rotate_left; (first | decide | exact add64c_nn _ _ _ | exact sub64c_nn _ _ _); (first | decide | exact sub64c_le _ _ _ | exact of_eq_true (by assumption))))
   go_meet
   case rel => exact ⟨_, (false), (by first | rfl | (simp; done) | (simp [*]; done)), H', ⟨by first | omega | exact Nat.le_refl _⟩, ⟨kx BK132⟩, ⟨kx BK133⟩, ⟨kx BK134⟩, ⟨ky HB⟩⟩
  rw [if_pos c26] at H
  have c26b0 : ((add64c t139 t142 0) == 0) = true := beq_iff_eq.mpr c26; have c26b1 : ((add64c t139 t142 0) != 0) = false := bne_eq_false_iff_eq.mpr c26; clear c26; have H' := Aside0.mk H; clear H
  go_wp2_with (first | ((first | rw [hq_add64] | rw [hq_sub64]); rotate_left; (first | decide | exact add64c_nn _ _ _ | exact sub64c_nn _ _ _); (first | decide | exact sub64c_le _ _ _ | exact of_eq_true (by assumption))))
  go_meet
  case rel => exact ⟨_, (((add64c (add64s t139 t142 0) t144 0) == 0)), (by first | rfl | (simp; done) | (simp [*]; done)), H', ⟨by first | omega | exact Nat.le_refl _⟩, ⟨kx BK132⟩, ⟨kx BK133⟩, ⟨kx BK134⟩, ⟨ky HB⟩⟩
 case rest =>
  clear HC8; try clear c1; try clear c2; try clear p2; try clear c5; try clear c12; try clear c13; try clear c15; try clear c16; try clear c19; try clear c19b0; try clear c19b1; try clear c20; try clear c20b0; try clear c20b1; try clear c21; try clear c21b0; try clear c21b1; try clear c22; try clear c22b0; try clear c22b1; try clear c23; try clear c23b0; try clear c23b1; try clear c24; try clear c24b0; try clear c24b1; try clear c25; try clear c25b0; try clear c25b1; try clear c26; try clear c26b0; try clear c26b1; try clear hcz14_0; try clear hcz14_1; try clear hcz17_0; try clear hcz17_1; try clear hfz14_0; try clear hfz14_1; try clear hfz17_0; try clear hfz17_1
  obtain ⟨kq, x20_7, rfl, HA, HJ7, BK132, BK133, BK134, HB⟩ := hcut
  cases kq with
  | zero => exact absurd HA.out (by simp [wide_Mul.j0])
  | succ kj7 =>
   have H := HA.out; clear HA
   simp only [wide_Mul.j0] at H
   by_cases c27 : x20_7 = true
   rotate_left
   ·replace c27 := Bool.eq_false_iff.mpr c27; subst c27
    have H1 : (some (0, 0, false)) = some (r1, r2, r3) := by rw [if_neg (show ¬ (false = true) by decide)] at H; exact H
    clear H; have H := H1; clear H1
    simp only [Option.some.injEq, Prod.mk.injEq] at H
    obtain ⟨rfl, rfl, rfl⟩ := H; have hnb36 := NB134_132.out; have hnc36 := NB132_134.out; have hnb37 := NB134_133.out; have hnc37 := NB133_134.out; obtain ⟨hcz38_0, hcz38_1⟩ := kc2 BK134; obtain ⟨hfz38_0, hfz38_1⟩ := kf2 BK134
    go_wp2_with (first | ((first | rw [hq_add64] | rw [hq_sub64]); rotate_left; (first | decide | exact add64c_nn _ _ _ | exact sub64c_nn _ _ _); (first | decide | exact sub64c_le _ _ _ | exact of_eq_true (by assumption))))
    refine bodyPost_ret (results_ct rfl _ _ gb134 24 #[.int .i64 0, .int .u64 0] (0, 0) _ rfl (by (with_reducible repeat (first | refine zr ?_ _ | refine zw ?_ | refine za ?_ _)); refine blk_put (cs := #[.int .i64 0, .int .u64 0]) ?_ 1 _ rfl; (with_reducible repeat (first | refine zr ?_ _ | refine zw ?_ | refine za ?_ _)); refine blk_put (cs := #[.int .i64 0, .int .u64 0]) ?_ 0 _ rfl; (with_reducible repeat (first | refine zr ?_ _ | refine zw ?_ | refine za ?_ _)); exact BK134.out) Try.underlying24 rfl (by kernel_rfl)) rfl ?_; exact ⟨by first | rfl | (simp [errW_none, errW_some] <;> rfl) | (simp [*, errW_none, errW_some] <;> rfl), ky HB⟩

   subst c27
   have H1 : ((wide_signed.f (add64s (add64s t139 t142 0) t144 0) t140 ((decide (a0_0 < 0)) != (decide (a1_0 < 0)))).bind fun bt145 => (some (bt145.1, bt145.2.1, bt145.2.2))) = some (r1, r2, r3) := by rw [if_pos rfl] at H; exact H
   clear H; have H := H1; clear H1; replace H := Option.bind_eq_some_iff.mp H; obtain ⟨⟨t145, t146, t147⟩, A280, H⟩ := H; replace H : (some (t145, t146, t147)) = some (r1, r2, r3) := H; have A28 := Aside0.mk A280; clear A280
   simp only [Option.some.injEq, Prod.mk.injEq] at H
   obtain ⟨rfl, rfl, rfl⟩ := H; have hnb29 := NB132_133.out; have hnc29 := NB133_132.out; have hnb30 := NB132_134.out; have hnc30 := NB134_132.out; obtain ⟨hcz31_0, hcz31_1⟩ := kc2 BK132; obtain ⟨hfz31_0, hfz31_1⟩ := kf2 BK132; have hnb32 := NB133_134.out; have hnc32 := NB134_133.out; obtain ⟨hcz33_0, hcz33_1⟩ := kc2 BK133; obtain ⟨hfz33_0, hfz33_1⟩ := kf2 BK133
   go_wp2_with (first | ((with_reducible refine gate_callee (f := 54) rfl ?_); refine goesL_ (some 95) rfl rfl Try.func54 (by kernel_rfl) rfl #[.int .u64 (add64s (add64s t139 t142 0) t144 0), .int .u64 t140, .bool ((decide (a0_0 < 0)) != (decide (a1_0 < 0)))] rfl (by (try simp only [zm, zc, zn]); first | done | rfl | (simp only [zd, zt]; rfl)) ?_; (with_reducible refine (wide_signed.calls (add64s (add64s t139 t142 0) t144 0) t140 ((decide (a0_0 < 0)) != (decide (a1_0 < 0))) t145 t146 t147 _ A28.out).mono ?_); rintro e w34 ⟨rfl, hb⟩; refine ⟨_, rfl, ?_⟩; replace BK132 := kb BK132 hb; replace BK133 := kb BK133 hb; replace BK134 := kb BK134 hb; replace HB := kB HB hb; (try clear hb); (try clear hb2); (try clear hk); (try clear hi); have hcz35_0 : w34.cell? ⟨gb134, 0, none⟩ = some (.int .i64 0) := kc BK134 0; have hcz35_1 : w34.cell? ⟨gb134, 1, none⟩ = some (.int .u64 0) := kc BK134 1; have hfz35_0 := blk_frozen BK134.out 0; have hfz35_1 := blk_frozen BK134.out 1) | ((first | rw [hq_add64] | rw [hq_sub64]); rotate_left; (first | decide | exact add64c_nn _ _ _ | exact sub64c_nn _ _ _); (first | decide | exact sub64c_le _ _ _ | exact of_eq_true (by assumption))))
   refine bodyPost_ret (results_ct rfl _ _ gb134 24 #[.int .i64 t145, .int .u64 t146] (0, 0) _ rfl (by (with_reducible repeat (first | refine zr ?_ _ | refine zw ?_ | refine za ?_ _)); refine blk_put (cs := #[.int .i64 t145, .int .u64 0]) ?_ 1 _ rfl; (with_reducible repeat (first | refine zr ?_ _ | refine zw ?_ | refine za ?_ _)); refine blk_put (cs := #[.int .i64 0, .int .u64 0]) ?_ 0 _ rfl; (with_reducible repeat (first | refine zr ?_ _ | refine zw ?_ | refine za ?_ _)); exact BK134.out) Try.underlying24 rfl (by kernel_rfl)) rfl ?_; exact ⟨by first | rfl | (simp [errW_none, errW_some] <;> rfl) | (simp [*, errW_none, errW_some] <;> rfl), ky HB⟩
/-! ### wide_Times: function 20 -/
def wide_Times.f (k : Nat) (a0 : Int) (a1 : Int) : Option (Int × Int) := (wide_Of.f a0).bind fun bt150 => ((wide_Of.f a1).bind fun bt152 => ((wide_Mul.f k bt150.1 bt150.2 bt152.1 bt152.2).bind fun bt154 => (some (bt154.1, bt154.2.1))))
theorem wide_Times.mono : ∀ a0 a1 k, LeO (wide_Times.f k a0 a1) (wide_Times.f (k + 1) a0 a1) := by
 intro a0 a1 k
 unfold wide_Times.f
 repeat' first
   | (with_reducible exact wide_Mul.mono _ _ _ _ _)
   | (with_reducible exact LeO.refl _)
   | (with_reducible exact LeO.none _)
   | (with_reducible refine LeO.ite ?_ ?_)
   | (with_reducible refine LeO.bind ?_ (fun _ => ?_))
   | exact wide_Mul.mono _ _ _ _ _
   | exact LeO.none _
   | refine LeO.ite ?_ ?_
   | refine LeO.bind ?_ (fun _ => ?_)
set_option maxHeartbeats 8000000 in
set_option maxRecDepth 100000 in
theorem wide_Times.calls (k : Nat) (a0 : Int) (a1 : Int) (r1 : Int) (r2 : Int) (w : World) (h : wide_Times.f k a0 a1 = some (r1, r2)) :
  Calls Try.prog 20 #[.int .i64 a0, .int .i64 a1] w fun e w' => e = .returned (.agg #[.int .i64 r1, .int .u64 r2]) ∧ Below w.heap.size w w' := by
 have hu24 := Try.underlying24; have HB := Aside0.mk (Below.refl w.heap.size w); have H : ((wide_Of.f a0).bind fun bt150 => ((wide_Of.f a1).bind fun bt152 => ((wide_Mul.f k bt150.1 bt150.2 bt152.1 bt152.2).bind fun bt154 => (some (bt154.1, bt154.2.1))))) = some (r1, r2) := h; clear h; replace H := Option.bind_eq_some_iff.mp H; obtain ⟨⟨t150, t151⟩, A30, H⟩ := H; replace H : ((wide_Of.f a1).bind fun bt152 => ((wide_Mul.f k t150 t151 bt152.1 bt152.2).bind fun bt154 => (some (bt154.1, bt154.2.1)))) = some (r1, r2) := H; have A3 := Aside0.mk A30; clear A30; replace H := Option.bind_eq_some_iff.mp H; obtain ⟨⟨t152, t153⟩, A40, H⟩ := H; replace H : ((wide_Mul.f k t150 t151 t152 t153).bind fun bt154 => (some (bt154.1, bt154.2.1))) = some (r1, r2) := H; have A4 := Aside0.mk A40; clear A40; replace H := Option.bind_eq_some_iff.mp H; obtain ⟨⟨t154, t155, t156⟩, A50, H⟩ := H; replace H : (some (t154, t155)) = some (r1, r2) := H; have A5 := Aside0.mk A50; clear A50
 simp only [Option.some.injEq, Prod.mk.injEq] at H
 obtain ⟨rfl, rfl⟩ := H
 go_enter Try.func20, Try.ntmps20
 go_wp2_with (first | ((with_reducible refine gate_dst (N := 4) rfl ?_); refine box_event ?hg (N := 4) ?hd (cs := #[.int .i64 0, .int .u64 0]) (t := 24) ?hr ?_; (case hd => rfl); (case hg => rfl); (case hr => first | (go_simp; done) | (go_simp; rfl)); intro gb149 hg w6 hbox hb; have BK149 := Aside0.mk (hbox); have GW149 := kS HB hg; have GE149 := kS HB hg; replace HB := kB HB hb; clear hb hbox hg) | ((with_reducible refine gate_callee (f := 32) rfl ?_); refine goesL_ (some 9) rfl rfl Try.func32 (by kernel_rfl) rfl #[.int .i64 a0] rfl (by (try simp only [zm, zc, zn]); first | done | rfl | (simp only [zd, zt]; rfl)) ?_; (with_reducible refine (wide_Of.calls a0 t150 t151 _ A3.out).mono ?_); rintro e w7 ⟨rfl, hb⟩; refine ⟨_, rfl, ?_⟩; replace BK149 := kb BK149 hb; replace HB := kB HB hb; (try clear hb); (try clear hb2); (try clear hk); (try clear hi)) | ((with_reducible refine gate_callee (f := 32) rfl ?_); refine goesL_ (some 11) rfl rfl Try.func32 (by kernel_rfl) rfl #[.int .i64 a1] rfl (by (try simp only [zm, zc, zn]); first | done | rfl | (simp only [zd, zt]; rfl)) ?_; (with_reducible refine (wide_Of.calls a1 t152 t153 _ A4.out).mono ?_); rintro e w8 ⟨rfl, hb⟩; refine ⟨_, rfl, ?_⟩; replace BK149 := kb BK149 hb; replace HB := kB HB hb; (try clear hb); (try clear hb2); (try clear hk); (try clear hi)) | ((with_reducible refine gate_callee (f := 15) rfl ?_); refine goesL_ (some 12) rfl rfl Try.func15 (by kernel_rfl) rfl #[.agg #[.int .i64 t150, .int .u64 t151], .agg #[.int .i64 t152, .int .u64 t153]] rfl (by (try simp only [zm, zc, zn]); first | done | rfl | (simp only [zd, zt]; rfl)) ?_; (with_reducible refine (wide_Mul.calls k t150 t151 t152 t153 t154 t155 t156 _ A5.out).mono ?_); rintro e w9 ⟨rfl, hb⟩; refine ⟨_, rfl, ?_⟩; replace BK149 := kb BK149 hb; replace HB := kB HB hb; (try clear hb); (try clear hb2); (try clear hk); (try clear hi)) | ((with_reducible refine gate_dst (N := 5) rfl ?_); refine box_event ?hg (N := 5) ?hd (cs := #[.int .i64 0, .int .u64 0]) (t := 24) ?hr ?_; (case hd => rfl); (case hg => rfl); (case hr => first | (go_simp; done) | (go_simp; rfl)); intro gb157 hg w10 hbox hb; have BK157 := Aside0.mk (hbox); have GW157 := kS HB hg; have GE157 := kS HB hg; have NB149_157 := kN BK149 hg; have NB157_149 := kM BK149 hg; replace BK149 := kb BK149 hb; replace HB := kB HB hb; clear hb hbox hg; have hnb11 := NB157_149.out; have hnc11 := NB149_157.out; have hcz12_0 : w10.cell? ⟨gb157, 0, none⟩ = some (.int .i64 0) := kc BK157 0; have hcz12_1 : w10.cell? ⟨gb157, 1, none⟩ = some (.int .u64 0) := kc BK157 1; have hfz12_0 := blk_frozen BK157.out 0; have hfz12_1 := blk_frozen BK157.out 1; have hcz13_0 : w10.cell? ⟨gb149, 0, none⟩ = some (.int .i64 0) := kc BK149 0; have hcz13_1 : w10.cell? ⟨gb149, 1, none⟩ = some (.int .u64 0) := kc BK149 1; have hfz13_0 := blk_frozen BK149.out 0; have hfz13_1 := blk_frozen BK149.out 1))
 refine bodyPost_ret (results_cell_row rfl _ _ gb149 24 #[.int .i64 t154, .int .u64 t155] (0, 0) _ rfl (by (with_reducible repeat (first | refine zr ?_ _ | refine zw ?_ | refine za ?_ _)); refine blk_put (cs := #[.int .i64 t154, .int .u64 0]) ?_ 1 _ rfl; (with_reducible repeat (first | refine zr ?_ _ | refine zw ?_ | refine za ?_ _)); refine blk_put (cs := #[.int .i64 0, .int .u64 0]) ?_ 0 _ rfl; (with_reducible repeat (first | refine zr ?_ _ | refine zw ?_ | refine za ?_ _)); refine blk_far ?_ NB149_157.out _; (with_reducible repeat (first | refine zr ?_ _ | refine zw ?_ | refine za ?_ _)); refine blk_far ?_ NB149_157.out _; (with_reducible repeat (first | refine zr ?_ _ | refine zw ?_ | refine za ?_ _)); exact BK149.out) Try.underlying24 rfl (by kernel_rfl)) rfl ?_; exact ⟨by first | rfl | (simp [errW_none, errW_some] <;> rfl) | (simp [*, errW_none, errW_some] <;> rfl), ky HB⟩

end Go.Proofs.Ytpjbniihdndlmaa.Q
