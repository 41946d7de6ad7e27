-- Printed by wip/pp.sh (a session's own turning of the kit's print) for this seat.
import Derived.Test.YtpjbniihdndlmaaQx0
import Derived.Test.YtpjbniihdndlmaaQx1
import Derived.Test.YtpjbniihdndlmaaQx6
import Derived.Test.YtpjbniihdndlmaaQx8
import Derived.Test.YtpjbniihdndlmaaQx27
import Derived.Test.YtpjbniihdndlmaaQx28
import Derived.Test.YtpjbniihdndlmaaQx31
import Derived.Test.YtpjbniihdndlmaaQx32
namespace Go.Proofs.Ytpjbniihdndlmaa.Q
open Go.RowKit Go.Proofs.YtpjbniihdndlmaaW.PrintWords Go.Proofs.YtpjbniihdndlmaaW.PrintLast Go.Proofs.YtpjbniihdndlmaaW.PrintMore
open Go.Proofs.Ytpjbniihdndlmaa.H
attribute [local go_sem] hq_add64 hq_sub64 hq_not64 add64c_nn sub64c_nn sub64c_le
attribute [local go_sem] max2_int min2_int max_two min_two max_three min_three max_four min_four   -- for this text's walks alone
set_option linter.unusedVariables false
set_option linter.unusedSimpArgs false

attribute [local go_sem high] eqA24
/-! ### cobweblaw02_FracScales: function 10 -/
def cobweblaw02_FracScales.j0 : Nat → Int → Int → Int → Int → Bool → Option (Bool)
  | 0, _, _, _, _, _ => none
  | k + 1, x1, x2, x7, x8, x32 => if x32 = true then ((cobweblaw02_alive.f k).bind fun t954 => (some t954)) else ((wide_Of.f (wrap64 (x7))).bind fun bt955 => ((wide_Of.f (wrap64 (x8))).bind fun bt957 => ((wide_Times.f k (wrap64 (x7)) (wrap64 (x1))).bind fun bt960 => ((wide_Times.f k (wrap64 (x8)) (wrap64 (x1))).bind fun bt962 => ((frac_Snap.f k bt955.1 bt955.2 bt957.1 bt957.2 x2).bind fun bt965 => ((frac_Snap.f k bt960.1 bt960.2 bt962.1 bt962.2 x2).bind fun bt969 => ((cobweblaw02_alive.f k).bind fun t973 => (if t973 = true then ((frac_Cmp.f k bt955.1 bt955.2 bt957.1 bt957.2 bt960.1 bt960.2 bt962.1 bt962.2).bind fun t974 => (if t974 = 0 then (if bt965.2.2 = true then (if bt969.2.2 = true then (if (bt965.1 == bt969.1 && (bt965.2.1 == bt969.2.1)) = true then ((frac_Floor.f k bt955.1 bt955.2 bt957.1 bt957.2).bind fun bt975 => ((frac_Floor.f k bt960.1 bt960.2 bt962.1 bt962.2).bind fun bt977 => (some (bt975.1 == bt977.1 && (bt975.2 == bt977.2))))) else (none)) else (none)) else (none)) else (none))) else (none)))))))))
def cobweblaw02_FracScales.f (k : Nat) (a0_0 : Int) (a0_1 : Int) (a1 : Int) (a2 : Int) : Option (Bool) := if a0_1 ≤ 0 then (cobweblaw02_FracScales.j0 k a1 a2 a0_0 a0_1 true) else (if a1 ≤ 0 then (cobweblaw02_FracScales.j0 k a1 a2 a0_0 a0_1 true) else (if a2 < 0 then (cobweblaw02_FracScales.j0 k a1 a2 a0_0 a0_1 true) else (cobweblaw02_FracScales.j0 k a1 a2 a0_0 a0_1 (decide (a2 > 100)))))
theorem cobweblaw02_FracScales.mono_l : ∀ k, (∀ y0 y1 y2 y3 y4, LeO (cobweblaw02_FracScales.j0 k y0 y1 y2 y3 y4) (cobweblaw02_FracScales.j0 (k + 1) y0 y1 y2 y3 y4))
  | 0 => fun _ _ _ _ _ r h => by simp [cobweblaw02_FracScales.j0] at h
  | k + 1 => by
    have ih0 := cobweblaw02_FracScales.mono_l k
    · intro y0 y1 y2 y3 y4
      unfold cobweblaw02_FracScales.j0
      repeat' first
      | (with_reducible exact ih0 _ _ _ _ _)
      | (with_reducible exact cobweblaw02_alive.mono _)
      | (with_reducible exact frac_Cmp.mono _ _ _ _ _ _ _ _ _)
      | (with_reducible exact frac_Floor.mono _ _ _ _ _)
      | (with_reducible exact frac_Snap.mono _ _ _ _ _ _)
      | (with_reducible exact wide_Times.mono _ _ _)
      | (with_reducible exact LeO.refl _)
      | (with_reducible exact LeO.none _)
      | (with_reducible refine LeO.ite ?_ ?_)
      | (with_reducible refine LeO.bind ?_ (fun _ => ?_))
      | exact ih0 _ _ _ _ _
      | exact cobweblaw02_alive.mono _
      | exact frac_Cmp.mono _ _ _ _ _ _ _ _ _
      | exact frac_Floor.mono _ _ _ _ _
      | exact frac_Snap.mono _ _ _ _ _ _
      | exact wide_Times.mono _ _ _
      | exact LeO.none _
      | refine LeO.ite ?_ ?_
      | refine LeO.bind ?_ (fun _ => ?_)
theorem cobweblaw02_FracScales.mono : ∀ a0 a1 a2 a3 k, LeO (cobweblaw02_FracScales.f k a0 a1 a2 a3) (cobweblaw02_FracScales.f (k + 1) a0 a1 a2 a3) := by
  intro a0 a1 a2 a3 k
  have ih0 := cobweblaw02_FracScales.mono_l k
  unfold cobweblaw02_FracScales.f
  repeat' first
      | (with_reducible exact ih0 _ _ _ _ _)
      | (with_reducible exact cobweblaw02_alive.mono _)
      | (with_reducible exact frac_Cmp.mono _ _ _ _ _ _ _ _ _)
      | (with_reducible exact frac_Floor.mono _ _ _ _ _)
      | (with_reducible exact frac_Snap.mono _ _ _ _ _ _)
      | (with_reducible exact wide_Times.mono _ _ _)
      | (with_reducible exact LeO.refl _)
      | (with_reducible exact LeO.none _)
      | (with_reducible refine LeO.ite ?_ ?_)
      | (with_reducible refine LeO.bind ?_ (fun _ => ?_))
      | exact ih0 _ _ _ _ _
      | exact cobweblaw02_alive.mono _
      | exact frac_Cmp.mono _ _ _ _ _ _ _ _ _
      | exact frac_Floor.mono _ _ _ _ _
      | exact frac_Snap.mono _ _ _ _ _ _
      | exact wide_Times.mono _ _ _
      | exact LeO.none _
      | refine LeO.ite ?_ ?_
      | refine LeO.bind ?_ (fun _ => ?_)
def cobweblaw02_FracScales.T8 : Bool × List (List Nat × List Nat) := (true, [([], []), ([0, 0], [0]), ([1], [1]), ([1], [1]), ([2, 3, 1, 1], [1, 2, 3]), ([4, 1], [1, 4]), ([1, 5], [1, 5]), ([6, 4], [6]), ([7], [7]), ([7, 8], [7, 8]), ([9, 7], [9]), ([10], [10]), ([10, 11], [10, 11]), ([12, 10], [12]), ([13], [13]), ([13], [13]), ([14, 15, 13], [13, 14, 15]), ([13, 16], [13, 16]), ([17, 13], [17]), ([18], [18]), ([19, 18, 18], [18, 19]), ([18], [18]), ([21, 20, 18], [18, 21]), ([20, 22, 18], [18, 20, 22]), ([18, 23], [18, 23]), ([24, 22, 0, 1, 2, 3, 4, 5, 6, 7, 8, 9, 10, 11, 12, 13, 14, 15, 16, 17, 18, 19, 20, 21, 22, 23, 24], [24])])
def cobweblaw02_FracScales.B8 : List Nat := [0, 1, 3, 3, 15, 31, 63, 127, 255, 511, 1023, 2047, 4095, 8191, 16383, 16383, 65535, 131071, 262143, 524287, 1048575, 524287, 4194303, 8388607, 16777215, 33554431]
theorem cobweblaw02_FracScales.tab8 : rtab .any (opsOf Try.f10 8) = cobweblaw02_FracScales.T8 := by kernel_rfl
theorem cobweblaw02_FracScales.bits8 : waitsOk cobweblaw02_FracScales.T8.2 cobweblaw02_FracScales.B8 = true := by kernel_rfl
set_option maxHeartbeats 8000000 in
set_option maxRecDepth 100000 in
theorem cobweblaw02_FracScales.calls (k : Nat) (a0_0 : Int) (a0_1 : Int) (a1 : Int) (a2 : Int) (r : Bool) (w : World) (h : cobweblaw02_FracScales.f k a0_0 a0_1 a1 a2 = some r) :
    Calls Try.prog 10 #[.agg #[.int .i32 a0_0, .int .i32 a0_1], .int .i32 a1, .int .i64 a2] w fun e w' => e = .returned (.bool r) ∧ Below w.heap.size w w' := by
  have hu60 := Try.underlying60
  have hu62 := Try.underlying62
  have hu24 := Try.underlying24
  have HB := Aside0.mk (Below.refl w.heap.size w)
  have H : (if a0_1 ≤ 0 then (cobweblaw02_FracScales.j0 k a1 a2 a0_0 a0_1 true) else (if a1 ≤ 0 then (cobweblaw02_FracScales.j0 k a1 a2 a0_0 a0_1 true) else (if a2 < 0 then (cobweblaw02_FracScales.j0 k a1 a2 a0_0 a0_1 true) else (cobweblaw02_FracScales.j0 k a1 a2 a0_0 a0_1 (decide (a2 > 100)))))) = some r := h
  clear h
  have HC4 := Aside0.mk H
  clear H
  go_enter Try.func10, Try.ntmps10
  try go_wp2_with (first | ((with_reducible refine gate_dst (N := 3) rfl ?_); refine box_event ?hg (N := 3) ?hd (cs := #[.int .i32 a0_0, .int .i32 a0_1]) (t := 60) ?hr ?_; (case hd => rfl); (case hg => rfl); (case hr => first | (go_simp; done) | (go_simp; rfl)); intro gb953 hg w5 hbox hb; have BK953 := Aside0.mk (hbox); have GW953 := kS HB hg; have GE953 := kS HB hg; replace HB := kB HB hb; clear hb hbox hg))
  replace BK953 := Aside0.mk (blk_drew BK953.out)
  replace HB := Aside0.mk (below_drew1 HB.out)
  refine start_ (n := 6) (S := fun w' => w'.cell? ⟨gb953, 0, none⟩ = some (.int .i32 a0_0) ∧ w'.cell? ⟨gb953, 1, none⟩ = some (.int .i32 a0_1)) (ds := []) #[O, O, O, O, O, O] (by kernel_rfl) rfl rfl ⟨kc BK953 0, kc BK953 1⟩ (fun hHeld => ?_)
  generalize w5.drew = w6 at BK953 HB hHeld ⊢
  refine pure_ (i := 0) (N := some 15) (v := ?_) (a' := ?_) #[T, O, O, O, O, O] rfl rfl (by kernel_rfl) (fun _ _ _ h => h) (Or.inl ⟨by rfl, ?_⟩) ?_ ?_; rotate_left; focus (intro w'; go_simp; with_reducible rfl)
  rotate_left; focus (simp only [Act.put, s1, s2, s3, i64_w, i32_w]; rfl)
  refine pure_ (i := 2) (N := some 17) (v := ?_) (a' := ?_) #[T, O, T, O, O, O] rfl rfl (by kernel_rfl) (fun _ _ _ h => h) (Or.inl ⟨by rfl, ?_⟩) ?_ ?_; rotate_left; focus (intro w'; go_simp; with_reducible rfl)
  rotate_left; focus (simp only [Act.put, s1, s2, s3, i64_w, i32_w]; rfl)
  refine take_ (i := 1) (N := some 16) (v := ?_) (a' := ?_) #[T, T, T, O, O, O] rfl rfl (by kernel_rfl) (fun _ _ _ h => h) (Or.inl ⟨by rfl, ?_⟩) hHeld ?_ ?_; rotate_left; focus (rintro w' ⟨s0, s1⟩; go_simp; with_reducible rfl)
  rotate_left; focus (simp only [Act.put, s1, s2, s3, i64_w, i32_w]; rfl)
  refine pure_ (i := 4) (N := some 7) (v := ?_) (a' := ?_) #[T, T, T, O, T, O] rfl rfl (by kernel_rfl) (fun _ _ _ h => h) (Or.inl ⟨by rfl, ?_⟩) ?_ ?_; rotate_left; focus (intro w'; go_simp; with_reducible rfl)
  rotate_left; focus (simp only [Act.put, s1, s2, s3, i64_w, i32_w]; rfl)
  refine take_ (i := 3) (N := some 18) (v := ?_) (a' := ?_) #[T, T, T, T, T, O] rfl rfl (by kernel_rfl) (fun _ _ _ h => h) (Or.inl ⟨by rfl, ?_⟩) hHeld ?_ ?_; rotate_left; focus (rintro w' ⟨s0, s1⟩; go_simp; with_reducible rfl)
  rotate_left; focus (simp only [Act.put, s1, s2, s3, i64_w, i32_w]; rfl)
  refine pure_ (i := 5) (N := some 8) (v := ?_) (a' := ?_) #[T, T, T, T, T, T] rfl rfl (by kernel_rfl) (fun _ _ _ h => h) (Or.inl ⟨by rfl, ?_⟩) ?_ ?_; rotate_left; focus (intro w'; go_simp; with_reducible rfl)
  rotate_left; focus (simp only [Act.put, s1, s2, s3, i64_w, i32_w]; rfl)
  refine done_ (by kernel_rfl) ?_
  go_upto_region 2 with (fail)
  go_cut [32] (fun v32 wc => ∃ (kq : Nat) (x32_3 : Bool), v32 = .bool x32_3 ∧ Aside0 (cobweblaw02_FracScales.j0 kq a1 a2 a0_0 a0_1 x32_3 = some r) ∧ Aside0 (kq ≤ k) ∧ Aside0 (wc.heap[gb953]? = some (.cells #[.int .i32 a0_0, .int .i32 a0_1] 60 (0, 0))) ∧ Aside0 (Below w.heap.size w wc))
  case first =>
    have H := HC4.out; clear HC4
    by_cases c7 : a0_1 ≤ 0
    · rw [if_pos c7] at H
      have c7b0 : decide (a0_1 ≤ 0) = true := decide_eq_true c7
      clear c7
      (first | rw [c7b0] | (simp only [i64_w, i32_w]; rw [c7b0]) | skip)
      have H' := Aside0.mk H
      clear H
      go_wp2
      go_meet
      case rel => exact ⟨_, (true), (by first | rfl | (simp; done) | (simp [*]; done)), H', ⟨by first | omega | exact Nat.le_refl _⟩, ⟨kx BK953⟩, ⟨ky HB⟩⟩
    rw [if_neg c7] at H
    have c7b0 : decide (a0_1 ≤ 0) = false := decide_eq_false c7
    clear c7
    (first | rw [c7b0] | (simp only [i64_w, i32_w]; rw [c7b0]) | skip)
    by_cases c8 : a1 ≤ 0
    · rw [if_pos c8] at H
      have c8b0 : decide (a1 ≤ 0) = true := decide_eq_true c8
      clear c8
      have H' := Aside0.mk H
      clear H
      go_wp2
      go_meet
      case rel => exact ⟨_, (true), (by first | rfl | (simp; done) | (simp [*]; done)), H', ⟨by first | omega | exact Nat.le_refl _⟩, ⟨kx BK953⟩, ⟨ky HB⟩⟩
    rw [if_neg c8] at H
    have c8b0 : decide (a1 ≤ 0) = false := decide_eq_false c8
    clear c8
    by_cases c9 : a2 < 0
    · rw [if_pos c9] at H
      have c9b0 : decide (a2 < 0) = true := decide_eq_true c9
      clear c9
      have H' := Aside0.mk H
      clear H
      go_wp2
      go_meet
      case rel => exact ⟨_, (true), (by first | rfl | (simp; done) | (simp [*]; done)), H', ⟨by first | omega | exact Nat.le_refl _⟩, ⟨kx BK953⟩, ⟨ky HB⟩⟩
    rw [if_neg c9] at H
    have c9b0 : decide (a2 < 0) = false := decide_eq_false c9
    clear c9
    have H' := Aside0.mk H
    clear H
    go_wp2
    go_meet
    case rel => exact ⟨_, (decide (a2 > 100)), (by first | rfl | (simp; done) | (simp [*]; done)), H', ⟨by first | omega | exact Nat.le_refl _⟩, ⟨kx BK953⟩, ⟨ky HB⟩⟩
  case rest =>
    clear HC4; try clear c1; try clear p2; try clear c7; try clear c7b0; try clear c8; try clear c8b0; try clear c9; try clear c9b0
    obtain ⟨kq, x32_3, rfl, HA, HJ3, BK953, HB⟩ := hcut
    cases kq with
    | zero => exact absurd HA.out (by simp [cobweblaw02_FracScales.j0])
    | succ kj3 =>
      have H := HA.out; clear HA
      simp only [cobweblaw02_FracScales.j0] at H
      by_cases c10 : x32_3 = true
      · subst c10
        have H1 : ((cobweblaw02_alive.f kj3).bind fun t954 => (some t954)) = some r := by rw [if_pos rfl] at H; exact H
        clear H; have H := H1; clear H1
        replace H := Option.bind_eq_some_iff.mp H
        obtain ⟨t954, A110, H⟩ := H
        replace H : (some t954) = some r := H
        have A11 := Aside0.mk A110
        clear A110
        obtain rfl := Option.some.inj H
        go_wp2_with (first | ((with_reducible refine gate_callee (f := 39) rfl ?_); refine goesL_ (some 33) rfl rfl Try.func39 (by kernel_rfl) rfl #[] rfl (by (try simp only [List.map_toArray, List.map_cons, List.map_nil]); first | done | rfl | (simp only [List.length_drop, List.length_take]; rfl)) ?_; (with_reducible refine (cobweblaw02_alive.calls kj3  t954 _ A11.out).mono ?_); rintro e w12 ⟨rfl, hb⟩; refine ⟨_, rfl, ?_⟩; replace BK953 := kb BK953 hb; replace HB := kB HB hb; (try clear hb); (try clear hb2); (try clear hk); (try clear hi)))
        go_ret
        exact ⟨by first | rfl | (simp [errW_none, errW_some] <;> rfl) | (simp [*, errW_none, errW_some] <;> rfl), ky HB⟩
      replace c10 := Bool.eq_false_iff.mpr c10
      subst c10
      have H1 : ((wide_Of.f (wrap64 (a0_0))).bind fun bt955 => ((wide_Of.f (wrap64 (a0_1))).bind fun bt957 => ((wide_Times.f kj3 (wrap64 (a0_0)) (wrap64 (a1))).bind fun bt960 => ((wide_Times.f kj3 (wrap64 (a0_1)) (wrap64 (a1))).bind fun bt962 => ((frac_Snap.f kj3 bt955.1 bt955.2 bt957.1 bt957.2 a2).bind fun bt965 => ((frac_Snap.f kj3 bt960.1 bt960.2 bt962.1 bt962.2 a2).bind fun bt969 => ((cobweblaw02_alive.f kj3).bind fun t973 => (if t973 = true then ((frac_Cmp.f kj3 bt955.1 bt955.2 bt957.1 bt957.2 bt960.1 bt960.2 bt962.1 bt962.2).bind fun t974 => (if t974 = 0 then (if bt965.2.2 = true then (if bt969.2.2 = true then (if (bt965.1 == bt969.1 && (bt965.2.1 == bt969.2.1)) = true then ((frac_Floor.f kj3 bt955.1 bt955.2 bt957.1 bt957.2).bind fun bt975 => ((frac_Floor.f kj3 bt960.1 bt960.2 bt962.1 bt962.2).bind fun bt977 => (some (bt975.1 == bt977.1 && (bt975.2 == bt977.2))))) else (none)) else (none)) else (none)) else (none))) else (none))))))))) = some r := by rw [if_neg (show ¬ (false = true) by decide)] at H; exact H
      clear H; have H := H1; clear H1
      replace H := Option.bind_eq_some_iff.mp H
      obtain ⟨⟨t955, t956⟩, A130, H⟩ := H
      replace H : ((wide_Of.f (wrap64 (a0_1))).bind fun bt957 => ((wide_Times.f kj3 (wrap64 (a0_0)) (wrap64 (a1))).bind fun bt960 => ((wide_Times.f kj3 (wrap64 (a0_1)) (wrap64 (a1))).bind fun bt962 => ((frac_Snap.f kj3 t955 t956 bt957.1 bt957.2 a2).bind fun bt965 => ((frac_Snap.f kj3 bt960.1 bt960.2 bt962.1 bt962.2 a2).bind fun bt969 => ((cobweblaw02_alive.f kj3).bind fun t973 => (if t973 = true then ((frac_Cmp.f kj3 t955 t956 bt957.1 bt957.2 bt960.1 bt960.2 bt962.1 bt962.2).bind fun t974 => (if t974 = 0 then (if bt965.2.2 = true then (if bt969.2.2 = true then (if (bt965.1 == bt969.1 && (bt965.2.1 == bt969.2.1)) = true then ((frac_Floor.f kj3 t955 t956 bt957.1 bt957.2).bind fun bt975 => ((frac_Floor.f kj3 bt960.1 bt960.2 bt962.1 bt962.2).bind fun bt977 => (some (bt975.1 == bt977.1 && (bt975.2 == bt977.2))))) else (none)) else (none)) else (none)) else (none))) else (none)))))))) = some r := H
      have A13 := Aside0.mk A130
      clear A130
      replace H := Option.bind_eq_some_iff.mp H
      obtain ⟨⟨t957, t958⟩, A140, H⟩ := H
      replace H : ((wide_Times.f kj3 (wrap64 (a0_0)) (wrap64 (a1))).bind fun bt960 => ((wide_Times.f kj3 (wrap64 (a0_1)) (wrap64 (a1))).bind fun bt962 => ((frac_Snap.f kj3 t955 t956 t957 t958 a2).bind fun bt965 => ((frac_Snap.f kj3 bt960.1 bt960.2 bt962.1 bt962.2 a2).bind fun bt969 => ((cobweblaw02_alive.f kj3).bind fun t973 => (if t973 = true then ((frac_Cmp.f kj3 t955 t956 t957 t958 bt960.1 bt960.2 bt962.1 bt962.2).bind fun t974 => (if t974 = 0 then (if bt965.2.2 = true then (if bt969.2.2 = true then (if (bt965.1 == bt969.1 && (bt965.2.1 == bt969.2.1)) = true then ((frac_Floor.f kj3 t955 t956 t957 t958).bind fun bt975 => ((frac_Floor.f kj3 bt960.1 bt960.2 bt962.1 bt962.2).bind fun bt977 => (some (bt975.1 == bt977.1 && (bt975.2 == bt977.2))))) else (none)) else (none)) else (none)) else (none))) else (none))))))) = some r := H
      have A14 := Aside0.mk A140
      clear A140
      replace H := Option.bind_eq_some_iff.mp H
      obtain ⟨⟨t960, t961⟩, A150, H⟩ := H
      replace H : ((wide_Times.f kj3 (wrap64 (a0_1)) (wrap64 (a1))).bind fun bt962 => ((frac_Snap.f kj3 t955 t956 t957 t958 a2).bind fun bt965 => ((frac_Snap.f kj3 t960 t961 bt962.1 bt962.2 a2).bind fun bt969 => ((cobweblaw02_alive.f kj3).bind fun t973 => (if t973 = true then ((frac_Cmp.f kj3 t955 t956 t957 t958 t960 t961 bt962.1 bt962.2).bind fun t974 => (if t974 = 0 then (if bt965.2.2 = true then (if bt969.2.2 = true then (if (bt965.1 == bt969.1 && (bt965.2.1 == bt969.2.1)) = true then ((frac_Floor.f kj3 t955 t956 t957 t958).bind fun bt975 => ((frac_Floor.f kj3 t960 t961 bt962.1 bt962.2).bind fun bt977 => (some (bt975.1 == bt977.1 && (bt975.2 == bt977.2))))) else (none)) else (none)) else (none)) else (none))) else (none)))))) = some r := H
      have A15 := Aside0.mk A150
      clear A150
      replace H := Option.bind_eq_some_iff.mp H
      obtain ⟨⟨t962, t963⟩, A160, H⟩ := H
      replace H : ((frac_Snap.f kj3 t955 t956 t957 t958 a2).bind fun bt965 => ((frac_Snap.f kj3 t960 t961 t962 t963 a2).bind fun bt969 => ((cobweblaw02_alive.f kj3).bind fun t973 => (if t973 = true then ((frac_Cmp.f kj3 t955 t956 t957 t958 t960 t961 t962 t963).bind fun t974 => (if t974 = 0 then (if bt965.2.2 = true then (if bt969.2.2 = true then (if (bt965.1 == bt969.1 && (bt965.2.1 == bt969.2.1)) = true then ((frac_Floor.f kj3 t955 t956 t957 t958).bind fun bt975 => ((frac_Floor.f kj3 t960 t961 t962 t963).bind fun bt977 => (some (bt975.1 == bt977.1 && (bt975.2 == bt977.2))))) else (none)) else (none)) else (none)) else (none))) else (none))))) = some r := H
      have A16 := Aside0.mk A160
      clear A160
      replace H := Option.bind_eq_some_iff.mp H
      obtain ⟨⟨t965, t966, t967⟩, A170, H⟩ := H
      replace H : ((frac_Snap.f kj3 t960 t961 t962 t963 a2).bind fun bt969 => ((cobweblaw02_alive.f kj3).bind fun t973 => (if t973 = true then ((frac_Cmp.f kj3 t955 t956 t957 t958 t960 t961 t962 t963).bind fun t974 => (if t974 = 0 then (if t967 = true then (if bt969.2.2 = true then (if (t965 == bt969.1 && (t966 == bt969.2.1)) = true then ((frac_Floor.f kj3 t955 t956 t957 t958).bind fun bt975 => ((frac_Floor.f kj3 t960 t961 t962 t963).bind fun bt977 => (some (bt975.1 == bt977.1 && (bt975.2 == bt977.2))))) else (none)) else (none)) else (none)) else (none))) else (none)))) = some r := H
      have A17 := Aside0.mk A170
      clear A170
      replace H := Option.bind_eq_some_iff.mp H
      obtain ⟨⟨t969, t970, t971⟩, A180, H⟩ := H
      replace H : ((cobweblaw02_alive.f kj3).bind fun t973 => (if t973 = true then ((frac_Cmp.f kj3 t955 t956 t957 t958 t960 t961 t962 t963).bind fun t974 => (if t974 = 0 then (if t967 = true then (if t971 = true then (if (t965 == t969 && (t966 == t970)) = true then ((frac_Floor.f kj3 t955 t956 t957 t958).bind fun bt975 => ((frac_Floor.f kj3 t960 t961 t962 t963).bind fun bt977 => (some (bt975.1 == bt977.1 && (bt975.2 == bt977.2))))) else (none)) else (none)) else (none)) else (none))) else (none))) = some r := H
      have A18 := Aside0.mk A180
      clear A180
      replace H := Option.bind_eq_some_iff.mp H
      obtain ⟨t973, A190, H⟩ := H
      replace H : (if t973 = true then ((frac_Cmp.f kj3 t955 t956 t957 t958 t960 t961 t962 t963).bind fun t974 => (if t974 = 0 then (if t967 = true then (if t971 = true then (if (t965 == t969 && (t966 == t970)) = true then ((frac_Floor.f kj3 t955 t956 t957 t958).bind fun bt975 => ((frac_Floor.f kj3 t960 t961 t962 t963).bind fun bt977 => (some (bt975.1 == bt977.1 && (bt975.2 == bt977.2))))) else (none)) else (none)) else (none)) else (none))) else (none)) = some r := H
      have A19 := Aside0.mk A190
      clear A190
      by_cases c20 : t973 = true
      rotate_left
      · replace c20 := Bool.eq_false_iff.mpr c20
        subst c20
        have H1 : (none) = some r := by rw [if_neg (show ¬ (false = true) by decide)] at H; exact H
        clear H; have H := H1; clear H1
        exact absurd H (by simp)

      subst c20
      have H1 : ((frac_Cmp.f kj3 t955 t956 t957 t958 t960 t961 t962 t963).bind fun t974 => (if t974 = 0 then (if t967 = true then (if t971 = true then (if (t965 == t969 && (t966 == t970)) = true then ((frac_Floor.f kj3 t955 t956 t957 t958).bind fun bt975 => ((frac_Floor.f kj3 t960 t961 t962 t963).bind fun bt977 => (some (bt975.1 == bt977.1 && (bt975.2 == bt977.2))))) else (none)) else (none)) else (none)) else (none))) = some r := by rw [if_pos rfl] at H; exact H
      clear H; have H := H1; clear H1
      replace H := Option.bind_eq_some_iff.mp H
      obtain ⟨t974, A210, H⟩ := H
      replace H : (if t974 = 0 then (if t967 = true then (if t971 = true then (if (t965 == t969 && (t966 == t970)) = true then ((frac_Floor.f kj3 t955 t956 t957 t958).bind fun bt975 => ((frac_Floor.f kj3 t960 t961 t962 t963).bind fun bt977 => (some (bt975.1 == bt977.1 && (bt975.2 == bt977.2))))) else (none)) else (none)) else (none)) else (none)) = some r := H
      have A21 := Aside0.mk A210
      clear A210
      by_cases c22 : t974 = 0
      rotate_left
      · rw [if_neg c22] at H
        exact absurd H (by simp)
      rw [if_pos c22] at H
      have c22b0 : (t974 == 0) = true := beq_iff_eq.mpr c22
      have c22b1 : (t974 != 0) = false := bne_eq_false_iff_eq.mpr c22
      clear c22
      by_cases c23 : t967 = true
      rotate_left
      · replace c23 := Bool.eq_false_iff.mpr c23
        subst c23
        have H1 : (none) = some r := by rw [if_neg (show ¬ (false = true) by decide)] at H; exact H
        clear H; have H := H1; clear H1
        exact absurd H (by simp)
      subst c23
      have H1 : (if t971 = true then (if (t965 == t969 && (t966 == t970)) = true then ((frac_Floor.f kj3 t955 t956 t957 t958).bind fun bt975 => ((frac_Floor.f kj3 t960 t961 t962 t963).bind fun bt977 => (some (bt975.1 == bt977.1 && (bt975.2 == bt977.2))))) else (none)) else (none)) = some r := by rw [if_pos rfl] at H; exact H
      clear H; have H := H1; clear H1
      by_cases c24 : t971 = true
      rotate_left
      · replace c24 := Bool.eq_false_iff.mpr c24
        subst c24
        have H1 : (none) = some r := by rw [if_neg (show ¬ (false = true) by decide)] at H; exact H
        clear H; have H := H1; clear H1
        exact absurd H (by simp)
      subst c24
      have H1 : (if (t965 == t969 && (t966 == t970)) = true then ((frac_Floor.f kj3 t955 t956 t957 t958).bind fun bt975 => ((frac_Floor.f kj3 t960 t961 t962 t963).bind fun bt977 => (some (bt975.1 == bt977.1 && (bt975.2 == bt977.2))))) else (none)) = some r := by rw [if_pos rfl] at H; exact H
      clear H; have H := H1; clear H1
      by_cases c25 : (t965 == t969 && (t966 == t970)) = true
      rotate_left
      · rw [if_neg c25] at H
        exact absurd H (by simp)
      rw [if_pos c25] at H
      have c25b0 : (t965 == t969 && (t966 == t970)) = true := c25
      (try (have c25b1 : decide (t965 = t969 && (t966 == t970)) = true := by simpa using c25))
      (try (have c25b2 : (t965 == t969 && (t966 == t970)) = true := by simpa using c25))
      clear c25
      replace H := Option.bind_eq_some_iff.mp H
      obtain ⟨⟨t975, t976⟩, A260, H⟩ := H
      replace H : ((frac_Floor.f kj3 t960 t961 t962 t963).bind fun bt977 => (some (t975 == bt977.1 && (t976 == bt977.2)))) = some r := H
      have A26 := Aside0.mk A260
      clear A260
      replace H := Option.bind_eq_some_iff.mp H
      obtain ⟨⟨t977, t978⟩, A270, H⟩ := H
      replace H : (some (t975 == t977 && (t976 == t978))) = some r := H
      have A27 := Aside0.mk A270
      clear A270
      obtain rfl := Option.some.inj H
      try go_wp2_with (first | ((with_reducible refine gate_callee (f := 32) rfl ?_); refine goesL_ (some 36) rfl rfl Try.func32 (by kernel_rfl) rfl #[.int .i64 (wrap64 (a0_0))] rfl (by (try simp only [List.map_toArray, List.map_cons, List.map_nil]); first | done | rfl | (simp only [List.length_drop, List.length_take]; rfl)) ?_; (with_reducible refine (wide_Of.calls (wrap64 (a0_0)) t955 t956 _ A13.out).mono ?_); rintro e w28 ⟨rfl, hb⟩; refine ⟨_, rfl, ?_⟩; replace BK953 := kb BK953 hb; replace HB := kB HB hb; (try clear hb); (try clear hb2); (try clear hk); (try clear hi)) | ((with_reducible refine gate_callee (f := 32) rfl ?_); refine goesL_ (some 39) rfl rfl Try.func32 (by kernel_rfl) rfl #[.int .i64 (wrap64 (a0_1))] rfl (by (try simp only [List.map_toArray, List.map_cons, List.map_nil]); first | done | rfl | (simp only [List.length_drop, List.length_take]; rfl)) ?_; (with_reducible refine (wide_Of.calls (wrap64 (a0_1)) t957 t958 _ A14.out).mono ?_); rintro e w29 ⟨rfl, hb⟩; refine ⟨_, rfl, ?_⟩; replace BK953 := kb BK953 hb; replace HB := kB HB hb; (try clear hb); (try clear hb2); (try clear hk); (try clear hi)) | ((with_reducible refine gate_dst (N := 9) rfl ?_); refine box_event ?hg (N := 9) ?hd (cs := #[.int .i64 0, .int .u64 0, .int .i64 0, .int .u64 0]) (t := 62) ?hr ?_; (case hd => rfl); (case hg => rfl); (case hr => first | (go_simp; done) | (go_simp; rfl)); intro gb959 hg w30 hbox hb; have BK959 := Aside0.mk (hbox); have GW959 := kS HB hg; have GE959 := kS HB hg; have NB953_959 := kN BK953 hg; have NB959_953 := kM BK953 hg; replace BK953 := kb BK953 hb; replace HB := kB HB hb; clear hb hbox hg; have hnb31 := NB959_953.out; have hnc31 := NB953_959.out; have hcz32_0 : w30.cell? ⟨gb959, 0, none⟩ = some (.int .i64 0) := kc BK959 0; have hcz32_1 : w30.cell? ⟨gb959, 1, none⟩ = some (.int .u64 0) := kc BK959 1; have hcz32_2 : w30.cell? ⟨gb959, 2, none⟩ = some (.int .i64 0) := kc BK959 2; have hcz32_3 : w30.cell? ⟨gb959, 3, none⟩ = some (.int .u64 0) := kc BK959 3; have hfz32_0 := blk_frozen BK959.out 0; have hfz32_1 := blk_frozen BK959.out 1; have hfz32_2 := blk_frozen BK959.out 2; have hfz32_3 := blk_frozen BK959.out 3) | ((with_reducible refine gate_callee (f := 20) rfl ?_); refine goesL_ (some 45) rfl rfl Try.func20 (by kernel_rfl) rfl #[.int .i64 (wrap64 (a0_0)), .int .i64 (wrap64 (a1))] rfl (by (try simp only [List.map_toArray, List.map_cons, List.map_nil]); first | done | rfl | (simp only [List.length_drop, List.length_take]; rfl)) ?_; (with_reducible refine (wide_Times.calls kj3 (wrap64 (a0_0)) (wrap64 (a1)) t960 t961 _ A15.out).mono ?_); rintro e w33 ⟨rfl, hb⟩; refine ⟨_, rfl, ?_⟩; have n0_ := kb BK953 hb; have n1_ := Aside0.mk (blk_below (g := gb959) (o := .cells #[.int .i64 t955, .int .u64 t956, .int .i64 t957, .int .u64 t958] 62 (0, 0)) (by (with_reducible repeat (first | refine blk_drewN ?_ _ | refine blk_drew ?_ | refine blk_alloc ?_ _)); refine blk_put (cs := #[.int .i64 t955, .int .u64 t956, .int .i64 t957, .int .u64 0]) ?_ 3 _ rfl; (with_reducible repeat (first | refine blk_drewN ?_ _ | refine blk_drew ?_ | refine blk_alloc ?_ _)); refine blk_put (cs := #[.int .i64 t955, .int .u64 t956, .int .i64 0, .int .u64 0]) ?_ 2 _ rfl; (with_reducible repeat (first | refine blk_drewN ?_ _ | refine blk_drew ?_ | refine blk_alloc ?_ _)); refine blk_put (cs := #[.int .i64 t955, .int .u64 0, .int .i64 0, .int .u64 0]) ?_ 1 _ rfl; (with_reducible repeat (first | refine blk_drewN ?_ _ | refine blk_drew ?_ | refine blk_alloc ?_ _)); refine blk_put (cs := #[.int .i64 0, .int .u64 0, .int .i64 0, .int .u64 0]) ?_ 0 _ rfl; (with_reducible repeat (first | refine blk_drewN ?_ _ | refine blk_drew ?_ | refine blk_alloc ?_ _)); exact BK959.out) hb); have n2_ := kB HB hb; clear BK953; clear BK959; clear HB; have BK953 := n0_; have BK959 := n1_; have HB := n2_; clear n0_ n1_ n2_; (try clear hb); (try clear hb2); (try clear hk); (try clear hi)) | ((with_reducible refine gate_callee (f := 20) rfl ?_); refine goesL_ (some 50) rfl rfl Try.func20 (by kernel_rfl) rfl #[.int .i64 (wrap64 (a0_1)), .int .i64 (wrap64 (a1))] rfl (by (try simp only [List.map_toArray, List.map_cons, List.map_nil]); first | done | rfl | (simp only [List.length_drop, List.length_take]; rfl)) ?_; (with_reducible refine (wide_Times.calls kj3 (wrap64 (a0_1)) (wrap64 (a1)) t962 t963 _ A16.out).mono ?_); rintro e w34 ⟨rfl, hb⟩; refine ⟨_, rfl, ?_⟩; replace BK953 := kb BK953 hb; replace BK959 := kb BK959 hb; replace HB := kB HB hb; (try clear hb); (try clear hb2); (try clear hk); (try clear hi)) | ((with_reducible refine gate_dst (N := 10) rfl ?_); refine box_event ?hg (N := 10) ?hd (cs := #[.int .i64 0, .int .u64 0, .int .i64 0, .int .u64 0]) (t := 62) ?hr ?_; (case hd => rfl); (case hg => rfl); (case hr => first | (go_simp; done) | (go_simp; rfl)); intro gb964 hg w35 hbox hb; have BK964 := Aside0.mk (hbox); have GW964 := kS HB hg; have GE964 := kS HB hg; have NB953_964 := kN BK953 hg; have NB964_953 := kM BK953 hg; have NB959_964 := kN BK959 hg; have NB964_959 := kM BK959 hg; replace BK953 := kb BK953 hb; replace BK959 := kb BK959 hb; replace HB := kB HB hb; clear hb hbox hg; have hnb36 := NB964_953.out; have hnc36 := NB953_964.out; have hnb37 := NB964_959.out; have hnc37 := NB959_964.out; have hcz38_0 : w35.cell? ⟨gb964, 0, none⟩ = some (.int .i64 0) := kc BK964 0; have hcz38_1 : w35.cell? ⟨gb964, 1, none⟩ = some (.int .u64 0) := kc BK964 1; have hcz38_2 : w35.cell? ⟨gb964, 2, none⟩ = some (.int .i64 0) := kc BK964 2; have hcz38_3 : w35.cell? ⟨gb964, 3, none⟩ = some (.int .u64 0) := kc BK964 3; have hfz38_0 := blk_frozen BK964.out 0; have hfz38_1 := blk_frozen BK964.out 1; have hfz38_2 := blk_frozen BK964.out 2; have hfz38_3 := blk_frozen BK964.out 3; have hcz39_0 : w35.cell? ⟨gb959, 0, none⟩ = some (.int .i64 t955) := kc BK959 0; have hcz39_1 : w35.cell? ⟨gb959, 1, none⟩ = some (.int .u64 t956) := kc BK959 1; have hcz39_2 : w35.cell? ⟨gb959, 2, none⟩ = some (.int .i64 t957) := kc BK959 2; have hcz39_3 : w35.cell? ⟨gb959, 3, none⟩ = some (.int .u64 t958) := kc BK959 3; have hfz39_0 := blk_frozen BK959.out 0; have hfz39_1 := blk_frozen BK959.out 1; have hfz39_2 := blk_frozen BK959.out 2; have hfz39_3 := blk_frozen BK959.out 3) | ((with_reducible refine gate_callee (f := 40) rfl ?_); refine goesL_ (some 55) rfl rfl Try.func40 (by kernel_rfl) rfl #[.agg #[.int .i64 t955, .int .u64 t956, .int .i64 t957, .int .u64 t958], .int .i64 a2] rfl (by (try simp only [List.map_toArray, List.map_cons, List.map_nil]); first | done | rfl | (simp only [List.length_drop, List.length_take]; rfl)) ?_; (with_reducible refine (frac_Snap.calls kj3 t955 t956 t957 t958 a2 t965 t966 true _ A17.out).mono ?_); rintro e w40 ⟨rfl, hb⟩; refine ⟨_, rfl, ?_⟩; have n0_ := kb BK953 hb; have n1_ := kb BK959 hb; have n2_ := Aside0.mk (blk_below (g := gb964) (o := .cells #[.int .i64 t960, .int .u64 t961, .int .i64 t962, .int .u64 t963] 62 (0, 0)) (by (with_reducible repeat (first | refine blk_drewN ?_ _ | refine blk_drew ?_ | refine blk_alloc ?_ _)); refine blk_put (cs := #[.int .i64 t960, .int .u64 t961, .int .i64 t962, .int .u64 0]) ?_ 3 _ rfl; (with_reducible repeat (first | refine blk_drewN ?_ _ | refine blk_drew ?_ | refine blk_alloc ?_ _)); refine blk_put (cs := #[.int .i64 t960, .int .u64 t961, .int .i64 0, .int .u64 0]) ?_ 2 _ rfl; (with_reducible repeat (first | refine blk_drewN ?_ _ | refine blk_drew ?_ | refine blk_alloc ?_ _)); refine blk_put (cs := #[.int .i64 t960, .int .u64 0, .int .i64 0, .int .u64 0]) ?_ 1 _ rfl; (with_reducible repeat (first | refine blk_drewN ?_ _ | refine blk_drew ?_ | refine blk_alloc ?_ _)); refine blk_put (cs := #[.int .i64 0, .int .u64 0, .int .i64 0, .int .u64 0]) ?_ 0 _ rfl; (with_reducible repeat (first | refine blk_drewN ?_ _ | refine blk_drew ?_ | refine blk_alloc ?_ _)); exact BK964.out) hb); have n3_ := kB HB hb; clear BK953; clear BK959; clear BK964; clear HB; have BK953 := n0_; have BK959 := n1_; have BK964 := n2_; have HB := n3_; clear n0_ n1_ n2_ n3_; (try clear hb); (try clear hb2); (try clear hk); (try clear hi)) | ((with_reducible refine gate_dst (N := 11) rfl ?_); refine box_event ?hg (N := 11) ?hd (cs := #[.int .i64 0, .int .u64 0]) (t := 24) ?hr ?_; (case hd => rfl); (case hg => rfl); (case hr => first | (go_simp; done) | (go_simp; rfl)); intro gb968 hg w41 hbox hb; have BK968 := Aside0.mk (hbox); have GW968 := kS HB hg; have GE968 := kS HB hg; have NB953_968 := kN BK953 hg; have NB968_953 := kM BK953 hg; have NB959_968 := kN BK959 hg; have NB968_959 := kM BK959 hg; have NB964_968 := kN BK964 hg; have NB968_964 := kM BK964 hg; replace BK953 := kb BK953 hb; replace BK959 := kb BK959 hb; replace BK964 := kb BK964 hb; replace HB := kB HB hb; clear hb hbox hg; have hnb42 := NB968_953.out; have hnc42 := NB953_968.out; have hnb43 := NB968_959.out; have hnc43 := NB959_968.out; have hnb44 := NB968_964.out; have hnc44 := NB964_968.out; have hcz45_0 : w41.cell? ⟨gb968, 0, none⟩ = some (.int .i64 0) := kc BK968 0; have hcz45_1 : w41.cell? ⟨gb968, 1, none⟩ = some (.int .u64 0) := kc BK968 1; have hfz45_0 := blk_frozen BK968.out 0; have hfz45_1 := blk_frozen BK968.out 1; have hcz46_0 : w41.cell? ⟨gb964, 0, none⟩ = some (.int .i64 t960) := kc BK964 0; have hcz46_1 : w41.cell? ⟨gb964, 1, none⟩ = some (.int .u64 t961) := kc BK964 1; have hcz46_2 : w41.cell? ⟨gb964, 2, none⟩ = some (.int .i64 t962) := kc BK964 2; have hcz46_3 : w41.cell? ⟨gb964, 3, none⟩ = some (.int .u64 t963) := kc BK964 3; have hfz46_0 := blk_frozen BK964.out 0; have hfz46_1 := blk_frozen BK964.out 1; have hfz46_2 := blk_frozen BK964.out 2; have hfz46_3 := blk_frozen BK964.out 3) | ((with_reducible refine gate_callee (f := 40) rfl ?_); refine goesL_ (some 61) rfl rfl Try.func40 (by kernel_rfl) rfl #[.agg #[.int .i64 t960, .int .u64 t961, .int .i64 t962, .int .u64 t963], .int .i64 a2] rfl (by (try simp only [List.map_toArray, List.map_cons, List.map_nil]); first | done | rfl | (simp only [List.length_drop, List.length_take]; rfl)) ?_; (with_reducible refine (frac_Snap.calls kj3 t960 t961 t962 t963 a2 t969 t970 true _ A18.out).mono ?_); rintro e w47 ⟨rfl, hb⟩; refine ⟨_, rfl, ?_⟩; have n0_ := kb BK953 hb; have n1_ := kb BK959 hb; have n2_ := kb BK964 hb; have n3_ := Aside0.mk (blk_below (g := gb968) (o := .cells #[.int .i64 t965, .int .u64 t966] 24 (0, 0)) (by (with_reducible repeat (first | refine blk_drewN ?_ _ | refine blk_drew ?_ | refine blk_alloc ?_ _)); refine blk_put (cs := #[.int .i64 t965, .int .u64 0]) ?_ 1 _ rfl; (with_reducible repeat (first | refine blk_drewN ?_ _ | refine blk_drew ?_ | refine blk_alloc ?_ _)); refine blk_put (cs := #[.int .i64 0, .int .u64 0]) ?_ 0 _ rfl; (with_reducible repeat (first | refine blk_drewN ?_ _ | refine blk_drew ?_ | refine blk_alloc ?_ _)); exact BK968.out) hb); have n4_ := kB HB hb; clear BK953; clear BK959; clear BK964; clear BK968; clear HB; have BK953 := n0_; have BK959 := n1_; have BK964 := n2_; have BK968 := n3_; have HB := n4_; clear n0_ n1_ n2_ n3_ n4_; (try clear hb); (try clear hb2); (try clear hk); (try clear hi)) | ((with_reducible refine gate_dst (N := 13) rfl ?_); refine box_event ?hg (N := 13) ?hd (cs := #[.int .i64 0, .int .u64 0]) (t := 24) ?hr ?_; (case hd => rfl); (case hg => rfl); (case hr => first | (go_simp; done) | (go_simp; rfl)); intro gb972 hg w48 hbox hb; have BK972 := Aside0.mk (hbox); have GW972 := kS HB hg; have GE972 := kS HB hg; have NB953_972 := kN BK953 hg; have NB972_953 := kM BK953 hg; have NB959_972 := kN BK959 hg; have NB972_959 := kM BK959 hg; have NB964_972 := kN BK964 hg; have NB972_964 := kM BK964 hg; have NB968_972 := kN BK968 hg; have NB972_968 := kM BK968 hg; replace BK953 := kb BK953 hb; replace BK959 := kb BK959 hb; replace BK964 := kb BK964 hb; replace BK968 := kb BK968 hb; replace HB := kB HB hb; clear hb hbox hg; have hnb49 := NB972_953.out; have hnc49 := NB953_972.out; have hnb50 := NB972_959.out; have hnc50 := NB959_972.out; have hnb51 := NB972_964.out; have hnc51 := NB964_972.out; have hnb52 := NB972_968.out; have hnc52 := NB968_972.out; have hcz53_0 : w48.cell? ⟨gb972, 0, none⟩ = some (.int .i64 0) := kc BK972 0; have hcz53_1 : w48.cell? ⟨gb972, 1, none⟩ = some (.int .u64 0) := kc BK972 1; have hfz53_0 := blk_frozen BK972.out 0; have hfz53_1 := blk_frozen BK972.out 1))
      have n0_ : Aside0 (((w48.setCell ⟨gb972, 0, none⟩ (.int .i64 t969)).setCell ⟨gb972, 1, none⟩ (.int .u64 t970)).heap[gb953]? = some (.cells #[.int .i32 a0_0, .int .i32 a0_1] 60 (0, 0))) := ⟨kx BK953⟩
      have n1_ : Aside0 (((w48.setCell ⟨gb972, 0, none⟩ (.int .i64 t969)).setCell ⟨gb972, 1, none⟩ (.int .u64 t970)).heap[gb959]? = some (.cells #[.int .i64 t955, .int .u64 t956, .int .i64 t957, .int .u64 t958] 62 (0, 0))) := ⟨kx BK959⟩
      have n2_ : Aside0 (((w48.setCell ⟨gb972, 0, none⟩ (.int .i64 t969)).setCell ⟨gb972, 1, none⟩ (.int .u64 t970)).heap[gb964]? = some (.cells #[.int .i64 t960, .int .u64 t961, .int .i64 t962, .int .u64 t963] 62 (0, 0))) := ⟨kx BK964⟩
      have n3_ : Aside0 (((w48.setCell ⟨gb972, 0, none⟩ (.int .i64 t969)).setCell ⟨gb972, 1, none⟩ (.int .u64 t970)).heap[gb968]? = some (.cells #[.int .i64 t965, .int .u64 t966] 24 (0, 0))) := ⟨kx BK968⟩
      have n4_ : Aside0 (((w48.setCell ⟨gb972, 0, none⟩ (.int .i64 t969)).setCell ⟨gb972, 1, none⟩ (.int .u64 t970)).heap[gb972]? = some (.cells #[.int .i64 t969, .int .u64 t970] 24 (0, 0))) := ⟨by (with_reducible repeat (first | refine blk_drewN ?_ _ | refine blk_drew ?_ | refine blk_alloc ?_ _)); refine blk_put (cs := #[.int .i64 t969, .int .u64 0]) ?_ 1 _ rfl; (with_reducible repeat (first | refine blk_drewN ?_ _ | refine blk_drew ?_ | refine blk_alloc ?_ _)); refine blk_put (cs := #[.int .i64 0, .int .u64 0]) ?_ 0 _ rfl; (with_reducible repeat (first | refine blk_drewN ?_ _ | refine blk_drew ?_ | refine blk_alloc ?_ _)); exact BK972.out⟩
      have n5_ : Aside0 (Below w.heap.size w ((w48.setCell ⟨gb972, 0, none⟩ (.int .i64 t969)).setCell ⟨gb972, 1, none⟩ (.int .u64 t970))) := ⟨ky HB⟩
      (try clear BK953); (try clear BK959); (try clear BK964); (try clear BK968); (try clear BK972); (try clear HB)
      generalize ((w48.setCell ⟨gb972, 0, none⟩ (.int .i64 t969)).setCell ⟨gb972, 1, none⟩ (.int .u64 t970)) = w54 at n0_ n1_ n2_ n3_ n4_ n5_ ⊢
      have BK953 := n0_; have BK959 := n1_; have BK964 := n2_; have BK968 := n3_; have BK972 := n4_; have HB := n5_
      clear n0_ n1_ n2_ n3_ n4_ n5_
      replace BK953 := Aside0.mk (blk_drew BK953.out)
      replace BK959 := Aside0.mk (blk_drew BK959.out)
      replace BK964 := Aside0.mk (blk_drew BK964.out)
      replace BK968 := Aside0.mk (blk_drew BK968.out)
      replace BK972 := Aside0.mk (blk_drew BK972.out)
      replace HB := Aside0.mk (below_drew1 HB.out)
      refine start_ (n := 26) (S := fun w' => w'.cell? ⟨gb959, 0, none⟩ = some (.int .i64 t955) ∧ w'.cell? ⟨gb959, 1, none⟩ = some (.int .u64 t956) ∧ w'.cell? ⟨gb959, 2, none⟩ = some (.int .i64 t957) ∧ w'.cell? ⟨gb959, 3, none⟩ = some (.int .u64 t958) ∧ w'.cell? ⟨gb964, 0, none⟩ = some (.int .i64 t960) ∧ w'.cell? ⟨gb964, 1, none⟩ = some (.int .u64 t961) ∧ w'.cell? ⟨gb964, 2, none⟩ = some (.int .i64 t962) ∧ w'.cell? ⟨gb964, 3, none⟩ = some (.int .u64 t963) ∧ w'.cell? ⟨gb968, 0, none⟩ = some (.int .i64 t965) ∧ w'.cell? ⟨gb968, 1, none⟩ = some (.int .u64 t966) ∧ w'.cell? ⟨gb972, 0, none⟩ = some (.int .i64 t969) ∧ w'.cell? ⟨gb972, 1, none⟩ = some (.int .u64 t970)) (ds := []) #[O, O, O, O, O, O, O, O, O, O, O, O, O, O, O, O, O, O, O, O, O, O, O, O, O, O] (by kernel_rfl) rfl rfl ⟨kc BK959 0, kc BK959 1, kc BK959 2, kc BK959 3, kc BK964 0, kc BK964 1, kc BK964 2, kc BK964 3, kc BK968 0, kc BK968 1, kc BK972 0, kc BK972 1⟩ (fun hHeld => ?_); refine with_tabW cobweblaw02_FracScales.tab8 cobweblaw02_FracScales.bits8 (fun HT_ HW_ => ?_)
      generalize w54.drew = w55 at BK953 BK959 BK964 BK968 BK972 HB hHeld ⊢
      refine one_ (i := 0) (N := some 64) #[T, O, O, O, O, O, O, O, O, O, O, O, O, O, O, O, O, O, O, O, O, O, O, O, O, O] rfl rfl (one_of HT_.out (by kernel_rfl)) (by decide) (fun K hK => ?_)
      refine goes_ Try.func39 (by kernel_rfl) rfl #[] (by rfl) rfl rfl (by (try simp only [List.map_toArray, List.map_cons, List.map_nil]); first | done | rfl | (simp only [List.length_drop, List.length_take]; rfl)) ?_
      with_reducible refine (cobweblaw02_alive.calls kj3  true _ A19.out).mono ?_
      rintro e w56 ⟨rfl, hb⟩
      refine ⟨_, rfl, ?_⟩
      replace BK953 := kb BK953 hb
      replace BK959 := kb BK959 hb
      replace BK964 := kb BK964 hb
      replace BK968 := kb BK968 hb
      replace BK972 := kb BK972 hb
      replace HB := kB HB hb
      (try clear hb); (try clear hb2); (try clear hk); (try clear hi)
      refine hK.out _ _ ⟨kc BK959 0, kc BK959 1, kc BK959 2, kc BK959 3, kc BK964 0, kc BK964 1, kc BK964 2, kc BK964 3, kc BK968 0, kc BK968 1, kc BK972 0, kc BK972 1⟩ (fun hHeld => ?_)
      clear hK K
      refine norm_ (a' := ?_) ?_ ?_; rotate_left; focus (show Act.put _ (some 64) _ = _; simp only [Act.put, s1, s2, s3, i64_w, i32_w]; rfl)
      refine pure_ (i := 1) (N := some 65) (v := ?_) (a' := ?_) #[T, T, O, O, O, O, O, O, O, O, O, O, O, O, O, O, O, O, O, O, O, O, O, O, O, O] rfl rfl (any_of HT_.out (by kernel_rfl)) (fun _ _ _ h => h) (Or.inl ⟨by rfl, ?_⟩) ?_ ?_; rotate_left; focus (intro w'; go_simp; with_reducible rfl)
      rotate_left; focus (simp only [Act.put, s1, s2, s3, i64_w, i32_w]; rfl)
      refine take_ (i := 2) (N := some 66) (v := ?_) (a' := ?_) #[T, T, T, O, O, O, O, O, O, O, O, O, O, O, O, O, O, O, O, O, O, O, O, O, O, O] rfl rfl (take_ofW HT_.out HW_.out (by kernel_rfl)) (fun _ _ _ h => h) (Or.inl ⟨by rfl, ?_⟩) hHeld ?_ ?_; rotate_left; focus (rintro w' ⟨s0, s1, s2, s3, s4, s5, s6, s7, s8, s9, s10, s11⟩; go_simp; with_reducible rfl)
      rotate_left; focus (simp only [Act.put, s1, s2, s3, i64_w, i32_w]; rfl)
      refine take_ (i := 3) (N := some 67) (v := ?_) (a' := ?_) #[T, T, T, T, O, O, O, O, O, O, O, O, O, O, O, O, O, O, O, O, O, O, O, O, O, O] rfl rfl (take_ofW HT_.out HW_.out (by kernel_rfl)) (fun _ _ _ h => h) (Or.inl ⟨by rfl, ?_⟩) hHeld ?_ ?_; rotate_left; focus (rintro w' ⟨s0, s1, s2, s3, s4, s5, s6, s7, s8, s9, s10, s11⟩; go_simp; with_reducible rfl)
      rotate_left; focus (simp only [Act.put, s1, s2, s3, i64_w, i32_w]; rfl)
      refine one_ (i := 4) (N := some 68) #[T, T, T, T, T, O, O, O, O, O, O, O, O, O, O, O, O, O, O, O, O, O, O, O, O, O] rfl rfl (one_of HT_.out (by kernel_rfl)) (by decide) (fun K hK => ?_)
      refine goes_ Try.func41 (by kernel_rfl) rfl #[.agg #[.int .i64 t955, .int .u64 t956, .int .i64 t957, .int .u64 t958], .agg #[.int .i64 t960, .int .u64 t961, .int .i64 t962, .int .u64 t963]] (by rfl) rfl rfl (by (try simp only [List.map_toArray, List.map_cons, List.map_nil]); first | done | rfl | (simp only [List.length_drop, List.length_take]; rfl)) ?_
      with_reducible refine (frac_Cmp.calls kj3 t955 t956 t957 t958 t960 t961 t962 t963 t974 _ A21.out).mono ?_
      rintro e w57 ⟨rfl, hb⟩
      refine ⟨_, rfl, ?_⟩
      replace BK953 := kb BK953 hb
      replace BK959 := kb BK959 hb
      replace BK964 := kb BK964 hb
      replace BK968 := kb BK968 hb
      replace BK972 := kb BK972 hb
      replace HB := kB HB hb
      (try clear hb); (try clear hb2); (try clear hk); (try clear hi)
      refine hK.out _ _ ⟨kc BK959 0, kc BK959 1, kc BK959 2, kc BK959 3, kc BK964 0, kc BK964 1, kc BK964 2, kc BK964 3, kc BK968 0, kc BK968 1, kc BK972 0, kc BK972 1⟩ (fun hHeld => ?_)
      clear hK K
      refine norm_ (a' := ?_) ?_ ?_; rotate_left; focus (show Act.put _ (some 68) _ = _; simp only [Act.put, s1, s2, s3, i64_w, i32_w]; rfl)
      refine pure_ (i := 5) (N := some 69) (v := ?_) (a' := ?_) #[T, T, T, T, T, T, O, O, O, O, O, O, O, O, O, O, O, O, O, O, O, O, O, O, O, O] rfl rfl (any_of HT_.out (by kernel_rfl)) (fun _ _ _ h => h) (Or.inl ⟨by rfl, ?_⟩) ?_ ?_; rotate_left; focus (intro w'; go_simp; with_reducible rfl)
      rotate_left; focus (simp only [Act.put, s1, s2, s3, i64_w, i32_w]; rfl)
      refine pure_ (i := 6) (N := some 70) (v := ?_) (a' := ?_) #[T, T, T, T, T, T, T, O, O, O, O, O, O, O, O, O, O, O, O, O, O, O, O, O, O, O] rfl rfl (any_of HT_.out (by kernel_rfl)) (fun _ _ _ h => h) (Or.inl ⟨by rfl, ?_⟩) ?_ ?_; rotate_left; focus (intro w'; go_simp; with_reducible rfl)
      rotate_left; focus (simp only [Act.put, s1, s2, s3, i64_w, i32_w]; rfl)
      refine pure_ (i := 7) (N := some 71) (v := ?_) (a' := ?_) #[T, T, T, T, T, T, T, T, O, O, O, O, O, O, O, O, O, O, O, O, O, O, O, O, O, O] rfl rfl (any_of HT_.out (by kernel_rfl)) (fun _ _ _ h => h) (Or.inl ⟨by rfl, ?_⟩) ?_ ?_; rotate_left; focus (intro w'; go_simp; with_reducible rfl)
      rotate_left; focus (simp only [Act.put, s1, s2, s3, i64_w, i32_w]; rfl)
      refine pure_ (i := 8) (N := some 72) (v := ?_) (a' := ?_) #[T, T, T, T, T, T, T, T, T, O, O, O, O, O, O, O, O, O, O, O, O, O, O, O, O, O] rfl rfl (any_of HT_.out (by kernel_rfl)) (fun _ _ _ h => h) (Or.inl ⟨by rfl, ?_⟩) ?_ ?_; rotate_left; focus (intro w'; go_simp; with_reducible rfl)
      rotate_left; focus (simp only [Act.put, s1, s2, s3, i64_w, i32_w]; rfl)
      refine pure_ (i := 9) (N := some 73) (v := ?_) (a' := ?_) #[T, T, T, T, T, T, T, T, T, T, O, O, O, O, O, O, O, O, O, O, O, O, O, O, O, O] rfl rfl (any_of HT_.out (by kernel_rfl)) (fun _ _ _ h => h) (Or.inl ⟨by rfl, ?_⟩) ?_ ?_; rotate_left; focus (intro w'; go_simp; with_reducible rfl)
      rotate_left; focus (simp only [Act.put, s1, s2, s3, i64_w, i32_w]; rfl)
      refine pure_ (i := 10) (N := some 74) (v := ?_) (a' := ?_) #[T, T, T, T, T, T, T, T, T, T, T, O, O, O, O, O, O, O, O, O, O, O, O, O, O, O] rfl rfl (any_of HT_.out (by kernel_rfl)) (fun _ _ _ h => h) (Or.inl ⟨by rfl, ?_⟩) ?_ ?_; rotate_left; focus (intro w'; go_simp; with_reducible rfl)
      rotate_left; focus (simp only [Act.put, s1, s2, s3, i64_w, i32_w]; rfl)
      refine pure_ (i := 11) (N := some 75) (v := ?_) (a' := ?_) #[T, T, T, T, T, T, T, T, T, T, T, T, O, O, O, O, O, O, O, O, O, O, O, O, O, O] rfl rfl (any_of HT_.out (by kernel_rfl)) (fun _ _ _ h => h) (Or.inl ⟨by rfl, ?_⟩) ?_ ?_; rotate_left; focus (intro w'; go_simp; with_reducible rfl)
      rotate_left; focus (simp only [Act.put, s1, s2, s3, i64_w, i32_w]; rfl)
      refine pure_ (i := 12) (N := some 76) (v := ?_) (a' := ?_) #[T, T, T, T, T, T, T, T, T, T, T, T, T, O, O, O, O, O, O, O, O, O, O, O, O, O] rfl rfl (any_of HT_.out (by kernel_rfl)) (fun _ _ _ h => h) (Or.inl ⟨by rfl, ?_⟩) ?_ ?_; rotate_left; focus (intro w'; go_simp; with_reducible rfl)
      rotate_left; focus (simp only [Act.put, s1, s2, s3, i64_w, i32_w]; rfl)
      refine pure_ (i := 13) (N := some 77) (v := ?_) (a' := ?_) #[T, T, T, T, T, T, T, T, T, T, T, T, T, T, O, O, O, O, O, O, O, O, O, O, O, O] rfl rfl (any_of HT_.out (by kernel_rfl)) (fun _ _ _ h => h) (Or.inl ⟨by rfl, ?_⟩) ?_ ?_; rotate_left; focus (intro w'; go_simp; with_reducible rfl)
      rotate_left; focus (simp only [Act.put, s1, s2, s3, i64_w, i32_w]; rfl)
      refine take_ (i := 14) (N := some 78) (v := ?_) (a' := ?_) #[T, T, T, T, T, T, T, T, T, T, T, T, T, T, T, O, O, O, O, O, O, O, O, O, O, O] rfl rfl (take_ofW HT_.out HW_.out (by kernel_rfl)) (fun _ _ _ h => h) (Or.inl ⟨by rfl, ?_⟩) hHeld ?_ ?_; rotate_left; focus (rintro w' ⟨s0, s1, s2, s3, s4, s5, s6, s7, s8, s9, s10, s11⟩; go_simp; with_reducible rfl)
      rotate_left; focus (simp only [Act.put, s1, s2, s3, i64_w, i32_w]; rfl)
      refine take_ (i := 15) (N := some 79) (v := ?_) (a' := ?_) #[T, T, T, T, T, T, T, T, T, T, T, T, T, T, T, T, O, O, O, O, O, O, O, O, O, O] rfl rfl (take_ofW HT_.out HW_.out (by kernel_rfl)) (fun _ _ _ h => h) (Or.inl ⟨by rfl, ?_⟩) hHeld ?_ ?_; rotate_left; focus (rintro w' ⟨s0, s1, s2, s3, s4, s5, s6, s7, s8, s9, s10, s11⟩; go_simp; with_reducible rfl)
      rotate_left; focus (simp only [Act.put, s1, s2, s3, i64_w, i32_w]; rfl)
      refine pure_ (i := 16) (N := some 80) (v := ?_) (a' := ?_) #[T, T, T, T, T, T, T, T, T, T, T, T, T, T, T, T, T, O, O, O, O, O, O, O, O, O] rfl rfl (any_of HT_.out (by kernel_rfl)) (fun _ _ _ h => h) (Or.inl ⟨by rfl, ?_⟩) ?_ ?_; rotate_left; focus (intro w'; go_simp; with_reducible rfl)
      rotate_left; focus (simp only [Act.put, s1, s2, s3, i64_w, i32_w]; rfl)
      refine pure_ (i := 17) (N := some 81) (v := ?_) (a' := ?_) #[T, T, T, T, T, T, T, T, T, T, T, T, T, T, T, T, T, T, O, O, O, O, O, O, O, O] rfl rfl (any_of HT_.out (by kernel_rfl)) (fun _ _ _ h => h) (Or.inl ⟨by rfl, ?_⟩) ?_ ?_; rotate_left; focus (intro w'; go_simp; with_reducible rfl)
      rotate_left; focus (simp only [Act.put, s1, s2, s3, i64_w, i32_w]; rfl)
      refine pure_ (i := 18) (N := some 82) (v := ?_) (a' := ?_) #[T, T, T, T, T, T, T, T, T, T, T, T, T, T, T, T, T, T, T, O, O, O, O, O, O, O] rfl rfl (any_of HT_.out (by kernel_rfl)) (fun _ _ _ h => h) (Or.inl ⟨by rfl, ?_⟩) ?_ ?_; rotate_left; focus (intro w'; go_simp; with_reducible rfl)
      rotate_left; focus (simp only [Act.put, s1, s2, s3, i64_w, i32_w]; rfl)
      refine take_ (i := 19) (N := some 83) (v := ?_) (a' := ?_) #[T, T, T, T, T, T, T, T, T, T, T, T, T, T, T, T, T, T, T, T, O, O, O, O, O, O] rfl rfl (take_ofW HT_.out HW_.out (by kernel_rfl)) (fun _ _ _ h => h) (Or.inl ⟨by rfl, ?_⟩) hHeld ?_ ?_; rotate_left; focus (rintro w' ⟨s0, s1, s2, s3, s4, s5, s6, s7, s8, s9, s10, s11⟩; go_simp; with_reducible rfl)
      rotate_left; focus (simp only [Act.put, s1, s2, s3, i64_w, i32_w]; rfl)
      refine take_ (i := 21) (N := some 85) (v := ?_) (a' := ?_) #[T, T, T, T, T, T, T, T, T, T, T, T, T, T, T, T, T, T, T, T, O, T, O, O, O, O] rfl rfl (take_ofW HT_.out HW_.out (by kernel_rfl)) (fun _ _ _ h => h) (Or.inl ⟨by rfl, ?_⟩) hHeld ?_ ?_; rotate_left; focus (rintro w' ⟨s0, s1, s2, s3, s4, s5, s6, s7, s8, s9, s10, s11⟩; go_simp; with_reducible rfl)
      rotate_left; focus (simp only [Act.put, s1, s2, s3, i64_w, i32_w]; rfl)
      refine one_ (i := 20) (N := some 84) #[T, T, T, T, T, T, T, T, T, T, T, T, T, T, T, T, T, T, T, T, T, T, O, O, O, O] rfl rfl (one_of HT_.out (by kernel_rfl)) (by decide) (fun K hK => ?_)
      refine goes_ Try.func42 (by kernel_rfl) rfl #[.agg #[.int .i64 t955, .int .u64 t956, .int .i64 t957, .int .u64 t958]] (by rfl) rfl rfl (by (try simp only [List.map_toArray, List.map_cons, List.map_nil]); first | done | rfl | (simp only [List.length_drop, List.length_take]; rfl)) ?_
      with_reducible refine (frac_Floor.calls kj3 t955 t956 t957 t958 t975 t976 _ A26.out).mono ?_
      rintro e w58 ⟨rfl, hb⟩
      refine ⟨_, rfl, ?_⟩
      replace BK953 := kb BK953 hb
      replace BK959 := kb BK959 hb
      replace BK964 := kb BK964 hb
      replace BK968 := kb BK968 hb
      replace BK972 := kb BK972 hb
      replace HB := kB HB hb
      (try clear hb); (try clear hb2); (try clear hk); (try clear hi)
      refine hK.out _ _ ⟨kc BK959 0, kc BK959 1, kc BK959 2, kc BK959 3, kc BK964 0, kc BK964 1, kc BK964 2, kc BK964 3, kc BK968 0, kc BK968 1, kc BK972 0, kc BK972 1⟩ (fun hHeld => ?_)
      clear hK K
      refine norm_ (a' := ?_) ?_ ?_; rotate_left; focus (show Act.put _ (some 84) _ = _; simp only [Act.put, s1, s2, s3, i64_w, i32_w]; rfl)
      refine one_ (i := 22) (N := some 86) #[T, T, T, T, T, T, T, T, T, T, T, T, T, T, T, T, T, T, T, T, T, T, T, O, O, O] rfl rfl (one_of HT_.out (by kernel_rfl)) (by decide) (fun K hK => ?_)
      refine goes_ Try.func42 (by kernel_rfl) rfl #[.agg #[.int .i64 t960, .int .u64 t961, .int .i64 t962, .int .u64 t963]] (by rfl) rfl rfl (by (try simp only [List.map_toArray, List.map_cons, List.map_nil]); first | done | rfl | (simp only [List.length_drop, List.length_take]; rfl)) ?_
      with_reducible refine (frac_Floor.calls kj3 t960 t961 t962 t963 t977 t978 _ A27.out).mono ?_
      rintro e w59 ⟨rfl, hb⟩
      refine ⟨_, rfl, ?_⟩
      replace BK953 := kb BK953 hb
      replace BK959 := kb BK959 hb
      replace BK964 := kb BK964 hb
      replace BK968 := kb BK968 hb
      replace BK972 := kb BK972 hb
      replace HB := kB HB hb
      (try clear hb); (try clear hb2); (try clear hk); (try clear hi)
      refine hK.out _ _ ⟨kc BK959 0, kc BK959 1, kc BK959 2, kc BK959 3, kc BK964 0, kc BK964 1, kc BK964 2, kc BK964 3, kc BK968 0, kc BK968 1, kc BK972 0, kc BK972 1⟩ (fun hHeld => ?_)
      clear hK K
      refine norm_ (a' := ?_) ?_ ?_; rotate_left; focus (show Act.put _ (some 86) _ = _; simp only [Act.put, s1, s2, s3, i64_w, i32_w]; rfl)
      refine pure_ (i := 23) (N := some 87) (v := ?_) (a' := ?_) #[T, T, T, T, T, T, T, T, T, T, T, T, T, T, T, T, T, T, T, T, T, T, T, T, O, O] rfl rfl (any_of HT_.out (by kernel_rfl)) (fun _ _ _ h => h) (Or.inl ⟨by rfl, ?_⟩) ?_ ?_; rotate_left; focus (intro w'; go_simp; with_reducible rfl)
      rotate_left; focus (simp only [Act.put, s1, s2, s3, i64_w, i32_w]; rfl)
      refine pure_ (i := 24) (N := some 88) (v := ?_) (a' := ?_) #[T, T, T, T, T, T, T, T, T, T, T, T, T, T, T, T, T, T, T, T, T, T, T, T, T, O] rfl rfl (any_of HT_.out (by kernel_rfl)) (fun _ _ _ h => h) (Or.inl ⟨by rfl, ?_⟩) ?_ ?_; rotate_left; focus (intro w'; go_simp; with_reducible rfl)
      rotate_left; focus (simp only [Act.put, s1, s2, s3, i64_w, i32_w]; rfl)
      refine pure_ (i := 25) (N := some 6) (v := ?_) (a' := ?_) #[T, T, T, T, T, T, T, T, T, T, T, T, T, T, T, T, T, T, T, T, T, T, T, T, T, T] rfl rfl (any_of HT_.out (by kernel_rfl)) (fun _ _ _ h => h) (Or.inl ⟨by rfl, ?_⟩) ?_ ?_; rotate_left; focus (intro w'; go_simp; with_reducible rfl)
      rotate_left; focus (simp only [Act.put, s1, s2, s3, i64_w, i32_w]; rfl)
      refine done_ (done_of HT_.out (by kernel_rfl)) ?_
      try go_wp2
      go_ret
      exact ⟨by first | rfl | (simp [errW_none, errW_some] <;> rfl) | (simp [*, errW_none, errW_some] <;> rfl), ky HB⟩
end Go.Proofs.Ytpjbniihdndlmaa.Q
