-- Printed by wip/pp.sh (a session's own turning of the kit's print) for this seat.
import Derived.Test.YtpjbniihdndlmabQx0
import Derived.Test.YtpjbniihdndlmabQx3
import Derived.Test.YtpjbniihdndlmabQx25
import Derived.Test.YtpjbniihdndlmabQx26
import Derived.Test.YtpjbniihdndlmabQx31
namespace Go.Proofs.Ytpjbniihdndlmab.Q
open Go.RowKit Go.Proofs.YtpjbniihdndlmabW.PrintWords Go.Proofs.YtpjbniihdndlmabW.PrintLast Go.Proofs.YtpjbniihdndlmabW.PrintMore
open Go.Proofs.Ytpjbniihdndlmab.H
attribute [local go_sem] hq_add64 hq_sub64 hq_not64 add64c_nn sub64c_nn sub64c_le
attribute [local go_sem] max2_int min2_int max_two min_two max_three min_three max_four min_four   -- for this text's walks alone
set_option linter.unusedVariables false
set_option linter.unusedSimpArgs false

attribute [local go_sem high] eqA60
/-! ### cobweblaw03_GridCoarse: function 13 -/
def cobweblaw03_GridCoarse.j0 : Nat → Int → Int → Int → Int → Bool → Option (Bool)
  | 0, _, _, _, _, _ => none
  | k + 1, x0, x1, x7, x8, x32 => if x32 = true then ((cobweblaw03_alive.f k).bind fun t1025 => (some t1025)) else ((grid_Of.f x0 x1 (Int.tmod (wrap64 (x7)) 29)).bind fun bt1027 => ((grid_Center.f bt1027.1 bt1027.2 (Int.tmod (wrap64 (x7)) 29)).bind fun bt1029 => ((grid_Of.f x0 x1 (Int.tmod (wrap64 (x8)) 29)).bind fun bt1031 => ((grid_Center.f bt1031.1 bt1031.2 (Int.tmod (wrap64 (x8)) 29)).bind fun bt1033 => ((cobweblaw03_alive.f k).bind fun t1037 => (if t1037 = true then ((grid_Of.f x0 x1 28).bind fun bt1038 => (if (bt1038.1 == 0 && (bt1038.2 == 0)) = true then ((cobwebref03_Size.f k (Int.tmod (wrap64 (x7)) 29)).bind fun t1040 => ((cobwebref03_Size.f k (Int.tmod (wrap64 (x8)) 29)).bind fun t1041 => (some (decide ((wrap64 (2 * (mx (mx (mx (wrap64 (bt1029.1 - bt1033.1)) (wrap64 (bt1033.1 - bt1029.1))) (wrap64 (bt1029.2 - bt1033.2))) (wrap64 (bt1033.2 - bt1029.2))))) ≤ (wrap64 (t1040 + t1041))))))) else (none))) else (none)))))))
def cobweblaw03_GridCoarse.f (k : Nat) (a0 : Int) (a1 : Int) (a2_0 : Int) (a2_1 : Int) : Option (Bool) := if a0 < (-67108864) then (cobweblaw03_GridCoarse.j0 k a0 a1 a2_0 a2_1 true) else (if a0 > 67108864 then (cobweblaw03_GridCoarse.j0 k a0 a1 a2_0 a2_1 true) else (if a1 < (-67108864) then (cobweblaw03_GridCoarse.j0 k a0 a1 a2_0 a2_1 true) else (cobweblaw03_GridCoarse.j0 k a0 a1 a2_0 a2_1 (decide (a1 > 67108864)))))
theorem cobweblaw03_GridCoarse.mono_l : ∀ k, (∀ y0 y1 y2 y3 y4, LeO (cobweblaw03_GridCoarse.j0 k y0 y1 y2 y3 y4) (cobweblaw03_GridCoarse.j0 (k + 1) y0 y1 y2 y3 y4))
  | 0 => fun _ _ _ _ _ r h => by simp [cobweblaw03_GridCoarse.j0] at h
  | k + 1 => by
    have ih0 := cobweblaw03_GridCoarse.mono_l k
    · intro y0 y1 y2 y3 y4
      unfold cobweblaw03_GridCoarse.j0
      repeat' first
      | (with_reducible exact ih0 _ _ _ _ _)
      | (with_reducible exact cobweblaw03_alive.mono _)
      | (with_reducible exact cobwebref03_Size.mono _ _)
      | (with_reducible exact LeO.refl _)
      | (with_reducible exact LeO.none _)
      | (with_reducible refine LeO.ite ?_ ?_)
      | (with_reducible refine LeO.bind ?_ (fun _ => ?_))
      | exact ih0 _ _ _ _ _
      | exact cobweblaw03_alive.mono _
      | exact cobwebref03_Size.mono _ _
      | exact LeO.none _
      | refine LeO.ite ?_ ?_
      | refine LeO.bind ?_ (fun _ => ?_)
theorem cobweblaw03_GridCoarse.mono : ∀ a0 a1 a2 a3 k, LeO (cobweblaw03_GridCoarse.f k a0 a1 a2 a3) (cobweblaw03_GridCoarse.f (k + 1) a0 a1 a2 a3) := by
  intro a0 a1 a2 a3 k
  have ih0 := cobweblaw03_GridCoarse.mono_l k
  unfold cobweblaw03_GridCoarse.f
  repeat' first
      | (with_reducible exact ih0 _ _ _ _ _)
      | (with_reducible exact cobweblaw03_alive.mono _)
      | (with_reducible exact cobwebref03_Size.mono _ _)
      | (with_reducible exact LeO.refl _)
      | (with_reducible exact LeO.none _)
      | (with_reducible refine LeO.ite ?_ ?_)
      | (with_reducible refine LeO.bind ?_ (fun _ => ?_))
      | exact ih0 _ _ _ _ _
      | exact cobweblaw03_alive.mono _
      | exact cobwebref03_Size.mono _ _
      | exact LeO.none _
      | refine LeO.ite ?_ ?_
      | refine LeO.bind ?_ (fun _ => ?_)
def cobweblaw03_GridCoarse.T6 : Bool × List (List Nat × List Nat) := (true, [([], []), ([], []), ([0, 1], [0, 1]), ([], []), ([2, 3, 2], [2, 3]), ([], []), ([], []), ([5, 6, 4], [5, 6]), ([], []), ([7, 8, 7], [7, 8]), ([], []), ([], []), ([10, 4, 9, 0, 1, 2, 3, 4, 10, 11], [4, 10]), ([11, 9, 12, 0, 1, 2, 3, 4, 5, 6, 7, 8, 9, 10, 11, 12], [9, 11])])
def cobweblaw03_GridCoarse.B6 : List Nat := [0, 0, 3, 0, 15, 0, 0, 127, 0, 511, 0, 0, 4095, 8191]
theorem cobweblaw03_GridCoarse.tab6 : rtab .any (opsOf Try.f13 6) = cobweblaw03_GridCoarse.T6 := by kernel_rfl
theorem cobweblaw03_GridCoarse.bits6 : waitsOk cobweblaw03_GridCoarse.T6.2 cobweblaw03_GridCoarse.B6 = true := by kernel_rfl
set_option maxHeartbeats 8000000 in
set_option maxRecDepth 100000 in
theorem cobweblaw03_GridCoarse.calls (k : Nat) (a0 : Int) (a1 : Int) (a2_0 : Int) (a2_1 : Int) (r : Bool) (w : World) (h : cobweblaw03_GridCoarse.f k a0 a1 a2_0 a2_1 = some r) :
    Calls Try.prog 13 #[.int .i64 a0, .int .i64 a1, .agg #[.int .u8 a2_0, .int .u8 a2_1]] w fun e w' => e = .returned (.bool r) ∧ Below w.heap.size w w' := by
  have hu79 := Try.underlying79
  have hu62 := Try.underlying62
  have hu60 := Try.underlying60
  have HB := Aside0.mk (Below.refl w.heap.size w)
  have H : (if a0 < (-67108864) then (cobweblaw03_GridCoarse.j0 k a0 a1 a2_0 a2_1 true) else (if a0 > 67108864 then (cobweblaw03_GridCoarse.j0 k a0 a1 a2_0 a2_1 true) else (if a1 < (-67108864) then (cobweblaw03_GridCoarse.j0 k a0 a1 a2_0 a2_1 true) else (cobweblaw03_GridCoarse.j0 k a0 a1 a2_0 a2_1 (decide (a1 > 67108864)))))) = some r := h
  clear h
  have HC4 := Aside0.mk H
  clear H
  go_enter Try.func13, Try.ntmps13
  try go_wp2_with (first | ((with_reducible refine gate_dst (N := 5) rfl ?_); refine box_event ?hg (N := 5) ?hd (cs := #[.int .u8 a2_0, .int .u8 a2_1]) (t := 79) ?hr ?_; (case hd => rfl); (case hg => rfl); (case hr => first | (go_simp; done) | (go_simp; rfl)); intro gb1024 hg w5 hbox hb; have BK1024 := Aside0.mk (hbox); have GW1024 := kS HB hg; have GE1024 := kS HB hg; replace HB := kB HB hb; clear hb hbox hg))
  replace BK1024 := Aside0.mk (blk_drew BK1024.out)
  replace HB := Aside0.mk (below_drew1 HB.out)
  refine start_ (n := 6) (S := fun w' => w'.cell? ⟨gb1024, 0, none⟩ = some (.int .u8 a2_0) ∧ w'.cell? ⟨gb1024, 1, none⟩ = some (.int .u8 a2_1)) (ds := []) #[O, O, O, O, O, O] (by kernel_rfl) rfl rfl ⟨kc BK1024 0, kc BK1024 1⟩ (fun hHeld => ?_)
  generalize w5.drew = w6 at BK1024 HB hHeld ⊢
  refine pure_ (i := 0) (N := some 15) (v := ?_) (a' := ?_) #[T, O, O, O, O, O] rfl rfl (by kernel_rfl) (fun _ _ _ h => h) (Or.inl ⟨by rfl, ?_⟩) ?_ ?_; rotate_left; focus (intro w'; go_simp; with_reducible rfl)
  rotate_left; focus (simp only [Act.put, s1, s2, s3, i64_w, i32_w]; rfl)
  refine pure_ (i := 2) (N := some 17) (v := ?_) (a' := ?_) #[T, O, T, O, O, O] rfl rfl (by kernel_rfl) (fun _ _ _ h => h) (Or.inl ⟨by rfl, ?_⟩) ?_ ?_; rotate_left; focus (intro w'; go_simp; with_reducible rfl)
  rotate_left; focus (simp only [Act.put, s1, s2, s3, i64_w, i32_w]; rfl)
  refine take_ (i := 1) (N := some 16) (v := ?_) (a' := ?_) #[T, T, T, O, O, O] rfl rfl (by kernel_rfl) (fun _ _ _ h => h) (Or.inl ⟨by rfl, ?_⟩) hHeld ?_ ?_; rotate_left; focus (rintro w' ⟨s0, s1⟩; go_simp; with_reducible rfl)
  rotate_left; focus (simp only [Act.put, s1, s2, s3, i64_w, i32_w]; rfl)
  refine pure_ (i := 4) (N := some 7) (v := ?_) (a' := ?_) #[T, T, T, O, T, O] rfl rfl (by kernel_rfl) (fun _ _ _ h => h) (Or.inl ⟨by rfl, ?_⟩) ?_ ?_; rotate_left; focus (intro w'; go_simp; with_reducible rfl)
  rotate_left; focus (simp only [Act.put, s1, s2, s3, i64_w, i32_w]; rfl)
  refine take_ (i := 3) (N := some 18) (v := ?_) (a' := ?_) #[T, T, T, T, T, O] rfl rfl (by kernel_rfl) (fun _ _ _ h => h) (Or.inl ⟨by rfl, ?_⟩) hHeld ?_ ?_; rotate_left; focus (rintro w' ⟨s0, s1⟩; go_simp; with_reducible rfl)
  rotate_left; focus (simp only [Act.put, s1, s2, s3, i64_w, i32_w]; rfl)
  refine pure_ (i := 5) (N := some 8) (v := ?_) (a' := ?_) #[T, T, T, T, T, T] rfl rfl (by kernel_rfl) (fun _ _ _ h => h) (Or.inl ⟨by rfl, ?_⟩) ?_ ?_; rotate_left; focus (intro w'; go_simp; with_reducible rfl)
  rotate_left; focus (simp only [Act.put, s1, s2, s3, i64_w, i32_w]; rfl)
  refine done_ (by kernel_rfl) ?_
  go_upto_region 2 with (fail)
  go_cut [32] (fun v32 wc => ∃ (kq : Nat) (x32_3 : Bool), v32 = .bool x32_3 ∧ Aside0 (cobweblaw03_GridCoarse.j0 kq a0 a1 a2_0 a2_1 x32_3 = some r) ∧ Aside0 (kq ≤ k) ∧ Aside0 (wc.heap[gb1024]? = some (.cells #[.int .u8 a2_0, .int .u8 a2_1] 79 (0, 0))) ∧ Aside0 (Below w.heap.size w wc))
  case first =>
    have H := HC4.out; clear HC4
    by_cases c7 : a0 < (-67108864)
    · rw [if_pos c7] at H
      have c7b0 : decide (a0 < (-67108864)) = true := decide_eq_true c7
      clear c7
      (first | rw [c7b0] | (simp only [i64_w, i32_w]; rw [c7b0]) | skip)
      have H' := Aside0.mk H
      clear H
      go_wp2
      go_meet
      case rel => exact ⟨_, (true), (by first | rfl | (simp; done) | (simp [*]; done)), H', ⟨by first | omega | exact Nat.le_refl _⟩, ⟨kx BK1024⟩, ⟨ky HB⟩⟩
    rw [if_neg c7] at H
    have c7b0 : decide (a0 < (-67108864)) = false := decide_eq_false c7
    clear c7
    (first | rw [c7b0] | (simp only [i64_w, i32_w]; rw [c7b0]) | skip)
    by_cases c8 : a0 > 67108864
    · rw [if_pos c8] at H
      have c8b0 : decide (67108864 < a0) = true := decide_eq_true c8
      clear c8
      have H' := Aside0.mk H
      clear H
      go_wp2
      go_meet
      case rel => exact ⟨_, (true), (by first | rfl | (simp; done) | (simp [*]; done)), H', ⟨by first | omega | exact Nat.le_refl _⟩, ⟨kx BK1024⟩, ⟨ky HB⟩⟩
    rw [if_neg c8] at H
    have c8b0 : decide (67108864 < a0) = false := decide_eq_false c8
    clear c8
    by_cases c9 : a1 < (-67108864)
    · rw [if_pos c9] at H
      have c9b0 : decide (a1 < (-67108864)) = true := decide_eq_true c9
      clear c9
      have H' := Aside0.mk H
      clear H
      go_wp2
      go_meet
      case rel => exact ⟨_, (true), (by first | rfl | (simp; done) | (simp [*]; done)), H', ⟨by first | omega | exact Nat.le_refl _⟩, ⟨kx BK1024⟩, ⟨ky HB⟩⟩
    rw [if_neg c9] at H
    have c9b0 : decide (a1 < (-67108864)) = false := decide_eq_false c9
    clear c9
    have H' := Aside0.mk H
    clear H
    go_wp2
    go_meet
    case rel => exact ⟨_, (decide (a1 > 67108864)), (by first | rfl | (simp; done) | (simp [*]; done)), H', ⟨by first | omega | exact Nat.le_refl _⟩, ⟨kx BK1024⟩, ⟨ky HB⟩⟩
  case rest =>
    clear HC4; try clear c1; try clear p2; try clear c7; try clear c7b0; try clear c8; try clear c8b0; try clear c9; try clear c9b0
    obtain ⟨kq, x32_3, rfl, HA, HJ3, BK1024, HB⟩ := hcut
    cases kq with
    | zero => exact absurd HA.out (by simp [cobweblaw03_GridCoarse.j0])
    | succ kj3 =>
      have H := HA.out; clear HA
      simp only [cobweblaw03_GridCoarse.j0] at H
      by_cases c10 : x32_3 = true
      · subst c10
        have H1 : ((cobweblaw03_alive.f kj3).bind fun t1025 => (some t1025)) = some r := by rw [if_pos rfl] at H; exact H
        clear H; have H := H1; clear H1
        replace H := Option.bind_eq_some_iff.mp H
        obtain ⟨t1025, A110, H⟩ := H
        replace H : (some t1025) = some r := H
        have A11 := Aside0.mk A110
        clear A110
        obtain rfl := Option.some.inj H
        go_wp2_with (first | ((with_reducible refine gate_callee (f := 38) rfl ?_); refine goesL_ (some 33) rfl rfl Try.func38 (by kernel_rfl) rfl #[] rfl (by (try simp only [List.map_toArray, List.map_cons, List.map_nil]); first | done | rfl | (simp only [List.length_drop, List.length_take]; rfl)) ?_; (with_reducible refine (cobweblaw03_alive.calls kj3  t1025 _ A11.out).mono ?_); rintro e w12 ⟨rfl, hb⟩; refine ⟨_, rfl, ?_⟩; replace BK1024 := kb BK1024 hb; replace HB := kB HB hb; (try clear hb); (try clear hb2); (try clear hk); (try clear hi)))
        go_ret
        exact ⟨by first | rfl | (simp [errW_none, errW_some] <;> rfl) | (simp [*, errW_none, errW_some] <;> rfl), ky HB⟩
      replace c10 := Bool.eq_false_iff.mpr c10
      subst c10
      have H1 : ((grid_Of.f a0 a1 (Int.tmod (wrap64 (a2_0)) 29)).bind fun bt1027 => ((grid_Center.f bt1027.1 bt1027.2 (Int.tmod (wrap64 (a2_0)) 29)).bind fun bt1029 => ((grid_Of.f a0 a1 (Int.tmod (wrap64 (a2_1)) 29)).bind fun bt1031 => ((grid_Center.f bt1031.1 bt1031.2 (Int.tmod (wrap64 (a2_1)) 29)).bind fun bt1033 => ((cobweblaw03_alive.f kj3).bind fun t1037 => (if t1037 = true then ((grid_Of.f a0 a1 28).bind fun bt1038 => (if (bt1038.1 == 0 && (bt1038.2 == 0)) = true then ((cobwebref03_Size.f kj3 (Int.tmod (wrap64 (a2_0)) 29)).bind fun t1040 => ((cobwebref03_Size.f kj3 (Int.tmod (wrap64 (a2_1)) 29)).bind fun t1041 => (some (decide ((wrap64 (2 * (mx (mx (mx (wrap64 (bt1029.1 - bt1033.1)) (wrap64 (bt1033.1 - bt1029.1))) (wrap64 (bt1029.2 - bt1033.2))) (wrap64 (bt1033.2 - bt1029.2))))) ≤ (wrap64 (t1040 + t1041))))))) else (none))) else (none))))))) = some r := by rw [if_neg (show ¬ (false = true) by decide)] at H; exact H
      clear H; have H := H1; clear H1
      replace H := Option.bind_eq_some_iff.mp H
      obtain ⟨⟨t1027, t1028⟩, A130, H⟩ := H
      replace H : ((grid_Center.f t1027 t1028 (Int.tmod (wrap64 (a2_0)) 29)).bind fun bt1029 => ((grid_Of.f a0 a1 (Int.tmod (wrap64 (a2_1)) 29)).bind fun bt1031 => ((grid_Center.f bt1031.1 bt1031.2 (Int.tmod (wrap64 (a2_1)) 29)).bind fun bt1033 => ((cobweblaw03_alive.f kj3).bind fun t1037 => (if t1037 = true then ((grid_Of.f a0 a1 28).bind fun bt1038 => (if (bt1038.1 == 0 && (bt1038.2 == 0)) = true then ((cobwebref03_Size.f kj3 (Int.tmod (wrap64 (a2_0)) 29)).bind fun t1040 => ((cobwebref03_Size.f kj3 (Int.tmod (wrap64 (a2_1)) 29)).bind fun t1041 => (some (decide ((wrap64 (2 * (mx (mx (mx (wrap64 (bt1029.1 - bt1033.1)) (wrap64 (bt1033.1 - bt1029.1))) (wrap64 (bt1029.2 - bt1033.2))) (wrap64 (bt1033.2 - bt1029.2))))) ≤ (wrap64 (t1040 + t1041))))))) else (none))) else (none)))))) = some r := H
      have A13 := Aside0.mk A130
      clear A130
      replace H := Option.bind_eq_some_iff.mp H
      obtain ⟨⟨t1029, t1030⟩, A140, H⟩ := H
      replace H : ((grid_Of.f a0 a1 (Int.tmod (wrap64 (a2_1)) 29)).bind fun bt1031 => ((grid_Center.f bt1031.1 bt1031.2 (Int.tmod (wrap64 (a2_1)) 29)).bind fun bt1033 => ((cobweblaw03_alive.f kj3).bind fun t1037 => (if t1037 = true then ((grid_Of.f a0 a1 28).bind fun bt1038 => (if (bt1038.1 == 0 && (bt1038.2 == 0)) = true then ((cobwebref03_Size.f kj3 (Int.tmod (wrap64 (a2_0)) 29)).bind fun t1040 => ((cobwebref03_Size.f kj3 (Int.tmod (wrap64 (a2_1)) 29)).bind fun t1041 => (some (decide ((wrap64 (2 * (mx (mx (mx (wrap64 (t1029 - bt1033.1)) (wrap64 (bt1033.1 - t1029))) (wrap64 (t1030 - bt1033.2))) (wrap64 (bt1033.2 - t1030))))) ≤ (wrap64 (t1040 + t1041))))))) else (none))) else (none))))) = some r := H
      have A14 := Aside0.mk A140
      clear A140
      replace H := Option.bind_eq_some_iff.mp H
      obtain ⟨⟨t1031, t1032⟩, A150, H⟩ := H
      replace H : ((grid_Center.f t1031 t1032 (Int.tmod (wrap64 (a2_1)) 29)).bind fun bt1033 => ((cobweblaw03_alive.f kj3).bind fun t1037 => (if t1037 = true then ((grid_Of.f a0 a1 28).bind fun bt1038 => (if (bt1038.1 == 0 && (bt1038.2 == 0)) = true then ((cobwebref03_Size.f kj3 (Int.tmod (wrap64 (a2_0)) 29)).bind fun t1040 => ((cobwebref03_Size.f kj3 (Int.tmod (wrap64 (a2_1)) 29)).bind fun t1041 => (some (decide ((wrap64 (2 * (mx (mx (mx (wrap64 (t1029 - bt1033.1)) (wrap64 (bt1033.1 - t1029))) (wrap64 (t1030 - bt1033.2))) (wrap64 (bt1033.2 - t1030))))) ≤ (wrap64 (t1040 + t1041))))))) else (none))) else (none)))) = some r := H
      have A15 := Aside0.mk A150
      clear A150
      replace H := Option.bind_eq_some_iff.mp H
      obtain ⟨⟨t1033, t1034⟩, A160, H⟩ := H
      replace H : ((cobweblaw03_alive.f kj3).bind fun t1037 => (if t1037 = true then ((grid_Of.f a0 a1 28).bind fun bt1038 => (if (bt1038.1 == 0 && (bt1038.2 == 0)) = true then ((cobwebref03_Size.f kj3 (Int.tmod (wrap64 (a2_0)) 29)).bind fun t1040 => ((cobwebref03_Size.f kj3 (Int.tmod (wrap64 (a2_1)) 29)).bind fun t1041 => (some (decide ((wrap64 (2 * (mx (mx (mx (wrap64 (t1029 - t1033)) (wrap64 (t1033 - t1029))) (wrap64 (t1030 - t1034))) (wrap64 (t1034 - t1030))))) ≤ (wrap64 (t1040 + t1041))))))) else (none))) else (none))) = some r := H
      have A16 := Aside0.mk A160
      clear A160
      obtain ⟨ji17, hji17⟩ : ∃ j_ : Int, (mx (wrap64 (t1029 - t1033)) (wrap64 (t1033 - t1029))) = j_ := ⟨_, rfl⟩
      replace H : ((cobweblaw03_alive.f kj3).bind fun t1037 => (if t1037 = true then ((grid_Of.f a0 a1 28).bind fun bt1038 => (if (bt1038.1 == 0 && (bt1038.2 == 0)) = true then ((cobwebref03_Size.f kj3 (Int.tmod (wrap64 (a2_0)) 29)).bind fun t1040 => ((cobwebref03_Size.f kj3 (Int.tmod (wrap64 (a2_1)) 29)).bind fun t1041 => (some (decide ((wrap64 (2 * (mx (mx (ji17) (wrap64 (t1030 - t1034))) (wrap64 (t1034 - t1030))))) ≤ (wrap64 (t1040 + t1041))))))) else (none))) else (none))) = some r := by first | (rw [hji17] at H; exact H) | (simp only [hji17] at H ⊢; exact H)
      (try rw [hji17] at A13)
      (try rw [hji17] at A14)
      (try rw [hji17] at A15)
      (try rw [hji17] at A16)
      have hji17_ : (if (wrap64 (t1029 - t1033)) < (wrap64 (t1033 - t1029)) then (wrap64 (t1033 - t1029)) else (wrap64 (t1029 - t1033))) = ji17 := hji17
      obtain ⟨ji18, hji18⟩ : ∃ j_ : Int, (mx (ji17) (wrap64 (t1030 - t1034))) = j_ := ⟨_, rfl⟩
      replace H : ((cobweblaw03_alive.f kj3).bind fun t1037 => (if t1037 = true then ((grid_Of.f a0 a1 28).bind fun bt1038 => (if (bt1038.1 == 0 && (bt1038.2 == 0)) = true then ((cobwebref03_Size.f kj3 (Int.tmod (wrap64 (a2_0)) 29)).bind fun t1040 => ((cobwebref03_Size.f kj3 (Int.tmod (wrap64 (a2_1)) 29)).bind fun t1041 => (some (decide ((wrap64 (2 * (mx (ji18) (wrap64 (t1034 - t1030))))) ≤ (wrap64 (t1040 + t1041))))))) else (none))) else (none))) = some r := by first | (rw [hji18] at H; exact H) | (simp only [hji18] at H ⊢; exact H)
      (try rw [hji18] at A13)
      (try rw [hji18] at A14)
      (try rw [hji18] at A15)
      (try rw [hji18] at A16)
      have hji18_ : (if (ji17) < (wrap64 (t1030 - t1034)) then (wrap64 (t1030 - t1034)) else (ji17)) = ji18 := hji18
      obtain ⟨ji19, hji19⟩ : ∃ j_ : Int, (mx (ji18) (wrap64 (t1034 - t1030))) = j_ := ⟨_, rfl⟩
      replace H : ((cobweblaw03_alive.f kj3).bind fun t1037 => (if t1037 = true then ((grid_Of.f a0 a1 28).bind fun bt1038 => (if (bt1038.1 == 0 && (bt1038.2 == 0)) = true then ((cobwebref03_Size.f kj3 (Int.tmod (wrap64 (a2_0)) 29)).bind fun t1040 => ((cobwebref03_Size.f kj3 (Int.tmod (wrap64 (a2_1)) 29)).bind fun t1041 => (some (decide ((wrap64 (2 * (ji19))) ≤ (wrap64 (t1040 + t1041))))))) else (none))) else (none))) = some r := by first | (rw [hji19] at H; exact H) | (simp only [hji19] at H ⊢; exact H)
      (try rw [hji19] at A13)
      (try rw [hji19] at A14)
      (try rw [hji19] at A15)
      (try rw [hji19] at A16)
      have hji19_ : (if (ji18) < (wrap64 (t1034 - t1030)) then (wrap64 (t1034 - t1030)) else (ji18)) = ji19 := hji19
      replace H := Option.bind_eq_some_iff.mp H
      obtain ⟨t1037, A200, H⟩ := H
      replace H : (if t1037 = true then ((grid_Of.f a0 a1 28).bind fun bt1038 => (if (bt1038.1 == 0 && (bt1038.2 == 0)) = true then ((cobwebref03_Size.f kj3 (Int.tmod (wrap64 (a2_0)) 29)).bind fun t1040 => ((cobwebref03_Size.f kj3 (Int.tmod (wrap64 (a2_1)) 29)).bind fun t1041 => (some (decide ((wrap64 (2 * (ji19))) ≤ (wrap64 (t1040 + t1041))))))) else (none))) else (none)) = some r := H
      have A20 := Aside0.mk A200
      clear A200
      by_cases c21 : t1037 = true
      rotate_left
      · replace c21 := Bool.eq_false_iff.mpr c21
        subst c21
        have H1 : (none) = some r := by rw [if_neg (show ¬ (false = true) by decide)] at H; exact H
        clear H; have H := H1; clear H1
        exact absurd H (by simp)

      subst c21
      have H1 : ((grid_Of.f a0 a1 28).bind fun bt1038 => (if (bt1038.1 == 0 && (bt1038.2 == 0)) = true then ((cobwebref03_Size.f kj3 (Int.tmod (wrap64 (a2_0)) 29)).bind fun t1040 => ((cobwebref03_Size.f kj3 (Int.tmod (wrap64 (a2_1)) 29)).bind fun t1041 => (some (decide ((wrap64 (2 * (ji19))) ≤ (wrap64 (t1040 + t1041))))))) else (none))) = some r := by rw [if_pos rfl] at H; exact H
      clear H; have H := H1; clear H1
      replace H := Option.bind_eq_some_iff.mp H
      obtain ⟨⟨t1038, t1039⟩, A220, H⟩ := H
      replace H : (if (t1038 == 0 && (t1039 == 0)) = true then ((cobwebref03_Size.f kj3 (Int.tmod (wrap64 (a2_0)) 29)).bind fun t1040 => ((cobwebref03_Size.f kj3 (Int.tmod (wrap64 (a2_1)) 29)).bind fun t1041 => (some (decide ((wrap64 (2 * (ji19))) ≤ (wrap64 (t1040 + t1041))))))) else (none)) = some r := H
      have A22 := Aside0.mk A220
      clear A220
      by_cases c23 : (t1038 == 0 && (t1039 == 0)) = true
      rotate_left
      · rw [if_neg c23] at H
        exact absurd H (by simp)
      rw [if_pos c23] at H
      have c23b0 : (t1038 == 0 && (t1039 == 0)) = true := c23
      (try (have c23b1 : decide (t1038 = 0 && (t1039 == 0)) = true := by simpa using c23))
      (try (have c23b2 : (t1038 == 0 && (t1039 == 0)) = true := by simpa using c23))
      clear c23
      replace H := Option.bind_eq_some_iff.mp H
      obtain ⟨t1040, A240, H⟩ := H
      replace H : ((cobwebref03_Size.f kj3 (Int.tmod (wrap64 (a2_1)) 29)).bind fun t1041 => (some (decide ((wrap64 (2 * (ji19))) ≤ (wrap64 (t1040 + t1041)))))) = some r := H
      have A24 := Aside0.mk A240
      clear A240
      replace H := Option.bind_eq_some_iff.mp H
      obtain ⟨t1041, A250, H⟩ := H
      replace H : (some (decide ((wrap64 (2 * (ji19))) ≤ (wrap64 (t1040 + t1041))))) = some r := H
      have A25 := Aside0.mk A250
      clear A250
      obtain rfl := Option.some.inj H
      try go_wp2_with (first | ((with_reducible refine gate_dst (N := 9) rfl ?_); refine box_event ?hg (N := 9) ?hd (cs := #[.int .i64 0, .int .i64 0]) (t := 62) ?hr ?_; (case hd => rfl); (case hg => rfl); (case hr => first | (go_simp; done) | (go_simp; rfl)); intro gb1026 hg w26 hbox hb; have BK1026 := Aside0.mk (hbox); have GW1026 := kS HB hg; have GE1026 := kS HB hg; have NB1024_1026 := kN BK1024 hg; have NB1026_1024 := kM BK1024 hg; replace BK1024 := kb BK1024 hb; replace HB := kB HB hb; clear hb hbox hg; have hnb27 := NB1026_1024.out; have hnc27 := NB1024_1026.out; have hcz28_0 : w26.cell? ⟨gb1026, 0, none⟩ = some (.int .i64 0) := kc BK1026 0; have hcz28_1 : w26.cell? ⟨gb1026, 1, none⟩ = some (.int .i64 0) := kc BK1026 1; have hfz28_0 := blk_frozen BK1026.out 0; have hfz28_1 := blk_frozen BK1026.out 1))
      have n0_ : Aside0 (((w26.setCell ⟨gb1026, 0, none⟩ (.int .i64 a0)).setCell ⟨gb1026, 1, none⟩ (.int .i64 a1)).heap[gb1024]? = some (.cells #[.int .u8 a2_0, .int .u8 a2_1] 79 (0, 0))) := ⟨kx BK1024⟩
      have n1_ : Aside0 (((w26.setCell ⟨gb1026, 0, none⟩ (.int .i64 a0)).setCell ⟨gb1026, 1, none⟩ (.int .i64 a1)).heap[gb1026]? = some (.cells #[.int .i64 a0, .int .i64 a1] 62 (0, 0))) := ⟨by (with_reducible repeat (first | refine blk_drewN ?_ _ | refine blk_drew ?_ | refine blk_alloc ?_ _)); refine blk_put (cs := #[.int .i64 a0, .int .i64 0]) ?_ 1 _ rfl; (with_reducible repeat (first | refine blk_drewN ?_ _ | refine blk_drew ?_ | refine blk_alloc ?_ _)); refine blk_put (cs := #[.int .i64 0, .int .i64 0]) ?_ 0 _ rfl; (with_reducible repeat (first | refine blk_drewN ?_ _ | refine blk_drew ?_ | refine blk_alloc ?_ _)); exact BK1026.out⟩
      have n2_ : Aside0 (Below w.heap.size w ((w26.setCell ⟨gb1026, 0, none⟩ (.int .i64 a0)).setCell ⟨gb1026, 1, none⟩ (.int .i64 a1))) := ⟨ky HB⟩
      (try clear BK1024); (try clear BK1026); (try clear HB)
      generalize ((w26.setCell ⟨gb1026, 0, none⟩ (.int .i64 a0)).setCell ⟨gb1026, 1, none⟩ (.int .i64 a1)) = w29 at n0_ n1_ n2_ ⊢
      have BK1024 := n0_; have BK1026 := n1_; have HB := n2_
      clear n0_ n1_ n2_
      replace BK1024 := Aside0.mk (blk_drew BK1024.out)
      replace BK1026 := Aside0.mk (blk_drew BK1026.out)
      replace HB := Aside0.mk (below_drew1 HB.out)
      refine start_ (n := 14) (S := fun w' => w'.cell? ⟨gb1026, 0, none⟩ = some (.int .i64 a0) ∧ w'.cell? ⟨gb1026, 1, none⟩ = some (.int .i64 a1)) (ds := []) #[O, O, O, O, O, O, O, O, O, O, O, O, O, O] (by kernel_rfl) rfl rfl ⟨kc BK1026 0, kc BK1026 1⟩ (fun hHeld => ?_); refine with_tabW cobweblaw03_GridCoarse.tab6 cobweblaw03_GridCoarse.bits6 (fun HT_ HW_ => ?_)
      generalize w29.drew = w30 at BK1024 BK1026 HB hHeld ⊢
      refine pure_ (i := 1) (N := some 44) (v := ?_) (a' := ?_) #[O, T, O, O, O, O, O, O, O, O, O, O, O, O] rfl rfl (any_of HT_.out (by kernel_rfl)) (fun _ _ _ h => h) (Or.inl ⟨by rfl, ?_⟩) ?_ ?_; rotate_left; focus (intro w'; go_simp; with_reducible rfl)
      rotate_left; focus (simp only [Act.put, s1, s2, s3, i64_w, i32_w]; rfl)
      refine pure_ (i := 3) (N := some 46) (v := ?_) (a' := ?_) #[O, T, O, T, O, O, O, O, O, O, O, O, O, O] rfl rfl (any_of HT_.out (by kernel_rfl)) (fun _ _ _ h => h) (Or.inl ⟨by rfl, ?_⟩) ?_ ?_; rotate_left; focus (intro w'; go_simp; with_reducible rfl)
      rotate_left; focus (simp only [Act.put, s1, s2, s3, i64_w, i32_w]; rfl)
      refine pure_ (i := 6) (N := some 49) (v := ?_) (a' := ?_) #[O, T, O, T, O, O, T, O, O, O, O, O, O, O] rfl rfl (any_of HT_.out (by kernel_rfl)) (fun _ _ _ h => h) (Or.inl ⟨by rfl, ?_⟩) ?_ ?_; rotate_left; focus (intro w'; go_simp; with_reducible rfl)
      rotate_left; focus (simp only [Act.put, s1, s2, s3, i64_w, i32_w]; rfl)
      refine pure_ (i := 8) (N := some 51) (v := ?_) (a' := ?_) #[O, T, O, T, O, O, T, O, T, O, O, O, O, O] rfl rfl (any_of HT_.out (by kernel_rfl)) (fun _ _ _ h => h) (Or.inl ⟨by rfl, ?_⟩) ?_ ?_; rotate_left; focus (intro w'; go_simp; with_reducible rfl)
      rotate_left; focus (simp only [Act.put, s1, s2, s3, i64_w, i32_w]; rfl)
      refine take_ (i := 0) (N := some 43) (v := ?_) (a' := ?_) #[T, T, O, T, O, O, T, O, T, O, O, O, O, O] rfl rfl (take_ofW HT_.out HW_.out (by kernel_rfl)) (fun _ _ _ h => h) (Or.inl ⟨by rfl, ?_⟩) hHeld ?_ ?_; rotate_left; focus (rintro w' ⟨s0, s1⟩; go_simp; with_reducible rfl)
      rotate_left; focus (simp only [Act.put, s1, s2, s3, i64_w, i32_w]; rfl)
      refine take_ (i := 5) (N := some 48) (v := ?_) (a' := ?_) #[T, T, O, T, O, T, T, O, T, O, O, O, O, O] rfl rfl (take_ofW HT_.out HW_.out (by kernel_rfl)) (fun _ _ _ h => h) (Or.inl ⟨by rfl, ?_⟩) hHeld ?_ ?_; rotate_left; focus (rintro w' ⟨s0, s1⟩; go_simp; with_reducible rfl)
      rotate_left; focus (simp only [Act.put, s1, s2, s3, i64_w, i32_w]; rfl)
      refine join_ (σ := Nat × Nat) 2 #[T, T, T, T, T, T, T, T, T, T, T, T, O, O] (fun s_ => [(45, .agg #[.int .i64 t1027, .int .i64 t1028]), (47, .agg #[.int .i64 t1029, .int .i64 t1030]), (50, .agg #[.int .i64 t1031, .int .i64 t1032]), (52, .agg #[.int .i64 t1033, .int .i64 t1034]), (12, .pointer (some ⟨s_.1, 0, none⟩)), (13, .pointer (some ⟨s_.2, 0, none⟩))]) (fun s_ w' => (w'.cell? ⟨gb1026, 0, none⟩ = some (.int .i64 a0) ∧ w'.cell? ⟨gb1026, 1, none⟩ = some (.int .i64 a1)) ∧ (w'.heap[gb1024]? = some (.cells #[.int .u8 a2_0, .int .u8 a2_1] 79 (0, 0))) ∧ (w'.heap[gb1026]? = some (.cells #[.int .i64 a0, .int .i64 a1] 62 (0, 0))) ∧ (w'.heap[s_.1]? = some (.cells #[.int .i64 0, .int .i64 0] 62 (0, 0))) ∧ (w'.heap[s_.2]? = some (.cells #[.int .i64 0, .int .i64 0] 62 (0, 0))) ∧ (w.heap.size ≤ s_.1) ∧ (w.heap.size ≤ s_.1) ∧ (gb1024 ≠ s_.1) ∧ (s_.1 ≠ gb1024) ∧ (gb1026 ≠ s_.1) ∧ (s_.1 ≠ gb1026) ∧ (s_.2 ≠ s_.1) ∧ (s_.1 ≠ s_.2) ∧ (w.heap.size ≤ s_.2) ∧ (w.heap.size ≤ s_.2) ∧ (gb1024 ≠ s_.2) ∧ (s_.2 ≠ gb1024) ∧ (gb1026 ≠ s_.2) ∧ (s_.2 ≠ gb1026) ∧ (Below w.heap.size w w')) ?_ ?_
      rotate_left
      · intro hJ2_4_7_9_10_11
        refine join_ (σ := Nat) 3 #[T, T, T, T, T, T, T, T, T, T, T, O, O, O] (fun s_ => [(45, .agg #[.int .i64 t1027, .int .i64 t1028]), (47, .agg #[.int .i64 t1029, .int .i64 t1030]), (50, .agg #[.int .i64 t1031, .int .i64 t1032]), (52, .agg #[.int .i64 t1033, .int .i64 t1034]), (12, .pointer (some ⟨s_, 0, none⟩))]) (fun s_ w' => (w'.cell? ⟨gb1026, 0, none⟩ = some (.int .i64 a0) ∧ w'.cell? ⟨gb1026, 1, none⟩ = some (.int .i64 a1)) ∧ (w'.heap[gb1024]? = some (.cells #[.int .u8 a2_0, .int .u8 a2_1] 79 (0, 0))) ∧ (w'.heap[gb1026]? = some (.cells #[.int .i64 a0, .int .i64 a1] 62 (0, 0))) ∧ (w'.heap[s_]? = some (.cells #[.int .i64 0, .int .i64 0] 62 (0, 0))) ∧ (w.heap.size ≤ s_) ∧ (w.heap.size ≤ s_) ∧ (gb1024 ≠ s_) ∧ (s_ ≠ gb1024) ∧ (gb1026 ≠ s_) ∧ (s_ ≠ gb1026) ∧ (Below w.heap.size w w')) ?_ ?_
        rotate_left
        · intro hJ2_4_7_9_10
          refine join_ (σ := Nat) 3 #[T, T, T, T, T, T, T, T, T, T, O, T, O, O] (fun s_ => [(45, .agg #[.int .i64 t1027, .int .i64 t1028]), (47, .agg #[.int .i64 t1029, .int .i64 t1030]), (50, .agg #[.int .i64 t1031, .int .i64 t1032]), (52, .agg #[.int .i64 t1033, .int .i64 t1034]), (13, .pointer (some ⟨s_, 0, none⟩))]) (fun s_ w' => (w'.cell? ⟨gb1026, 0, none⟩ = some (.int .i64 a0) ∧ w'.cell? ⟨gb1026, 1, none⟩ = some (.int .i64 a1)) ∧ (w'.heap[gb1024]? = some (.cells #[.int .u8 a2_0, .int .u8 a2_1] 79 (0, 0))) ∧ (w'.heap[gb1026]? = some (.cells #[.int .i64 a0, .int .i64 a1] 62 (0, 0))) ∧ (w'.heap[s_]? = some (.cells #[.int .i64 0, .int .i64 0] 62 (0, 0))) ∧ (w.heap.size ≤ s_) ∧ (w.heap.size ≤ s_) ∧ (gb1024 ≠ s_) ∧ (s_ ≠ gb1024) ∧ (gb1026 ≠ s_) ∧ (s_ ≠ gb1026) ∧ (Below w.heap.size w w')) ?_ ?_
          rotate_left
          · intro hJ2_4_7_9_11
            refine join_ (σ := Nat × Nat) 3 #[T, T, T, T, T, T, T, T, T, O, T, T, O, O] (fun s_ => [(45, .agg #[.int .i64 t1027, .int .i64 t1028]), (47, .agg #[.int .i64 t1029, .int .i64 t1030]), (50, .agg #[.int .i64 t1031, .int .i64 t1032]), (12, .pointer (some ⟨s_.1, 0, none⟩)), (13, .pointer (some ⟨s_.2, 0, none⟩))]) (fun s_ w' => (w'.cell? ⟨gb1026, 0, none⟩ = some (.int .i64 a0) ∧ w'.cell? ⟨gb1026, 1, none⟩ = some (.int .i64 a1)) ∧ (w'.heap[gb1024]? = some (.cells #[.int .u8 a2_0, .int .u8 a2_1] 79 (0, 0))) ∧ (w'.heap[gb1026]? = some (.cells #[.int .i64 a0, .int .i64 a1] 62 (0, 0))) ∧ (w'.heap[s_.1]? = some (.cells #[.int .i64 0, .int .i64 0] 62 (0, 0))) ∧ (w'.heap[s_.2]? = some (.cells #[.int .i64 0, .int .i64 0] 62 (0, 0))) ∧ (w.heap.size ≤ s_.1) ∧ (w.heap.size ≤ s_.1) ∧ (gb1024 ≠ s_.1) ∧ (s_.1 ≠ gb1024) ∧ (gb1026 ≠ s_.1) ∧ (s_.1 ≠ gb1026) ∧ (s_.2 ≠ s_.1) ∧ (s_.1 ≠ s_.2) ∧ (w.heap.size ≤ s_.2) ∧ (w.heap.size ≤ s_.2) ∧ (gb1024 ≠ s_.2) ∧ (s_.2 ≠ gb1024) ∧ (gb1026 ≠ s_.2) ∧ (s_.2 ≠ gb1026) ∧ (Below w.heap.size w w')) ?_ ?_
            rotate_left
            · intro hJ2_4_7_10_11
              refine join_ (σ := Unit) 4 #[T, T, T, T, T, T, T, T, T, T, O, O, O, O] (fun s_ => [(45, .agg #[.int .i64 t1027, .int .i64 t1028]), (47, .agg #[.int .i64 t1029, .int .i64 t1030]), (50, .agg #[.int .i64 t1031, .int .i64 t1032]), (52, .agg #[.int .i64 t1033, .int .i64 t1034])]) (fun s_ w' => (w'.cell? ⟨gb1026, 0, none⟩ = some (.int .i64 a0) ∧ w'.cell? ⟨gb1026, 1, none⟩ = some (.int .i64 a1)) ∧ (w'.heap[gb1024]? = some (.cells #[.int .u8 a2_0, .int .u8 a2_1] 79 (0, 0))) ∧ (w'.heap[gb1026]? = some (.cells #[.int .i64 a0, .int .i64 a1] 62 (0, 0))) ∧ (Below w.heap.size w w')) ?_ ?_
              rotate_left
              · intro hJ2_4_7_9
                refine join_ (σ := Nat) 4 #[T, T, T, T, T, T, T, T, T, O, T, O, O, O] (fun s_ => [(45, .agg #[.int .i64 t1027, .int .i64 t1028]), (47, .agg #[.int .i64 t1029, .int .i64 t1030]), (50, .agg #[.int .i64 t1031, .int .i64 t1032]), (12, .pointer (some ⟨s_, 0, none⟩))]) (fun s_ w' => (w'.cell? ⟨gb1026, 0, none⟩ = some (.int .i64 a0) ∧ w'.cell? ⟨gb1026, 1, none⟩ = some (.int .i64 a1)) ∧ (w'.heap[gb1024]? = some (.cells #[.int .u8 a2_0, .int .u8 a2_1] 79 (0, 0))) ∧ (w'.heap[gb1026]? = some (.cells #[.int .i64 a0, .int .i64 a1] 62 (0, 0))) ∧ (w'.heap[s_]? = some (.cells #[.int .i64 0, .int .i64 0] 62 (0, 0))) ∧ (w.heap.size ≤ s_) ∧ (w.heap.size ≤ s_) ∧ (gb1024 ≠ s_) ∧ (s_ ≠ gb1024) ∧ (gb1026 ≠ s_) ∧ (s_ ≠ gb1026) ∧ (Below w.heap.size w w')) ?_ ?_
                rotate_left
                · intro hJ2_4_7_10
                  refine join_ (σ := Nat) 4 #[T, T, T, T, T, T, T, T, T, O, O, T, O, O] (fun s_ => [(45, .agg #[.int .i64 t1027, .int .i64 t1028]), (47, .agg #[.int .i64 t1029, .int .i64 t1030]), (50, .agg #[.int .i64 t1031, .int .i64 t1032]), (13, .pointer (some ⟨s_, 0, none⟩))]) (fun s_ w' => (w'.cell? ⟨gb1026, 0, none⟩ = some (.int .i64 a0) ∧ w'.cell? ⟨gb1026, 1, none⟩ = some (.int .i64 a1)) ∧ (w'.heap[gb1024]? = some (.cells #[.int .u8 a2_0, .int .u8 a2_1] 79 (0, 0))) ∧ (w'.heap[gb1026]? = some (.cells #[.int .i64 a0, .int .i64 a1] 62 (0, 0))) ∧ (w'.heap[s_]? = some (.cells #[.int .i64 0, .int .i64 0] 62 (0, 0))) ∧ (w.heap.size ≤ s_) ∧ (w.heap.size ≤ s_) ∧ (gb1024 ≠ s_) ∧ (s_ ≠ gb1024) ∧ (gb1026 ≠ s_) ∧ (s_ ≠ gb1026) ∧ (Below w.heap.size w w')) ?_ ?_
                  rotate_left
                  · intro hJ2_4_7_11
                    refine join_ (σ := Nat × Nat) 4 #[T, T, T, T, T, T, T, O, T, O, T, T, O, O] (fun s_ => [(45, .agg #[.int .i64 t1027, .int .i64 t1028]), (47, .agg #[.int .i64 t1029, .int .i64 t1030]), (12, .pointer (some ⟨s_.1, 0, none⟩)), (13, .pointer (some ⟨s_.2, 0, none⟩))]) (fun s_ w' => (w'.cell? ⟨gb1026, 0, none⟩ = some (.int .i64 a0) ∧ w'.cell? ⟨gb1026, 1, none⟩ = some (.int .i64 a1)) ∧ (w'.heap[gb1024]? = some (.cells #[.int .u8 a2_0, .int .u8 a2_1] 79 (0, 0))) ∧ (w'.heap[gb1026]? = some (.cells #[.int .i64 a0, .int .i64 a1] 62 (0, 0))) ∧ (w'.heap[s_.1]? = some (.cells #[.int .i64 0, .int .i64 0] 62 (0, 0))) ∧ (w'.heap[s_.2]? = some (.cells #[.int .i64 0, .int .i64 0] 62 (0, 0))) ∧ (w.heap.size ≤ s_.1) ∧ (w.heap.size ≤ s_.1) ∧ (gb1024 ≠ s_.1) ∧ (s_.1 ≠ gb1024) ∧ (gb1026 ≠ s_.1) ∧ (s_.1 ≠ gb1026) ∧ (s_.2 ≠ s_.1) ∧ (s_.1 ≠ s_.2) ∧ (w.heap.size ≤ s_.2) ∧ (w.heap.size ≤ s_.2) ∧ (gb1024 ≠ s_.2) ∧ (s_.2 ≠ gb1024) ∧ (gb1026 ≠ s_.2) ∧ (s_.2 ≠ gb1026) ∧ (Below w.heap.size w w')) ?_ ?_
                    rotate_left
                    · intro hJ2_4_10_11
                      refine join_ (σ := Unit) 5 #[T, T, T, T, T, T, T, T, T, O, O, O, O, O] (fun s_ => [(45, .agg #[.int .i64 t1027, .int .i64 t1028]), (47, .agg #[.int .i64 t1029, .int .i64 t1030]), (50, .agg #[.int .i64 t1031, .int .i64 t1032])]) (fun s_ w' => (w'.cell? ⟨gb1026, 0, none⟩ = some (.int .i64 a0) ∧ w'.cell? ⟨gb1026, 1, none⟩ = some (.int .i64 a1)) ∧ (w'.heap[gb1024]? = some (.cells #[.int .u8 a2_0, .int .u8 a2_1] 79 (0, 0))) ∧ (w'.heap[gb1026]? = some (.cells #[.int .i64 a0, .int .i64 a1] 62 (0, 0))) ∧ (Below w.heap.size w w')) ?_ ?_
                      rotate_left
                      · intro hJ2_4_7
                        refine join_ (σ := Nat) 5 #[T, T, T, T, T, T, T, O, T, O, T, O, O, O] (fun s_ => [(45, .agg #[.int .i64 t1027, .int .i64 t1028]), (47, .agg #[.int .i64 t1029, .int .i64 t1030]), (12, .pointer (some ⟨s_, 0, none⟩))]) (fun s_ w' => (w'.cell? ⟨gb1026, 0, none⟩ = some (.int .i64 a0) ∧ w'.cell? ⟨gb1026, 1, none⟩ = some (.int .i64 a1)) ∧ (w'.heap[gb1024]? = some (.cells #[.int .u8 a2_0, .int .u8 a2_1] 79 (0, 0))) ∧ (w'.heap[gb1026]? = some (.cells #[.int .i64 a0, .int .i64 a1] 62 (0, 0))) ∧ (w'.heap[s_]? = some (.cells #[.int .i64 0, .int .i64 0] 62 (0, 0))) ∧ (w.heap.size ≤ s_) ∧ (w.heap.size ≤ s_) ∧ (gb1024 ≠ s_) ∧ (s_ ≠ gb1024) ∧ (gb1026 ≠ s_) ∧ (s_ ≠ gb1026) ∧ (Below w.heap.size w w')) ?_ ?_
                        rotate_left
                        · intro hJ2_4_10
                          refine join_ (σ := Nat) 5 #[T, T, T, T, T, T, T, O, T, O, O, T, O, O] (fun s_ => [(45, .agg #[.int .i64 t1027, .int .i64 t1028]), (47, .agg #[.int .i64 t1029, .int .i64 t1030]), (13, .pointer (some ⟨s_, 0, none⟩))]) (fun s_ w' => (w'.cell? ⟨gb1026, 0, none⟩ = some (.int .i64 a0) ∧ w'.cell? ⟨gb1026, 1, none⟩ = some (.int .i64 a1)) ∧ (w'.heap[gb1024]? = some (.cells #[.int .u8 a2_0, .int .u8 a2_1] 79 (0, 0))) ∧ (w'.heap[gb1026]? = some (.cells #[.int .i64 a0, .int .i64 a1] 62 (0, 0))) ∧ (w'.heap[s_]? = some (.cells #[.int .i64 0, .int .i64 0] 62 (0, 0))) ∧ (w.heap.size ≤ s_) ∧ (w.heap.size ≤ s_) ∧ (gb1024 ≠ s_) ∧ (s_ ≠ gb1024) ∧ (gb1026 ≠ s_) ∧ (s_ ≠ gb1026) ∧ (Below w.heap.size w w')) ?_ ?_
                          rotate_left
                          · intro hJ2_4_11
                            refine join_ (σ := Nat × Nat) 5 #[T, T, T, T, O, T, T, O, T, O, T, T, O, O] (fun s_ => [(45, .agg #[.int .i64 t1027, .int .i64 t1028]), (12, .pointer (some ⟨s_.1, 0, none⟩)), (13, .pointer (some ⟨s_.2, 0, none⟩))]) (fun s_ w' => (w'.cell? ⟨gb1026, 0, none⟩ = some (.int .i64 a0) ∧ w'.cell? ⟨gb1026, 1, none⟩ = some (.int .i64 a1)) ∧ (w'.heap[gb1024]? = some (.cells #[.int .u8 a2_0, .int .u8 a2_1] 79 (0, 0))) ∧ (w'.heap[gb1026]? = some (.cells #[.int .i64 a0, .int .i64 a1] 62 (0, 0))) ∧ (w'.heap[s_.1]? = some (.cells #[.int .i64 0, .int .i64 0] 62 (0, 0))) ∧ (w'.heap[s_.2]? = some (.cells #[.int .i64 0, .int .i64 0] 62 (0, 0))) ∧ (w.heap.size ≤ s_.1) ∧ (w.heap.size ≤ s_.1) ∧ (gb1024 ≠ s_.1) ∧ (s_.1 ≠ gb1024) ∧ (gb1026 ≠ s_.1) ∧ (s_.1 ≠ gb1026) ∧ (s_.2 ≠ s_.1) ∧ (s_.1 ≠ s_.2) ∧ (w.heap.size ≤ s_.2) ∧ (w.heap.size ≤ s_.2) ∧ (gb1024 ≠ s_.2) ∧ (s_.2 ≠ gb1024) ∧ (gb1026 ≠ s_.2) ∧ (s_.2 ≠ gb1026) ∧ (Below w.heap.size w w')) ?_ ?_
                            rotate_left
                            · intro hJ2_10_11
                              refine join_ (σ := Unit) 6 #[T, T, T, T, T, T, T, O, T, O, O, O, O, O] (fun s_ => [(45, .agg #[.int .i64 t1027, .int .i64 t1028]), (47, .agg #[.int .i64 t1029, .int .i64 t1030])]) (fun s_ w' => (w'.cell? ⟨gb1026, 0, none⟩ = some (.int .i64 a0) ∧ w'.cell? ⟨gb1026, 1, none⟩ = some (.int .i64 a1)) ∧ (w'.heap[gb1024]? = some (.cells #[.int .u8 a2_0, .int .u8 a2_1] 79 (0, 0))) ∧ (w'.heap[gb1026]? = some (.cells #[.int .i64 a0, .int .i64 a1] 62 (0, 0))) ∧ (Below w.heap.size w w')) ?_ ?_
                              rotate_left
                              · intro hJ2_4
                                refine join_ (σ := Nat) 6 #[T, T, T, T, O, T, T, O, T, O, T, O, O, O] (fun s_ => [(45, .agg #[.int .i64 t1027, .int .i64 t1028]), (12, .pointer (some ⟨s_, 0, none⟩))]) (fun s_ w' => (w'.cell? ⟨gb1026, 0, none⟩ = some (.int .i64 a0) ∧ w'.cell? ⟨gb1026, 1, none⟩ = some (.int .i64 a1)) ∧ (w'.heap[gb1024]? = some (.cells #[.int .u8 a2_0, .int .u8 a2_1] 79 (0, 0))) ∧ (w'.heap[gb1026]? = some (.cells #[.int .i64 a0, .int .i64 a1] 62 (0, 0))) ∧ (w'.heap[s_]? = some (.cells #[.int .i64 0, .int .i64 0] 62 (0, 0))) ∧ (w.heap.size ≤ s_) ∧ (w.heap.size ≤ s_) ∧ (gb1024 ≠ s_) ∧ (s_ ≠ gb1024) ∧ (gb1026 ≠ s_) ∧ (s_ ≠ gb1026) ∧ (Below w.heap.size w w')) ?_ ?_
                                rotate_left
                                · intro hJ2_10
                                  refine join_ (σ := Nat) 6 #[T, T, T, T, O, T, T, O, T, O, O, T, O, O] (fun s_ => [(45, .agg #[.int .i64 t1027, .int .i64 t1028]), (13, .pointer (some ⟨s_, 0, none⟩))]) (fun s_ w' => (w'.cell? ⟨gb1026, 0, none⟩ = some (.int .i64 a0) ∧ w'.cell? ⟨gb1026, 1, none⟩ = some (.int .i64 a1)) ∧ (w'.heap[gb1024]? = some (.cells #[.int .u8 a2_0, .int .u8 a2_1] 79 (0, 0))) ∧ (w'.heap[gb1026]? = some (.cells #[.int .i64 a0, .int .i64 a1] 62 (0, 0))) ∧ (w'.heap[s_]? = some (.cells #[.int .i64 0, .int .i64 0] 62 (0, 0))) ∧ (w.heap.size ≤ s_) ∧ (w.heap.size ≤ s_) ∧ (gb1024 ≠ s_) ∧ (s_ ≠ gb1024) ∧ (gb1026 ≠ s_) ∧ (s_ ≠ gb1026) ∧ (Below w.heap.size w w')) ?_ ?_
                                  rotate_left
                                  · intro hJ2_11
                                    refine join_ (σ := Nat × Nat) 6 #[T, T, O, T, O, T, T, O, T, O, T, T, O, O] (fun s_ => [(12, .pointer (some ⟨s_.1, 0, none⟩)), (13, .pointer (some ⟨s_.2, 0, none⟩))]) (fun s_ w' => (w'.cell? ⟨gb1026, 0, none⟩ = some (.int .i64 a0) ∧ w'.cell? ⟨gb1026, 1, none⟩ = some (.int .i64 a1)) ∧ (w'.heap[gb1024]? = some (.cells #[.int .u8 a2_0, .int .u8 a2_1] 79 (0, 0))) ∧ (w'.heap[gb1026]? = some (.cells #[.int .i64 a0, .int .i64 a1] 62 (0, 0))) ∧ (w'.heap[s_.1]? = some (.cells #[.int .i64 0, .int .i64 0] 62 (0, 0))) ∧ (w'.heap[s_.2]? = some (.cells #[.int .i64 0, .int .i64 0] 62 (0, 0))) ∧ (w.heap.size ≤ s_.1) ∧ (w.heap.size ≤ s_.1) ∧ (gb1024 ≠ s_.1) ∧ (s_.1 ≠ gb1024) ∧ (gb1026 ≠ s_.1) ∧ (s_.1 ≠ gb1026) ∧ (s_.2 ≠ s_.1) ∧ (s_.1 ≠ s_.2) ∧ (w.heap.size ≤ s_.2) ∧ (w.heap.size ≤ s_.2) ∧ (gb1024 ≠ s_.2) ∧ (s_.2 ≠ gb1024) ∧ (gb1026 ≠ s_.2) ∧ (s_.2 ≠ gb1026) ∧ (Below w.heap.size w w')) ?_ ?_
                                    rotate_left
                                    · intro hJ10_11
                                      refine join_ (σ := Unit) 7 #[T, T, T, T, O, T, T, O, T, O, O, O, O, O] (fun s_ => [(45, .agg #[.int .i64 t1027, .int .i64 t1028])]) (fun s_ w' => (w'.cell? ⟨gb1026, 0, none⟩ = some (.int .i64 a0) ∧ w'.cell? ⟨gb1026, 1, none⟩ = some (.int .i64 a1)) ∧ (w'.heap[gb1024]? = some (.cells #[.int .u8 a2_0, .int .u8 a2_1] 79 (0, 0))) ∧ (w'.heap[gb1026]? = some (.cells #[.int .i64 a0, .int .i64 a1] 62 (0, 0))) ∧ (Below w.heap.size w w')) ?_ ?_
                                      rotate_left
                                      · intro hJ2
                                        refine join_ (σ := Nat) 7 #[T, T, O, T, O, T, T, O, T, O, T, O, O, O] (fun s_ => [(12, .pointer (some ⟨s_, 0, none⟩))]) (fun s_ w' => (w'.cell? ⟨gb1026, 0, none⟩ = some (.int .i64 a0) ∧ w'.cell? ⟨gb1026, 1, none⟩ = some (.int .i64 a1)) ∧ (w'.heap[gb1024]? = some (.cells #[.int .u8 a2_0, .int .u8 a2_1] 79 (0, 0))) ∧ (w'.heap[gb1026]? = some (.cells #[.int .i64 a0, .int .i64 a1] 62 (0, 0))) ∧ (w'.heap[s_]? = some (.cells #[.int .i64 0, .int .i64 0] 62 (0, 0))) ∧ (w.heap.size ≤ s_) ∧ (w.heap.size ≤ s_) ∧ (gb1024 ≠ s_) ∧ (s_ ≠ gb1024) ∧ (gb1026 ≠ s_) ∧ (s_ ≠ gb1026) ∧ (Below w.heap.size w w')) ?_ ?_
                                        rotate_left
                                        · intro hJ10
                                          refine join_ (σ := Nat) 7 #[T, T, O, T, O, T, T, O, T, O, O, T, O, O] (fun s_ => [(13, .pointer (some ⟨s_, 0, none⟩))]) (fun s_ w' => (w'.cell? ⟨gb1026, 0, none⟩ = some (.int .i64 a0) ∧ w'.cell? ⟨gb1026, 1, none⟩ = some (.int .i64 a1)) ∧ (w'.heap[gb1024]? = some (.cells #[.int .u8 a2_0, .int .u8 a2_1] 79 (0, 0))) ∧ (w'.heap[gb1026]? = some (.cells #[.int .i64 a0, .int .i64 a1] 62 (0, 0))) ∧ (w'.heap[s_]? = some (.cells #[.int .i64 0, .int .i64 0] 62 (0, 0))) ∧ (w.heap.size ≤ s_) ∧ (w.heap.size ≤ s_) ∧ (gb1024 ≠ s_) ∧ (s_ ≠ gb1024) ∧ (gb1026 ≠ s_) ∧ (s_ ≠ gb1026) ∧ (Below w.heap.size w w')) ?_ ?_
                                          rotate_left
                                          · intro hJ11
                                            refine three_ (i := 2) (j := 10) (k := 11) (Ni := some 45) (Nj := some 12) (Nk := some 13) #[T, T, T, T, O, T, T, O, T, O, O, O, O, O] #[T, T, O, T, O, T, T, O, T, O, T, O, O, O] #[T, T, O, T, O, T, T, O, T, O, O, T, O, O] rfl rfl rfl rfl rfl rfl (three_of HT_.out (by kernel_rfl)) (by decide) (by decide) (by decide) (fun K hK => ?_) (fun K hK => ?_) (fun K hK => ?_)
                                            · skip
                                              refine goes_ Try.func37 (by kernel_rfl) rfl #[.agg #[.int .i64 a0, .int .i64 a1], .int .i64 (Int.tmod (wrap64 (a2_0)) 29)] (by rfl) rfl rfl (by (try simp only [List.map_toArray, List.map_cons, List.map_nil]); first | done | rfl | (simp only [List.length_drop, List.length_take]; rfl)) ?_
                                              with_reducible refine (grid_Of.calls a0 a1 (Int.tmod (wrap64 (a2_0)) 29) t1027 t1028 _ A13.out).mono ?_
                                              rintro e w31 ⟨rfl, hb⟩
                                              refine ⟨_, rfl, ?_⟩
                                              replace BK1024 := kb BK1024 hb
                                              replace BK1026 := kb BK1026 hb
                                              replace HB := kB HB hb
                                              (try clear hb); (try clear hb2); (try clear hk); (try clear hi)
                                              refine hK.out _ _ ⟨kc BK1026 0, kc BK1026 1⟩ (fun hHeld => ?_)
                                              clear hK K
                                              refine norm_ (a' := ?_) ?_ ?_; rotate_left; focus (show Act.put _ (some 45) _ = _; simp only [Act.put, s1, s2, s3, i64_w, i32_w]; rfl)
                                              exact norm_ (by first | (simp only [putAll, Act.put, s1, s2, s3]; done) | (simp only [putAll, Act.put, s1, s2, s3]; rfl)) (hJ2 () _ ⟨hHeld, (kx BK1024), (kx BK1026), (ky HB)⟩)
                                            · skip
                                              refine box_step ?hg (N := 12) ?hd (cs := #[.int .i64 0, .int .i64 0]) (t := 62) ?hr ?_; (case hd => rfl); (case hg => rfl); (case hr => first | (go_simp; done) | (go_simp; rfl))
                                              intro gb1035 hg w31 hbox hb
                                              have BK1035 := Aside0.mk (hbox)
                                              have GW1035 := kS HB hg
                                              have GE1035 := kS HB hg
                                              have NB1024_1035 := kN BK1024 hg
                                              have NB1035_1024 := kM BK1024 hg
                                              have NB1026_1035 := kN BK1026 hg
                                              have NB1035_1026 := kM BK1026 hg
                                              replace BK1024 := kb BK1024 hb
                                              replace BK1026 := kb BK1026 hb
                                              replace HB := kB HB hb
                                              clear hb hbox hg
                                              refine hK.out _ _ ⟨kc BK1026 0, kc BK1026 1⟩ (fun hHeld => ?_)
                                              clear hK K
                                              refine norm_ (a' := ?_) ?_ ?_; rotate_left; focus (show Act.put _ (some 12) _ = _; simp only [Act.put, s1, s2, s3, i64_w, i32_w]; rfl)
                                              exact norm_ (by first | (simp only [putAll, Act.put, s1, s2, s3]; done) | (simp only [putAll, Act.put, s1, s2, s3]; rfl)) (hJ10 (gb1035) _ ⟨hHeld, (kx BK1024), (kx BK1026), (kx BK1035), GW1035.out, GE1035.out, NB1024_1035.out, NB1035_1024.out, NB1026_1035.out, NB1035_1026.out, (ky HB)⟩)
                                            · skip
                                              refine box_step ?hg (N := 13) ?hd (cs := #[.int .i64 0, .int .i64 0]) (t := 62) ?hr ?_; (case hd => rfl); (case hg => rfl); (case hr => first | (go_simp; done) | (go_simp; rfl))
                                              intro gb1036 hg w31 hbox hb
                                              have BK1036 := Aside0.mk (hbox)
                                              have GW1036 := kS HB hg
                                              have GE1036 := kS HB hg
                                              have NB1024_1036 := kN BK1024 hg
                                              have NB1036_1024 := kM BK1024 hg
                                              have NB1026_1036 := kN BK1026 hg
                                              have NB1036_1026 := kM BK1026 hg
                                              replace BK1024 := kb BK1024 hb
                                              replace BK1026 := kb BK1026 hb
                                              replace HB := kB HB hb
                                              clear hb hbox hg
                                              refine hK.out _ _ ⟨kc BK1026 0, kc BK1026 1⟩ (fun hHeld => ?_)
                                              clear hK K
                                              refine norm_ (a' := ?_) ?_ ?_; rotate_left; focus (show Act.put _ (some 13) _ = _; simp only [Act.put, s1, s2, s3, i64_w, i32_w]; rfl)
                                              exact norm_ (by first | (simp only [putAll, Act.put, s1, s2, s3]; done) | (simp only [putAll, Act.put, s1, s2, s3]; rfl)) (hJ11 (gb1036) _ ⟨hHeld, (kx BK1024), (kx BK1026), (kx BK1036), GW1036.out, GE1036.out, NB1024_1036.out, NB1036_1024.out, NB1026_1036.out, NB1036_1026.out, (ky HB)⟩)
                                          · skip
                                            rintro gb1036 w32 ⟨hS_, h0_, h1_, h2_, h3_, h4_, h5_, h6_, h7_, h8_, h9_⟩
                                            clear BK1024 BK1026 HB
                                            have BK1024 := A0 h0_; have BK1026 := A0 h1_; have BK1036 := A0 h2_; have GW1036 := A0 h3_; have GE1036 := A0 h4_; have NB1024_1036 := A0 h5_; have NB1036_1024 := A0 h6_; have NB1026_1036 := A0 h7_; have NB1036_1026 := A0 h8_; have HB := A0 h9_
                                            clear h0_ h1_ h2_ h3_ h4_ h5_ h6_ h7_ h8_ h9_
                                            have hHeld := hS_
                                            refine norm_ (a' := ?_) ?_ ?_; rotate_left; focus (simp only [putAll, Act.put, s1, s2, s3]; rfl)
                                            refine two_ (i := 2) (j := 10) (Ni := some 45) (Nj := some 12) #[T, T, T, T, O, T, T, O, T, O, O, T, O, O] #[T, T, O, T, O, T, T, O, T, O, T, T, O, O] rfl rfl rfl rfl (two_of HT_.out (by kernel_rfl)) (by decide) (by decide) (fun K hK => ?_) (fun K hK => ?_)
                                            · skip
                                              refine goes_ Try.func37 (by kernel_rfl) rfl #[.agg #[.int .i64 a0, .int .i64 a1], .int .i64 (Int.tmod (wrap64 (a2_0)) 29)] (by rfl) rfl rfl (by (try simp only [List.map_toArray, List.map_cons, List.map_nil]); first | done | rfl | (simp only [List.length_drop, List.length_take]; rfl)) ?_
                                              with_reducible refine (grid_Of.calls a0 a1 (Int.tmod (wrap64 (a2_0)) 29) t1027 t1028 _ A13.out).mono ?_
                                              rintro e w33 ⟨rfl, hb⟩
                                              refine ⟨_, rfl, ?_⟩
                                              replace BK1024 := kb BK1024 hb
                                              replace BK1026 := kb BK1026 hb
                                              replace BK1036 := kb BK1036 hb
                                              replace HB := kB HB hb
                                              (try clear hb); (try clear hb2); (try clear hk); (try clear hi)
                                              refine hK.out _ _ ⟨kc BK1026 0, kc BK1026 1⟩ (fun hHeld => ?_)
                                              clear hK K
                                              refine norm_ (a' := ?_) ?_ ?_; rotate_left; focus (show Act.put _ (some 45) _ = _; simp only [Act.put, s1, s2, s3, i64_w, i32_w]; rfl)
                                              exact norm_ (by first | (simp only [putAll, Act.put, s1, s2, s3]; done) | (simp only [putAll, Act.put, s1, s2, s3]; rfl)) (hJ2_11 (gb1036) _ ⟨hHeld, (kx BK1024), (kx BK1026), (kx BK1036), GW1036.out, GE1036.out, NB1024_1036.out, NB1036_1024.out, NB1026_1036.out, NB1036_1026.out, (ky HB)⟩)
                                            · skip
                                              refine box_step ?hg (N := 12) ?hd (cs := #[.int .i64 0, .int .i64 0]) (t := 62) ?hr ?_; (case hd => rfl); (case hg => rfl); (case hr => first | (go_simp; done) | (go_simp; rfl))
                                              intro gb1035 hg w33 hbox hb
                                              have BK1035 := Aside0.mk (hbox)
                                              have GW1035 := kS HB hg
                                              have GE1035 := kS HB hg
                                              have NB1024_1035 := kN BK1024 hg
                                              have NB1035_1024 := kM BK1024 hg
                                              have NB1026_1035 := kN BK1026 hg
                                              have NB1035_1026 := kM BK1026 hg
                                              have NB1036_1035 := kN BK1036 hg
                                              have NB1035_1036 := kM BK1036 hg
                                              replace BK1024 := kb BK1024 hb
                                              replace BK1026 := kb BK1026 hb
                                              replace BK1036 := kb BK1036 hb
                                              replace HB := kB HB hb
                                              clear hb hbox hg
                                              refine hK.out _ _ ⟨kc BK1026 0, kc BK1026 1⟩ (fun hHeld => ?_)
                                              clear hK K
                                              refine norm_ (a' := ?_) ?_ ?_; rotate_left; focus (show Act.put _ (some 12) _ = _; simp only [Act.put, s1, s2, s3, i64_w, i32_w]; rfl)
                                              exact norm_ (by first | (simp only [putAll, Act.put, s1, s2, s3]; done) | (simp only [putAll, Act.put, s1, s2, s3]; rfl)) (hJ10_11 (gb1035, gb1036) _ ⟨hHeld, (kx BK1024), (kx BK1026), (kx BK1035), (kx BK1036), GW1035.out, GE1035.out, NB1024_1035.out, NB1035_1024.out, NB1026_1035.out, NB1035_1026.out, NB1036_1035.out, NB1035_1036.out, GW1036.out, GE1036.out, NB1024_1036.out, NB1036_1024.out, NB1026_1036.out, NB1036_1026.out, (ky HB)⟩)
                                        · skip
                                          rintro gb1035 w32 ⟨hS_, h0_, h1_, h2_, h3_, h4_, h5_, h6_, h7_, h8_, h9_⟩
                                          clear BK1024 BK1026 HB
                                          have BK1024 := A0 h0_; have BK1026 := A0 h1_; have BK1035 := A0 h2_; have GW1035 := A0 h3_; have GE1035 := A0 h4_; have NB1024_1035 := A0 h5_; have NB1035_1024 := A0 h6_; have NB1026_1035 := A0 h7_; have NB1035_1026 := A0 h8_; have HB := A0 h9_
                                          clear h0_ h1_ h2_ h3_ h4_ h5_ h6_ h7_ h8_ h9_
                                          have hHeld := hS_
                                          refine norm_ (a' := ?_) ?_ ?_; rotate_left; focus (simp only [putAll, Act.put, s1, s2, s3]; rfl)
                                          refine two_ (i := 2) (j := 11) (Ni := some 45) (Nj := some 13) #[T, T, T, T, O, T, T, O, T, O, T, O, O, O] #[T, T, O, T, O, T, T, O, T, O, T, T, O, O] rfl rfl rfl rfl (two_of HT_.out (by kernel_rfl)) (by decide) (by decide) (fun K hK => ?_) (fun K hK => ?_)
                                          · skip
                                            refine goes_ Try.func37 (by kernel_rfl) rfl #[.agg #[.int .i64 a0, .int .i64 a1], .int .i64 (Int.tmod (wrap64 (a2_0)) 29)] (by rfl) rfl rfl (by (try simp only [List.map_toArray, List.map_cons, List.map_nil]); first | done | rfl | (simp only [List.length_drop, List.length_take]; rfl)) ?_
                                            with_reducible refine (grid_Of.calls a0 a1 (Int.tmod (wrap64 (a2_0)) 29) t1027 t1028 _ A13.out).mono ?_
                                            rintro e w33 ⟨rfl, hb⟩
                                            refine ⟨_, rfl, ?_⟩
                                            replace BK1024 := kb BK1024 hb
                                            replace BK1026 := kb BK1026 hb
                                            replace BK1035 := kb BK1035 hb
                                            replace HB := kB HB hb
                                            (try clear hb); (try clear hb2); (try clear hk); (try clear hi)
                                            refine hK.out _ _ ⟨kc BK1026 0, kc BK1026 1⟩ (fun hHeld => ?_)
                                            clear hK K
                                            refine norm_ (a' := ?_) ?_ ?_; rotate_left; focus (show Act.put _ (some 45) _ = _; simp only [Act.put, s1, s2, s3, i64_w, i32_w]; rfl)
                                            exact norm_ (by first | (simp only [putAll, Act.put, s1, s2, s3]; done) | (simp only [putAll, Act.put, s1, s2, s3]; rfl)) (hJ2_10 (gb1035) _ ⟨hHeld, (kx BK1024), (kx BK1026), (kx BK1035), GW1035.out, GE1035.out, NB1024_1035.out, NB1035_1024.out, NB1026_1035.out, NB1035_1026.out, (ky HB)⟩)
                                          · skip
                                            refine box_step ?hg (N := 13) ?hd (cs := #[.int .i64 0, .int .i64 0]) (t := 62) ?hr ?_; (case hd => rfl); (case hg => rfl); (case hr => first | (go_simp; done) | (go_simp; rfl))
                                            intro gb1036 hg w33 hbox hb
                                            have BK1036 := Aside0.mk (hbox)
                                            have GW1036 := kS HB hg
                                            have GE1036 := kS HB hg
                                            have NB1024_1036 := kN BK1024 hg
                                            have NB1036_1024 := kM BK1024 hg
                                            have NB1026_1036 := kN BK1026 hg
                                            have NB1036_1026 := kM BK1026 hg
                                            have NB1035_1036 := kN BK1035 hg
                                            have NB1036_1035 := kM BK1035 hg
                                            replace BK1024 := kb BK1024 hb
                                            replace BK1026 := kb BK1026 hb
                                            replace BK1035 := kb BK1035 hb
                                            replace HB := kB HB hb
                                            clear hb hbox hg
                                            refine hK.out _ _ ⟨kc BK1026 0, kc BK1026 1⟩ (fun hHeld => ?_)
                                            clear hK K
                                            refine norm_ (a' := ?_) ?_ ?_; rotate_left; focus (show Act.put _ (some 13) _ = _; simp only [Act.put, s1, s2, s3, i64_w, i32_w]; rfl)
                                            exact norm_ (by first | (simp only [putAll, Act.put, s1, s2, s3]; done) | (simp only [putAll, Act.put, s1, s2, s3]; rfl)) (hJ10_11 (gb1035, gb1036) _ ⟨hHeld, (kx BK1024), (kx BK1026), (kx BK1035), (kx BK1036), GW1035.out, GE1035.out, NB1024_1035.out, NB1035_1024.out, NB1026_1035.out, NB1035_1026.out, NB1036_1035.out, NB1035_1036.out, GW1036.out, GE1036.out, NB1024_1036.out, NB1036_1024.out, NB1026_1036.out, NB1036_1026.out, (ky HB)⟩)
                                      · skip
                                        rintro _ w32 ⟨hS_, h0_, h1_, h2_⟩
                                        clear BK1024 BK1026 HB
                                        have BK1024 := A0 h0_; have BK1026 := A0 h1_; have HB := A0 h2_
                                        clear h0_ h1_ h2_
                                        have hHeld := hS_
                                        refine norm_ (a' := ?_) ?_ ?_; rotate_left; focus (simp only [putAll, Act.put, s1, s2, s3]; rfl)
                                        refine three_ (i := 4) (j := 10) (k := 11) (Ni := some 47) (Nj := some 12) (Nk := some 13) #[T, T, T, T, T, T, T, O, T, O, O, O, O, O] #[T, T, T, T, O, T, T, O, T, O, T, O, O, O] #[T, T, T, T, O, T, T, O, T, O, O, T, O, O] rfl rfl rfl rfl rfl rfl (three_of HT_.out (by kernel_rfl)) (by decide) (by decide) (by decide) (fun K hK => ?_) (fun K hK => ?_) (fun K hK => ?_)
                                        · skip
                                          refine goes_ Try.func41 (by kernel_rfl) rfl #[.agg #[.int .i64 t1027, .int .i64 t1028], .int .i64 (Int.tmod (wrap64 (a2_0)) 29)] (by rfl) rfl rfl (by (try simp only [List.map_toArray, List.map_cons, List.map_nil]); first | done | rfl | (simp only [List.length_drop, List.length_take]; rfl)) ?_
                                          with_reducible refine (grid_Center.calls t1027 t1028 (Int.tmod (wrap64 (a2_0)) 29) t1029 t1030 _ A14.out).mono ?_
                                          rintro e w33 ⟨rfl, hb⟩
                                          refine ⟨_, rfl, ?_⟩
                                          replace BK1024 := kb BK1024 hb
                                          replace BK1026 := kb BK1026 hb
                                          replace HB := kB HB hb
                                          (try clear hb); (try clear hb2); (try clear hk); (try clear hi)
                                          refine hK.out _ _ ⟨kc BK1026 0, kc BK1026 1⟩ (fun hHeld => ?_)
                                          clear hK K
                                          refine norm_ (a' := ?_) ?_ ?_; rotate_left; focus (show Act.put _ (some 47) _ = _; simp only [Act.put, s1, s2, s3, i64_w, i32_w]; rfl)
                                          exact norm_ (by first | (simp only [putAll, Act.put, s1, s2, s3]; done) | (simp only [putAll, Act.put, s1, s2, s3]; rfl)) (hJ2_4 () _ ⟨hHeld, (kx BK1024), (kx BK1026), (ky HB)⟩)
                                        · skip
                                          refine box_step ?hg (N := 12) ?hd (cs := #[.int .i64 0, .int .i64 0]) (t := 62) ?hr ?_; (case hd => rfl); (case hg => rfl); (case hr => first | (go_simp; done) | (go_simp; rfl))
                                          intro gb1035 hg w33 hbox hb
                                          have BK1035 := Aside0.mk (hbox)
                                          have GW1035 := kS HB hg
                                          have GE1035 := kS HB hg
                                          have NB1024_1035 := kN BK1024 hg
                                          have NB1035_1024 := kM BK1024 hg
                                          have NB1026_1035 := kN BK1026 hg
                                          have NB1035_1026 := kM BK1026 hg
                                          replace BK1024 := kb BK1024 hb
                                          replace BK1026 := kb BK1026 hb
                                          replace HB := kB HB hb
                                          clear hb hbox hg
                                          refine hK.out _ _ ⟨kc BK1026 0, kc BK1026 1⟩ (fun hHeld => ?_)
                                          clear hK K
                                          refine norm_ (a' := ?_) ?_ ?_; rotate_left; focus (show Act.put _ (some 12) _ = _; simp only [Act.put, s1, s2, s3, i64_w, i32_w]; rfl)
                                          exact norm_ (by first | (simp only [putAll, Act.put, s1, s2, s3]; done) | (simp only [putAll, Act.put, s1, s2, s3]; rfl)) (hJ2_10 (gb1035) _ ⟨hHeld, (kx BK1024), (kx BK1026), (kx BK1035), GW1035.out, GE1035.out, NB1024_1035.out, NB1035_1024.out, NB1026_1035.out, NB1035_1026.out, (ky HB)⟩)
                                        · skip
                                          refine box_step ?hg (N := 13) ?hd (cs := #[.int .i64 0, .int .i64 0]) (t := 62) ?hr ?_; (case hd => rfl); (case hg => rfl); (case hr => first | (go_simp; done) | (go_simp; rfl))
                                          intro gb1036 hg w33 hbox hb
                                          have BK1036 := Aside0.mk (hbox)
                                          have GW1036 := kS HB hg
                                          have GE1036 := kS HB hg
                                          have NB1024_1036 := kN BK1024 hg
                                          have NB1036_1024 := kM BK1024 hg
                                          have NB1026_1036 := kN BK1026 hg
                                          have NB1036_1026 := kM BK1026 hg
                                          replace BK1024 := kb BK1024 hb
                                          replace BK1026 := kb BK1026 hb
                                          replace HB := kB HB hb
                                          clear hb hbox hg
                                          refine hK.out _ _ ⟨kc BK1026 0, kc BK1026 1⟩ (fun hHeld => ?_)
                                          clear hK K
                                          refine norm_ (a' := ?_) ?_ ?_; rotate_left; focus (show Act.put _ (some 13) _ = _; simp only [Act.put, s1, s2, s3, i64_w, i32_w]; rfl)
                                          exact norm_ (by first | (simp only [putAll, Act.put, s1, s2, s3]; done) | (simp only [putAll, Act.put, s1, s2, s3]; rfl)) (hJ2_11 (gb1036) _ ⟨hHeld, (kx BK1024), (kx BK1026), (kx BK1036), GW1036.out, GE1036.out, NB1024_1036.out, NB1036_1024.out, NB1026_1036.out, NB1036_1026.out, (ky HB)⟩)
                                    · skip
                                      rintro ⟨gb1035, gb1036⟩ w33 ⟨hS_, h0_, h1_, h2_, h3_, h4_, h5_, h6_, h7_, h8_, h9_, h10_, h11_, h12_, h13_, h14_, h15_, h16_, h17_, h18_⟩
                                      clear BK1024 BK1026 HB
                                      have BK1024 := A0 h0_; have BK1026 := A0 h1_; have BK1035 := A0 h2_; have BK1036 := A0 h3_; have GW1035 := A0 h4_; have GE1035 := A0 h5_; have NB1024_1035 := A0 h6_; have NB1035_1024 := A0 h7_; have NB1026_1035 := A0 h8_; have NB1035_1026 := A0 h9_; have NB1036_1035 := A0 h10_; have NB1035_1036 := A0 h11_; have GW1036 := A0 h12_; have GE1036 := A0 h13_; have NB1024_1036 := A0 h14_; have NB1036_1024 := A0 h15_; have NB1026_1036 := A0 h16_; have NB1036_1026 := A0 h17_; have HB := A0 h18_
                                      clear h0_ h1_ h2_ h3_ h4_ h5_ h6_ h7_ h8_ h9_ h10_ h11_ h12_ h13_ h14_ h15_ h16_ h17_ h18_
                                      have hHeld := hS_
                                      refine norm_ (a' := ?_) ?_ ?_; rotate_left; focus (simp only [putAll, Act.put, s1, s2, s3]; rfl)
                                      refine one_ (i := 2) (N := some 45) #[T, T, T, T, O, T, T, O, T, O, T, T, O, O] rfl rfl (one_of HT_.out (by kernel_rfl)) (by decide) (fun K hK => ?_)
                                      refine goes_ Try.func37 (by kernel_rfl) rfl #[.agg #[.int .i64 a0, .int .i64 a1], .int .i64 (Int.tmod (wrap64 (a2_0)) 29)] (by rfl) rfl rfl (by (try simp only [List.map_toArray, List.map_cons, List.map_nil]); first | done | rfl | (simp only [List.length_drop, List.length_take]; rfl)) ?_
                                      with_reducible refine (grid_Of.calls a0 a1 (Int.tmod (wrap64 (a2_0)) 29) t1027 t1028 _ A13.out).mono ?_
                                      rintro e w34 ⟨rfl, hb⟩
                                      refine ⟨_, rfl, ?_⟩
                                      replace BK1024 := kb BK1024 hb
                                      replace BK1026 := kb BK1026 hb
                                      replace BK1035 := kb BK1035 hb
                                      replace BK1036 := kb BK1036 hb
                                      replace HB := kB HB hb
                                      (try clear hb); (try clear hb2); (try clear hk); (try clear hi)
                                      refine hK.out _ _ ⟨kc BK1026 0, kc BK1026 1⟩ (fun hHeld => ?_)
                                      clear hK K
                                      refine norm_ (a' := ?_) ?_ ?_; rotate_left; focus (show Act.put _ (some 45) _ = _; simp only [Act.put, s1, s2, s3, i64_w, i32_w]; rfl)
                                      exact norm_ (by first | (simp only [putAll, Act.put, s1, s2, s3]; done) | (simp only [putAll, Act.put, s1, s2, s3]; rfl)) (hJ2_10_11 (gb1035, gb1036) _ ⟨hHeld, (kx BK1024), (kx BK1026), (kx BK1035), (kx BK1036), GW1035.out, GE1035.out, NB1024_1035.out, NB1035_1024.out, NB1026_1035.out, NB1035_1026.out, NB1036_1035.out, NB1035_1036.out, GW1036.out, GE1036.out, NB1024_1036.out, NB1036_1024.out, NB1026_1036.out, NB1036_1026.out, (ky HB)⟩)
                                  · skip
                                    rintro gb1036 w33 ⟨hS_, h0_, h1_, h2_, h3_, h4_, h5_, h6_, h7_, h8_, h9_⟩
                                    clear BK1024 BK1026 HB
                                    have BK1024 := A0 h0_; have BK1026 := A0 h1_; have BK1036 := A0 h2_; have GW1036 := A0 h3_; have GE1036 := A0 h4_; have NB1024_1036 := A0 h5_; have NB1036_1024 := A0 h6_; have NB1026_1036 := A0 h7_; have NB1036_1026 := A0 h8_; have HB := A0 h9_
                                    clear h0_ h1_ h2_ h3_ h4_ h5_ h6_ h7_ h8_ h9_
                                    have hHeld := hS_
                                    refine norm_ (a' := ?_) ?_ ?_; rotate_left; focus (simp only [putAll, Act.put, s1, s2, s3]; rfl)
                                    refine two_ (i := 4) (j := 10) (Ni := some 47) (Nj := some 12) #[T, T, T, T, T, T, T, O, T, O, O, T, O, O] #[T, T, T, T, O, T, T, O, T, O, T, T, O, O] rfl rfl rfl rfl (two_of HT_.out (by kernel_rfl)) (by decide) (by decide) (fun K hK => ?_) (fun K hK => ?_)
                                    · skip
                                      refine goes_ Try.func41 (by kernel_rfl) rfl #[.agg #[.int .i64 t1027, .int .i64 t1028], .int .i64 (Int.tmod (wrap64 (a2_0)) 29)] (by rfl) rfl rfl (by (try simp only [List.map_toArray, List.map_cons, List.map_nil]); first | done | rfl | (simp only [List.length_drop, List.length_take]; rfl)) ?_
                                      with_reducible refine (grid_Center.calls t1027 t1028 (Int.tmod (wrap64 (a2_0)) 29) t1029 t1030 _ A14.out).mono ?_
                                      rintro e w34 ⟨rfl, hb⟩
                                      refine ⟨_, rfl, ?_⟩
                                      replace BK1024 := kb BK1024 hb
                                      replace BK1026 := kb BK1026 hb
                                      replace BK1036 := kb BK1036 hb
                                      replace HB := kB HB hb
                                      (try clear hb); (try clear hb2); (try clear hk); (try clear hi)
                                      refine hK.out _ _ ⟨kc BK1026 0, kc BK1026 1⟩ (fun hHeld => ?_)
                                      clear hK K
                                      refine norm_ (a' := ?_) ?_ ?_; rotate_left; focus (show Act.put _ (some 47) _ = _; simp only [Act.put, s1, s2, s3, i64_w, i32_w]; rfl)
                                      exact norm_ (by first | (simp only [putAll, Act.put, s1, s2, s3]; done) | (simp only [putAll, Act.put, s1, s2, s3]; rfl)) (hJ2_4_11 (gb1036) _ ⟨hHeld, (kx BK1024), (kx BK1026), (kx BK1036), GW1036.out, GE1036.out, NB1024_1036.out, NB1036_1024.out, NB1026_1036.out, NB1036_1026.out, (ky HB)⟩)
                                    · skip
                                      refine box_step ?hg (N := 12) ?hd (cs := #[.int .i64 0, .int .i64 0]) (t := 62) ?hr ?_; (case hd => rfl); (case hg => rfl); (case hr => first | (go_simp; done) | (go_simp; rfl))
                                      intro gb1035 hg w34 hbox hb
                                      have BK1035 := Aside0.mk (hbox)
                                      have GW1035 := kS HB hg
                                      have GE1035 := kS HB hg
                                      have NB1024_1035 := kN BK1024 hg
                                      have NB1035_1024 := kM BK1024 hg
                                      have NB1026_1035 := kN BK1026 hg
                                      have NB1035_1026 := kM BK1026 hg
                                      have NB1036_1035 := kN BK1036 hg
                                      have NB1035_1036 := kM BK1036 hg
                                      replace BK1024 := kb BK1024 hb
                                      replace BK1026 := kb BK1026 hb
                                      replace BK1036 := kb BK1036 hb
                                      replace HB := kB HB hb
                                      clear hb hbox hg
                                      refine hK.out _ _ ⟨kc BK1026 0, kc BK1026 1⟩ (fun hHeld => ?_)
                                      clear hK K
                                      refine norm_ (a' := ?_) ?_ ?_; rotate_left; focus (show Act.put _ (some 12) _ = _; simp only [Act.put, s1, s2, s3, i64_w, i32_w]; rfl)
                                      exact norm_ (by first | (simp only [putAll, Act.put, s1, s2, s3]; done) | (simp only [putAll, Act.put, s1, s2, s3]; rfl)) (hJ2_10_11 (gb1035, gb1036) _ ⟨hHeld, (kx BK1024), (kx BK1026), (kx BK1035), (kx BK1036), GW1035.out, GE1035.out, NB1024_1035.out, NB1035_1024.out, NB1026_1035.out, NB1035_1026.out, NB1036_1035.out, NB1035_1036.out, GW1036.out, GE1036.out, NB1024_1036.out, NB1036_1024.out, NB1026_1036.out, NB1036_1026.out, (ky HB)⟩)
                                · skip
                                  rintro gb1035 w33 ⟨hS_, h0_, h1_, h2_, h3_, h4_, h5_, h6_, h7_, h8_, h9_⟩
                                  clear BK1024 BK1026 HB
                                  have BK1024 := A0 h0_; have BK1026 := A0 h1_; have BK1035 := A0 h2_; have GW1035 := A0 h3_; have GE1035 := A0 h4_; have NB1024_1035 := A0 h5_; have NB1035_1024 := A0 h6_; have NB1026_1035 := A0 h7_; have NB1035_1026 := A0 h8_; have HB := A0 h9_
                                  clear h0_ h1_ h2_ h3_ h4_ h5_ h6_ h7_ h8_ h9_
                                  have hHeld := hS_
                                  refine norm_ (a' := ?_) ?_ ?_; rotate_left; focus (simp only [putAll, Act.put, s1, s2, s3]; rfl)
                                  refine two_ (i := 4) (j := 11) (Ni := some 47) (Nj := some 13) #[T, T, T, T, T, T, T, O, T, O, T, O, O, O] #[T, T, T, T, O, T, T, O, T, O, T, T, O, O] rfl rfl rfl rfl (two_of HT_.out (by kernel_rfl)) (by decide) (by decide) (fun K hK => ?_) (fun K hK => ?_)
                                  · skip
                                    refine goes_ Try.func41 (by kernel_rfl) rfl #[.agg #[.int .i64 t1027, .int .i64 t1028], .int .i64 (Int.tmod (wrap64 (a2_0)) 29)] (by rfl) rfl rfl (by (try simp only [List.map_toArray, List.map_cons, List.map_nil]); first | done | rfl | (simp only [List.length_drop, List.length_take]; rfl)) ?_
                                    with_reducible refine (grid_Center.calls t1027 t1028 (Int.tmod (wrap64 (a2_0)) 29) t1029 t1030 _ A14.out).mono ?_
                                    rintro e w34 ⟨rfl, hb⟩
                                    refine ⟨_, rfl, ?_⟩
                                    replace BK1024 := kb BK1024 hb
                                    replace BK1026 := kb BK1026 hb
                                    replace BK1035 := kb BK1035 hb
                                    replace HB := kB HB hb
                                    (try clear hb); (try clear hb2); (try clear hk); (try clear hi)
                                    refine hK.out _ _ ⟨kc BK1026 0, kc BK1026 1⟩ (fun hHeld => ?_)
                                    clear hK K
                                    refine norm_ (a' := ?_) ?_ ?_; rotate_left; focus (show Act.put _ (some 47) _ = _; simp only [Act.put, s1, s2, s3, i64_w, i32_w]; rfl)
                                    exact norm_ (by first | (simp only [putAll, Act.put, s1, s2, s3]; done) | (simp only [putAll, Act.put, s1, s2, s3]; rfl)) (hJ2_4_10 (gb1035) _ ⟨hHeld, (kx BK1024), (kx BK1026), (kx BK1035), GW1035.out, GE1035.out, NB1024_1035.out, NB1035_1024.out, NB1026_1035.out, NB1035_1026.out, (ky HB)⟩)
                                  · skip
                                    refine box_step ?hg (N := 13) ?hd (cs := #[.int .i64 0, .int .i64 0]) (t := 62) ?hr ?_; (case hd => rfl); (case hg => rfl); (case hr => first | (go_simp; done) | (go_simp; rfl))
                                    intro gb1036 hg w34 hbox hb
                                    have BK1036 := Aside0.mk (hbox)
                                    have GW1036 := kS HB hg
                                    have GE1036 := kS HB hg
                                    have NB1024_1036 := kN BK1024 hg
                                    have NB1036_1024 := kM BK1024 hg
                                    have NB1026_1036 := kN BK1026 hg
                                    have NB1036_1026 := kM BK1026 hg
                                    have NB1035_1036 := kN BK1035 hg
                                    have NB1036_1035 := kM BK1035 hg
                                    replace BK1024 := kb BK1024 hb
                                    replace BK1026 := kb BK1026 hb
                                    replace BK1035 := kb BK1035 hb
                                    replace HB := kB HB hb
                                    clear hb hbox hg
                                    refine hK.out _ _ ⟨kc BK1026 0, kc BK1026 1⟩ (fun hHeld => ?_)
                                    clear hK K
                                    refine norm_ (a' := ?_) ?_ ?_; rotate_left; focus (show Act.put _ (some 13) _ = _; simp only [Act.put, s1, s2, s3, i64_w, i32_w]; rfl)
                                    exact norm_ (by first | (simp only [putAll, Act.put, s1, s2, s3]; done) | (simp only [putAll, Act.put, s1, s2, s3]; rfl)) (hJ2_10_11 (gb1035, gb1036) _ ⟨hHeld, (kx BK1024), (kx BK1026), (kx BK1035), (kx BK1036), GW1035.out, GE1035.out, NB1024_1035.out, NB1035_1024.out, NB1026_1035.out, NB1035_1026.out, NB1036_1035.out, NB1035_1036.out, GW1036.out, GE1036.out, NB1024_1036.out, NB1036_1024.out, NB1026_1036.out, NB1036_1026.out, (ky HB)⟩)
                              · skip
                                rintro _ w33 ⟨hS_, h0_, h1_, h2_⟩
                                clear BK1024 BK1026 HB
                                have BK1024 := A0 h0_; have BK1026 := A0 h1_; have HB := A0 h2_
                                clear h0_ h1_ h2_
                                have hHeld := hS_
                                refine norm_ (a' := ?_) ?_ ?_; rotate_left; focus (simp only [putAll, Act.put, s1, s2, s3]; rfl)
                                refine three_ (i := 7) (j := 10) (k := 11) (Ni := some 50) (Nj := some 12) (Nk := some 13) #[T, T, T, T, T, T, T, T, T, O, O, O, O, O] #[T, T, T, T, T, T, T, O, T, O, T, O, O, O] #[T, T, T, T, T, T, T, O, T, O, O, T, O, O] rfl rfl rfl rfl rfl rfl (three_of HT_.out (by kernel_rfl)) (by decide) (by decide) (by decide) (fun K hK => ?_) (fun K hK => ?_) (fun K hK => ?_)
                                · skip
                                  refine goes_ Try.func37 (by kernel_rfl) rfl #[.agg #[.int .i64 a0, .int .i64 a1], .int .i64 (Int.tmod (wrap64 (a2_1)) 29)] (by rfl) rfl rfl (by (try simp only [List.map_toArray, List.map_cons, List.map_nil]); first | done | rfl | (simp only [List.length_drop, List.length_take]; rfl)) ?_
                                  with_reducible refine (grid_Of.calls a0 a1 (Int.tmod (wrap64 (a2_1)) 29) t1031 t1032 _ A15.out).mono ?_
                                  rintro e w34 ⟨rfl, hb⟩
                                  refine ⟨_, rfl, ?_⟩
                                  replace BK1024 := kb BK1024 hb
                                  replace BK1026 := kb BK1026 hb
                                  replace HB := kB HB hb
                                  (try clear hb); (try clear hb2); (try clear hk); (try clear hi)
                                  refine hK.out _ _ ⟨kc BK1026 0, kc BK1026 1⟩ (fun hHeld => ?_)
                                  clear hK K
                                  refine norm_ (a' := ?_) ?_ ?_; rotate_left; focus (show Act.put _ (some 50) _ = _; simp only [Act.put, s1, s2, s3, i64_w, i32_w]; rfl)
                                  exact norm_ (by first | (simp only [putAll, Act.put, s1, s2, s3]; done) | (simp only [putAll, Act.put, s1, s2, s3]; rfl)) (hJ2_4_7 () _ ⟨hHeld, (kx BK1024), (kx BK1026), (ky HB)⟩)
                                · skip
                                  refine box_step ?hg (N := 12) ?hd (cs := #[.int .i64 0, .int .i64 0]) (t := 62) ?hr ?_; (case hd => rfl); (case hg => rfl); (case hr => first | (go_simp; done) | (go_simp; rfl))
                                  intro gb1035 hg w34 hbox hb
                                  have BK1035 := Aside0.mk (hbox)
                                  have GW1035 := kS HB hg
                                  have GE1035 := kS HB hg
                                  have NB1024_1035 := kN BK1024 hg
                                  have NB1035_1024 := kM BK1024 hg
                                  have NB1026_1035 := kN BK1026 hg
                                  have NB1035_1026 := kM BK1026 hg
                                  replace BK1024 := kb BK1024 hb
                                  replace BK1026 := kb BK1026 hb
                                  replace HB := kB HB hb
                                  clear hb hbox hg
                                  refine hK.out _ _ ⟨kc BK1026 0, kc BK1026 1⟩ (fun hHeld => ?_)
                                  clear hK K
                                  refine norm_ (a' := ?_) ?_ ?_; rotate_left; focus (show Act.put _ (some 12) _ = _; simp only [Act.put, s1, s2, s3, i64_w, i32_w]; rfl)
                                  exact norm_ (by first | (simp only [putAll, Act.put, s1, s2, s3]; done) | (simp only [putAll, Act.put, s1, s2, s3]; rfl)) (hJ2_4_10 (gb1035) _ ⟨hHeld, (kx BK1024), (kx BK1026), (kx BK1035), GW1035.out, GE1035.out, NB1024_1035.out, NB1035_1024.out, NB1026_1035.out, NB1035_1026.out, (ky HB)⟩)
                                · skip
                                  refine box_step ?hg (N := 13) ?hd (cs := #[.int .i64 0, .int .i64 0]) (t := 62) ?hr ?_; (case hd => rfl); (case hg => rfl); (case hr => first | (go_simp; done) | (go_simp; rfl))
                                  intro gb1036 hg w34 hbox hb
                                  have BK1036 := Aside0.mk (hbox)
                                  have GW1036 := kS HB hg
                                  have GE1036 := kS HB hg
                                  have NB1024_1036 := kN BK1024 hg
                                  have NB1036_1024 := kM BK1024 hg
                                  have NB1026_1036 := kN BK1026 hg
                                  have NB1036_1026 := kM BK1026 hg
                                  replace BK1024 := kb BK1024 hb
                                  replace BK1026 := kb BK1026 hb
                                  replace HB := kB HB hb
                                  clear hb hbox hg
                                  refine hK.out _ _ ⟨kc BK1026 0, kc BK1026 1⟩ (fun hHeld => ?_)
                                  clear hK K
                                  refine norm_ (a' := ?_) ?_ ?_; rotate_left; focus (show Act.put _ (some 13) _ = _; simp only [Act.put, s1, s2, s3, i64_w, i32_w]; rfl)
                                  exact norm_ (by first | (simp only [putAll, Act.put, s1, s2, s3]; done) | (simp only [putAll, Act.put, s1, s2, s3]; rfl)) (hJ2_4_11 (gb1036) _ ⟨hHeld, (kx BK1024), (kx BK1026), (kx BK1036), GW1036.out, GE1036.out, NB1024_1036.out, NB1036_1024.out, NB1026_1036.out, NB1036_1026.out, (ky HB)⟩)
                            · skip
                              rintro ⟨gb1035, gb1036⟩ w34 ⟨hS_, h0_, h1_, h2_, h3_, h4_, h5_, h6_, h7_, h8_, h9_, h10_, h11_, h12_, h13_, h14_, h15_, h16_, h17_, h18_⟩
                              clear BK1024 BK1026 HB
                              have BK1024 := A0 h0_; have BK1026 := A0 h1_; have BK1035 := A0 h2_; have BK1036 := A0 h3_; have GW1035 := A0 h4_; have GE1035 := A0 h5_; have NB1024_1035 := A0 h6_; have NB1035_1024 := A0 h7_; have NB1026_1035 := A0 h8_; have NB1035_1026 := A0 h9_; have NB1036_1035 := A0 h10_; have NB1035_1036 := A0 h11_; have GW1036 := A0 h12_; have GE1036 := A0 h13_; have NB1024_1036 := A0 h14_; have NB1036_1024 := A0 h15_; have NB1026_1036 := A0 h16_; have NB1036_1026 := A0 h17_; have HB := A0 h18_
                              clear h0_ h1_ h2_ h3_ h4_ h5_ h6_ h7_ h8_ h9_ h10_ h11_ h12_ h13_ h14_ h15_ h16_ h17_ h18_
                              have hHeld := hS_
                              refine norm_ (a' := ?_) ?_ ?_; rotate_left; focus (simp only [putAll, Act.put, s1, s2, s3]; rfl)
                              refine one_ (i := 4) (N := some 47) #[T, T, T, T, T, T, T, O, T, O, T, T, O, O] rfl rfl (one_of HT_.out (by kernel_rfl)) (by decide) (fun K hK => ?_)
                              refine goes_ Try.func41 (by kernel_rfl) rfl #[.agg #[.int .i64 t1027, .int .i64 t1028], .int .i64 (Int.tmod (wrap64 (a2_0)) 29)] (by rfl) rfl rfl (by (try simp only [List.map_toArray, List.map_cons, List.map_nil]); first | done | rfl | (simp only [List.length_drop, List.length_take]; rfl)) ?_
                              with_reducible refine (grid_Center.calls t1027 t1028 (Int.tmod (wrap64 (a2_0)) 29) t1029 t1030 _ A14.out).mono ?_
                              rintro e w35 ⟨rfl, hb⟩
                              refine ⟨_, rfl, ?_⟩
                              replace BK1024 := kb BK1024 hb
                              replace BK1026 := kb BK1026 hb
                              replace BK1035 := kb BK1035 hb
                              replace BK1036 := kb BK1036 hb
                              replace HB := kB HB hb
                              (try clear hb); (try clear hb2); (try clear hk); (try clear hi)
                              refine hK.out _ _ ⟨kc BK1026 0, kc BK1026 1⟩ (fun hHeld => ?_)
                              clear hK K
                              refine norm_ (a' := ?_) ?_ ?_; rotate_left; focus (show Act.put _ (some 47) _ = _; simp only [Act.put, s1, s2, s3, i64_w, i32_w]; rfl)
                              exact norm_ (by first | (simp only [putAll, Act.put, s1, s2, s3]; done) | (simp only [putAll, Act.put, s1, s2, s3]; rfl)) (hJ2_4_10_11 (gb1035, gb1036) _ ⟨hHeld, (kx BK1024), (kx BK1026), (kx BK1035), (kx BK1036), GW1035.out, GE1035.out, NB1024_1035.out, NB1035_1024.out, NB1026_1035.out, NB1035_1026.out, NB1036_1035.out, NB1035_1036.out, GW1036.out, GE1036.out, NB1024_1036.out, NB1036_1024.out, NB1026_1036.out, NB1036_1026.out, (ky HB)⟩)
                          · skip
                            rintro gb1036 w34 ⟨hS_, h0_, h1_, h2_, h3_, h4_, h5_, h6_, h7_, h8_, h9_⟩
                            clear BK1024 BK1026 HB
                            have BK1024 := A0 h0_; have BK1026 := A0 h1_; have BK1036 := A0 h2_; have GW1036 := A0 h3_; have GE1036 := A0 h4_; have NB1024_1036 := A0 h5_; have NB1036_1024 := A0 h6_; have NB1026_1036 := A0 h7_; have NB1036_1026 := A0 h8_; have HB := A0 h9_
                            clear h0_ h1_ h2_ h3_ h4_ h5_ h6_ h7_ h8_ h9_
                            have hHeld := hS_
                            refine norm_ (a' := ?_) ?_ ?_; rotate_left; focus (simp only [putAll, Act.put, s1, s2, s3]; rfl)
                            refine two_ (i := 7) (j := 10) (Ni := some 50) (Nj := some 12) #[T, T, T, T, T, T, T, T, T, O, O, T, O, O] #[T, T, T, T, T, T, T, O, T, O, T, T, O, O] rfl rfl rfl rfl (two_of HT_.out (by kernel_rfl)) (by decide) (by decide) (fun K hK => ?_) (fun K hK => ?_)
                            · skip
                              refine goes_ Try.func37 (by kernel_rfl) rfl #[.agg #[.int .i64 a0, .int .i64 a1], .int .i64 (Int.tmod (wrap64 (a2_1)) 29)] (by rfl) rfl rfl (by (try simp only [List.map_toArray, List.map_cons, List.map_nil]); first | done | rfl | (simp only [List.length_drop, List.length_take]; rfl)) ?_
                              with_reducible refine (grid_Of.calls a0 a1 (Int.tmod (wrap64 (a2_1)) 29) t1031 t1032 _ A15.out).mono ?_
                              rintro e w35 ⟨rfl, hb⟩
                              refine ⟨_, rfl, ?_⟩
                              replace BK1024 := kb BK1024 hb
                              replace BK1026 := kb BK1026 hb
                              replace BK1036 := kb BK1036 hb
                              replace HB := kB HB hb
                              (try clear hb); (try clear hb2); (try clear hk); (try clear hi)
                              refine hK.out _ _ ⟨kc BK1026 0, kc BK1026 1⟩ (fun hHeld => ?_)
                              clear hK K
                              refine norm_ (a' := ?_) ?_ ?_; rotate_left; focus (show Act.put _ (some 50) _ = _; simp only [Act.put, s1, s2, s3, i64_w, i32_w]; rfl)
                              exact norm_ (by first | (simp only [putAll, Act.put, s1, s2, s3]; done) | (simp only [putAll, Act.put, s1, s2, s3]; rfl)) (hJ2_4_7_11 (gb1036) _ ⟨hHeld, (kx BK1024), (kx BK1026), (kx BK1036), GW1036.out, GE1036.out, NB1024_1036.out, NB1036_1024.out, NB1026_1036.out, NB1036_1026.out, (ky HB)⟩)
                            · skip
                              refine box_step ?hg (N := 12) ?hd (cs := #[.int .i64 0, .int .i64 0]) (t := 62) ?hr ?_; (case hd => rfl); (case hg => rfl); (case hr => first | (go_simp; done) | (go_simp; rfl))
                              intro gb1035 hg w35 hbox hb
                              have BK1035 := Aside0.mk (hbox)
                              have GW1035 := kS HB hg
                              have GE1035 := kS HB hg
                              have NB1024_1035 := kN BK1024 hg
                              have NB1035_1024 := kM BK1024 hg
                              have NB1026_1035 := kN BK1026 hg
                              have NB1035_1026 := kM BK1026 hg
                              have NB1036_1035 := kN BK1036 hg
                              have NB1035_1036 := kM BK1036 hg
                              replace BK1024 := kb BK1024 hb
                              replace BK1026 := kb BK1026 hb
                              replace BK1036 := kb BK1036 hb
                              replace HB := kB HB hb
                              clear hb hbox hg
                              refine hK.out _ _ ⟨kc BK1026 0, kc BK1026 1⟩ (fun hHeld => ?_)
                              clear hK K
                              refine norm_ (a' := ?_) ?_ ?_; rotate_left; focus (show Act.put _ (some 12) _ = _; simp only [Act.put, s1, s2, s3, i64_w, i32_w]; rfl)
                              exact norm_ (by first | (simp only [putAll, Act.put, s1, s2, s3]; done) | (simp only [putAll, Act.put, s1, s2, s3]; rfl)) (hJ2_4_10_11 (gb1035, gb1036) _ ⟨hHeld, (kx BK1024), (kx BK1026), (kx BK1035), (kx BK1036), GW1035.out, GE1035.out, NB1024_1035.out, NB1035_1024.out, NB1026_1035.out, NB1035_1026.out, NB1036_1035.out, NB1035_1036.out, GW1036.out, GE1036.out, NB1024_1036.out, NB1036_1024.out, NB1026_1036.out, NB1036_1026.out, (ky HB)⟩)
                        · skip
                          rintro gb1035 w34 ⟨hS_, h0_, h1_, h2_, h3_, h4_, h5_, h6_, h7_, h8_, h9_⟩
                          clear BK1024 BK1026 HB
                          have BK1024 := A0 h0_; have BK1026 := A0 h1_; have BK1035 := A0 h2_; have GW1035 := A0 h3_; have GE1035 := A0 h4_; have NB1024_1035 := A0 h5_; have NB1035_1024 := A0 h6_; have NB1026_1035 := A0 h7_; have NB1035_1026 := A0 h8_; have HB := A0 h9_
                          clear h0_ h1_ h2_ h3_ h4_ h5_ h6_ h7_ h8_ h9_
                          have hHeld := hS_
                          refine norm_ (a' := ?_) ?_ ?_; rotate_left; focus (simp only [putAll, Act.put, s1, s2, s3]; rfl)
                          refine two_ (i := 7) (j := 11) (Ni := some 50) (Nj := some 13) #[T, T, T, T, T, T, T, T, T, O, T, O, O, O] #[T, T, T, T, T, T, T, O, T, O, T, T, O, O] rfl rfl rfl rfl (two_of HT_.out (by kernel_rfl)) (by decide) (by decide) (fun K hK => ?_) (fun K hK => ?_)
                          · skip
                            refine goes_ Try.func37 (by kernel_rfl) rfl #[.agg #[.int .i64 a0, .int .i64 a1], .int .i64 (Int.tmod (wrap64 (a2_1)) 29)] (by rfl) rfl rfl (by (try simp only [List.map_toArray, List.map_cons, List.map_nil]); first | done | rfl | (simp only [List.length_drop, List.length_take]; rfl)) ?_
                            with_reducible refine (grid_Of.calls a0 a1 (Int.tmod (wrap64 (a2_1)) 29) t1031 t1032 _ A15.out).mono ?_
                            rintro e w35 ⟨rfl, hb⟩
                            refine ⟨_, rfl, ?_⟩
                            replace BK1024 := kb BK1024 hb
                            replace BK1026 := kb BK1026 hb
                            replace BK1035 := kb BK1035 hb
                            replace HB := kB HB hb
                            (try clear hb); (try clear hb2); (try clear hk); (try clear hi)
                            refine hK.out _ _ ⟨kc BK1026 0, kc BK1026 1⟩ (fun hHeld => ?_)
                            clear hK K
                            refine norm_ (a' := ?_) ?_ ?_; rotate_left; focus (show Act.put _ (some 50) _ = _; simp only [Act.put, s1, s2, s3, i64_w, i32_w]; rfl)
                            exact norm_ (by first | (simp only [putAll, Act.put, s1, s2, s3]; done) | (simp only [putAll, Act.put, s1, s2, s3]; rfl)) (hJ2_4_7_10 (gb1035) _ ⟨hHeld, (kx BK1024), (kx BK1026), (kx BK1035), GW1035.out, GE1035.out, NB1024_1035.out, NB1035_1024.out, NB1026_1035.out, NB1035_1026.out, (ky HB)⟩)
                          · skip
                            refine box_step ?hg (N := 13) ?hd (cs := #[.int .i64 0, .int .i64 0]) (t := 62) ?hr ?_; (case hd => rfl); (case hg => rfl); (case hr => first | (go_simp; done) | (go_simp; rfl))
                            intro gb1036 hg w35 hbox hb
                            have BK1036 := Aside0.mk (hbox)
                            have GW1036 := kS HB hg
                            have GE1036 := kS HB hg
                            have NB1024_1036 := kN BK1024 hg
                            have NB1036_1024 := kM BK1024 hg
                            have NB1026_1036 := kN BK1026 hg
                            have NB1036_1026 := kM BK1026 hg
                            have NB1035_1036 := kN BK1035 hg
                            have NB1036_1035 := kM BK1035 hg
                            replace BK1024 := kb BK1024 hb
                            replace BK1026 := kb BK1026 hb
                            replace BK1035 := kb BK1035 hb
                            replace HB := kB HB hb
                            clear hb hbox hg
                            refine hK.out _ _ ⟨kc BK1026 0, kc BK1026 1⟩ (fun hHeld => ?_)
                            clear hK K
                            refine norm_ (a' := ?_) ?_ ?_; rotate_left; focus (show Act.put _ (some 13) _ = _; simp only [Act.put, s1, s2, s3, i64_w, i32_w]; rfl)
                            exact norm_ (by first | (simp only [putAll, Act.put, s1, s2, s3]; done) | (simp only [putAll, Act.put, s1, s2, s3]; rfl)) (hJ2_4_10_11 (gb1035, gb1036) _ ⟨hHeld, (kx BK1024), (kx BK1026), (kx BK1035), (kx BK1036), GW1035.out, GE1035.out, NB1024_1035.out, NB1035_1024.out, NB1026_1035.out, NB1035_1026.out, NB1036_1035.out, NB1035_1036.out, GW1036.out, GE1036.out, NB1024_1036.out, NB1036_1024.out, NB1026_1036.out, NB1036_1026.out, (ky HB)⟩)
                      · skip
                        rintro _ w34 ⟨hS_, h0_, h1_, h2_⟩
                        clear BK1024 BK1026 HB
                        have BK1024 := A0 h0_; have BK1026 := A0 h1_; have HB := A0 h2_
                        clear h0_ h1_ h2_
                        have hHeld := hS_
                        refine norm_ (a' := ?_) ?_ ?_; rotate_left; focus (simp only [putAll, Act.put, s1, s2, s3]; rfl)
                        refine three_ (i := 9) (j := 10) (k := 11) (Ni := some 52) (Nj := some 12) (Nk := some 13) #[T, T, T, T, T, T, T, T, T, T, O, O, O, O] #[T, T, T, T, T, T, T, T, T, O, T, O, O, O] #[T, T, T, T, T, T, T, T, T, O, O, T, O, O] rfl rfl rfl rfl rfl rfl (three_of HT_.out (by kernel_rfl)) (by decide) (by decide) (by decide) (fun K hK => ?_) (fun K hK => ?_) (fun K hK => ?_)
                        · skip
                          refine goes_ Try.func41 (by kernel_rfl) rfl #[.agg #[.int .i64 t1031, .int .i64 t1032], .int .i64 (Int.tmod (wrap64 (a2_1)) 29)] (by rfl) rfl rfl (by (try simp only [List.map_toArray, List.map_cons, List.map_nil]); first | done | rfl | (simp only [List.length_drop, List.length_take]; rfl)) ?_
                          with_reducible refine (grid_Center.calls t1031 t1032 (Int.tmod (wrap64 (a2_1)) 29) t1033 t1034 _ A16.out).mono ?_
                          rintro e w35 ⟨rfl, hb⟩
                          refine ⟨_, rfl, ?_⟩
                          replace BK1024 := kb BK1024 hb
                          replace BK1026 := kb BK1026 hb
                          replace HB := kB HB hb
                          (try clear hb); (try clear hb2); (try clear hk); (try clear hi)
                          refine hK.out _ _ ⟨kc BK1026 0, kc BK1026 1⟩ (fun hHeld => ?_)
                          clear hK K
                          refine norm_ (a' := ?_) ?_ ?_; rotate_left; focus (show Act.put _ (some 52) _ = _; simp only [Act.put, s1, s2, s3, i64_w, i32_w]; rfl)
                          exact norm_ (by first | (simp only [putAll, Act.put, s1, s2, s3]; done) | (simp only [putAll, Act.put, s1, s2, s3]; rfl)) (hJ2_4_7_9 () _ ⟨hHeld, (kx BK1024), (kx BK1026), (ky HB)⟩)
                        · skip
                          refine box_step ?hg (N := 12) ?hd (cs := #[.int .i64 0, .int .i64 0]) (t := 62) ?hr ?_; (case hd => rfl); (case hg => rfl); (case hr => first | (go_simp; done) | (go_simp; rfl))
                          intro gb1035 hg w35 hbox hb
                          have BK1035 := Aside0.mk (hbox)
                          have GW1035 := kS HB hg
                          have GE1035 := kS HB hg
                          have NB1024_1035 := kN BK1024 hg
                          have NB1035_1024 := kM BK1024 hg
                          have NB1026_1035 := kN BK1026 hg
                          have NB1035_1026 := kM BK1026 hg
                          replace BK1024 := kb BK1024 hb
                          replace BK1026 := kb BK1026 hb
                          replace HB := kB HB hb
                          clear hb hbox hg
                          refine hK.out _ _ ⟨kc BK1026 0, kc BK1026 1⟩ (fun hHeld => ?_)
                          clear hK K
                          refine norm_ (a' := ?_) ?_ ?_; rotate_left; focus (show Act.put _ (some 12) _ = _; simp only [Act.put, s1, s2, s3, i64_w, i32_w]; rfl)
                          exact norm_ (by first | (simp only [putAll, Act.put, s1, s2, s3]; done) | (simp only [putAll, Act.put, s1, s2, s3]; rfl)) (hJ2_4_7_10 (gb1035) _ ⟨hHeld, (kx BK1024), (kx BK1026), (kx BK1035), GW1035.out, GE1035.out, NB1024_1035.out, NB1035_1024.out, NB1026_1035.out, NB1035_1026.out, (ky HB)⟩)
                        · skip
                          refine box_step ?hg (N := 13) ?hd (cs := #[.int .i64 0, .int .i64 0]) (t := 62) ?hr ?_; (case hd => rfl); (case hg => rfl); (case hr => first | (go_simp; done) | (go_simp; rfl))
                          intro gb1036 hg w35 hbox hb
                          have BK1036 := Aside0.mk (hbox)
                          have GW1036 := kS HB hg
                          have GE1036 := kS HB hg
                          have NB1024_1036 := kN BK1024 hg
                          have NB1036_1024 := kM BK1024 hg
                          have NB1026_1036 := kN BK1026 hg
                          have NB1036_1026 := kM BK1026 hg
                          replace BK1024 := kb BK1024 hb
                          replace BK1026 := kb BK1026 hb
                          replace HB := kB HB hb
                          clear hb hbox hg
                          refine hK.out _ _ ⟨kc BK1026 0, kc BK1026 1⟩ (fun hHeld => ?_)
                          clear hK K
                          refine norm_ (a' := ?_) ?_ ?_; rotate_left; focus (show Act.put _ (some 13) _ = _; simp only [Act.put, s1, s2, s3, i64_w, i32_w]; rfl)
                          exact norm_ (by first | (simp only [putAll, Act.put, s1, s2, s3]; done) | (simp only [putAll, Act.put, s1, s2, s3]; rfl)) (hJ2_4_7_11 (gb1036) _ ⟨hHeld, (kx BK1024), (kx BK1026), (kx BK1036), GW1036.out, GE1036.out, NB1024_1036.out, NB1036_1024.out, NB1026_1036.out, NB1036_1026.out, (ky HB)⟩)
                    · skip
                      rintro ⟨gb1035, gb1036⟩ w35 ⟨hS_, h0_, h1_, h2_, h3_, h4_, h5_, h6_, h7_, h8_, h9_, h10_, h11_, h12_, h13_, h14_, h15_, h16_, h17_, h18_⟩
                      clear BK1024 BK1026 HB
                      have BK1024 := A0 h0_; have BK1026 := A0 h1_; have BK1035 := A0 h2_; have BK1036 := A0 h3_; have GW1035 := A0 h4_; have GE1035 := A0 h5_; have NB1024_1035 := A0 h6_; have NB1035_1024 := A0 h7_; have NB1026_1035 := A0 h8_; have NB1035_1026 := A0 h9_; have NB1036_1035 := A0 h10_; have NB1035_1036 := A0 h11_; have GW1036 := A0 h12_; have GE1036 := A0 h13_; have NB1024_1036 := A0 h14_; have NB1036_1024 := A0 h15_; have NB1026_1036 := A0 h16_; have NB1036_1026 := A0 h17_; have HB := A0 h18_
                      clear h0_ h1_ h2_ h3_ h4_ h5_ h6_ h7_ h8_ h9_ h10_ h11_ h12_ h13_ h14_ h15_ h16_ h17_ h18_
                      have hHeld := hS_
                      refine norm_ (a' := ?_) ?_ ?_; rotate_left; focus (simp only [putAll, Act.put, s1, s2, s3]; rfl)
                      refine one_ (i := 7) (N := some 50) #[T, T, T, T, T, T, T, T, T, O, T, T, O, O] rfl rfl (one_of HT_.out (by kernel_rfl)) (by decide) (fun K hK => ?_)
                      refine goes_ Try.func37 (by kernel_rfl) rfl #[.agg #[.int .i64 a0, .int .i64 a1], .int .i64 (Int.tmod (wrap64 (a2_1)) 29)] (by rfl) rfl rfl (by (try simp only [List.map_toArray, List.map_cons, List.map_nil]); first | done | rfl | (simp only [List.length_drop, List.length_take]; rfl)) ?_
                      with_reducible refine (grid_Of.calls a0 a1 (Int.tmod (wrap64 (a2_1)) 29) t1031 t1032 _ A15.out).mono ?_
                      rintro e w36 ⟨rfl, hb⟩
                      refine ⟨_, rfl, ?_⟩
                      replace BK1024 := kb BK1024 hb
                      replace BK1026 := kb BK1026 hb
                      replace BK1035 := kb BK1035 hb
                      replace BK1036 := kb BK1036 hb
                      replace HB := kB HB hb
                      (try clear hb); (try clear hb2); (try clear hk); (try clear hi)
                      refine hK.out _ _ ⟨kc BK1026 0, kc BK1026 1⟩ (fun hHeld => ?_)
                      clear hK K
                      refine norm_ (a' := ?_) ?_ ?_; rotate_left; focus (show Act.put _ (some 50) _ = _; simp only [Act.put, s1, s2, s3, i64_w, i32_w]; rfl)
                      exact norm_ (by first | (simp only [putAll, Act.put, s1, s2, s3]; done) | (simp only [putAll, Act.put, s1, s2, s3]; rfl)) (hJ2_4_7_10_11 (gb1035, gb1036) _ ⟨hHeld, (kx BK1024), (kx BK1026), (kx BK1035), (kx BK1036), GW1035.out, GE1035.out, NB1024_1035.out, NB1035_1024.out, NB1026_1035.out, NB1035_1026.out, NB1036_1035.out, NB1035_1036.out, GW1036.out, GE1036.out, NB1024_1036.out, NB1036_1024.out, NB1026_1036.out, NB1036_1026.out, (ky HB)⟩)
                  · skip
                    rintro gb1036 w35 ⟨hS_, h0_, h1_, h2_, h3_, h4_, h5_, h6_, h7_, h8_, h9_⟩
                    clear BK1024 BK1026 HB
                    have BK1024 := A0 h0_; have BK1026 := A0 h1_; have BK1036 := A0 h2_; have GW1036 := A0 h3_; have GE1036 := A0 h4_; have NB1024_1036 := A0 h5_; have NB1036_1024 := A0 h6_; have NB1026_1036 := A0 h7_; have NB1036_1026 := A0 h8_; have HB := A0 h9_
                    clear h0_ h1_ h2_ h3_ h4_ h5_ h6_ h7_ h8_ h9_
                    have hHeld := hS_
                    refine norm_ (a' := ?_) ?_ ?_; rotate_left; focus (simp only [putAll, Act.put, s1, s2, s3]; rfl)
                    refine two_ (i := 9) (j := 10) (Ni := some 52) (Nj := some 12) #[T, T, T, T, T, T, T, T, T, T, O, T, O, O] #[T, T, T, T, T, T, T, T, T, O, T, T, O, O] rfl rfl rfl rfl (two_of HT_.out (by kernel_rfl)) (by decide) (by decide) (fun K hK => ?_) (fun K hK => ?_)
                    · skip
                      refine goes_ Try.func41 (by kernel_rfl) rfl #[.agg #[.int .i64 t1031, .int .i64 t1032], .int .i64 (Int.tmod (wrap64 (a2_1)) 29)] (by rfl) rfl rfl (by (try simp only [List.map_toArray, List.map_cons, List.map_nil]); first | done | rfl | (simp only [List.length_drop, List.length_take]; rfl)) ?_
                      with_reducible refine (grid_Center.calls t1031 t1032 (Int.tmod (wrap64 (a2_1)) 29) t1033 t1034 _ A16.out).mono ?_
                      rintro e w36 ⟨rfl, hb⟩
                      refine ⟨_, rfl, ?_⟩
                      replace BK1024 := kb BK1024 hb
                      replace BK1026 := kb BK1026 hb
                      replace BK1036 := kb BK1036 hb
                      replace HB := kB HB hb
                      (try clear hb); (try clear hb2); (try clear hk); (try clear hi)
                      refine hK.out _ _ ⟨kc BK1026 0, kc BK1026 1⟩ (fun hHeld => ?_)
                      clear hK K
                      refine norm_ (a' := ?_) ?_ ?_; rotate_left; focus (show Act.put _ (some 52) _ = _; simp only [Act.put, s1, s2, s3, i64_w, i32_w]; rfl)
                      exact norm_ (by first | (simp only [putAll, Act.put, s1, s2, s3]; done) | (simp only [putAll, Act.put, s1, s2, s3]; rfl)) (hJ2_4_7_9_11 (gb1036) _ ⟨hHeld, (kx BK1024), (kx BK1026), (kx BK1036), GW1036.out, GE1036.out, NB1024_1036.out, NB1036_1024.out, NB1026_1036.out, NB1036_1026.out, (ky HB)⟩)
                    · skip
                      refine box_step ?hg (N := 12) ?hd (cs := #[.int .i64 0, .int .i64 0]) (t := 62) ?hr ?_; (case hd => rfl); (case hg => rfl); (case hr => first | (go_simp; done) | (go_simp; rfl))
                      intro gb1035 hg w36 hbox hb
                      have BK1035 := Aside0.mk (hbox)
                      have GW1035 := kS HB hg
                      have GE1035 := kS HB hg
                      have NB1024_1035 := kN BK1024 hg
                      have NB1035_1024 := kM BK1024 hg
                      have NB1026_1035 := kN BK1026 hg
                      have NB1035_1026 := kM BK1026 hg
                      have NB1036_1035 := kN BK1036 hg
                      have NB1035_1036 := kM BK1036 hg
                      replace BK1024 := kb BK1024 hb
                      replace BK1026 := kb BK1026 hb
                      replace BK1036 := kb BK1036 hb
                      replace HB := kB HB hb
                      clear hb hbox hg
                      refine hK.out _ _ ⟨kc BK1026 0, kc BK1026 1⟩ (fun hHeld => ?_)
                      clear hK K
                      refine norm_ (a' := ?_) ?_ ?_; rotate_left; focus (show Act.put _ (some 12) _ = _; simp only [Act.put, s1, s2, s3, i64_w, i32_w]; rfl)
                      exact norm_ (by first | (simp only [putAll, Act.put, s1, s2, s3]; done) | (simp only [putAll, Act.put, s1, s2, s3]; rfl)) (hJ2_4_7_10_11 (gb1035, gb1036) _ ⟨hHeld, (kx BK1024), (kx BK1026), (kx BK1035), (kx BK1036), GW1035.out, GE1035.out, NB1024_1035.out, NB1035_1024.out, NB1026_1035.out, NB1035_1026.out, NB1036_1035.out, NB1035_1036.out, GW1036.out, GE1036.out, NB1024_1036.out, NB1036_1024.out, NB1026_1036.out, NB1036_1026.out, (ky HB)⟩)
                · skip
                  rintro gb1035 w35 ⟨hS_, h0_, h1_, h2_, h3_, h4_, h5_, h6_, h7_, h8_, h9_⟩
                  clear BK1024 BK1026 HB
                  have BK1024 := A0 h0_; have BK1026 := A0 h1_; have BK1035 := A0 h2_; have GW1035 := A0 h3_; have GE1035 := A0 h4_; have NB1024_1035 := A0 h5_; have NB1035_1024 := A0 h6_; have NB1026_1035 := A0 h7_; have NB1035_1026 := A0 h8_; have HB := A0 h9_
                  clear h0_ h1_ h2_ h3_ h4_ h5_ h6_ h7_ h8_ h9_
                  have hHeld := hS_
                  refine norm_ (a' := ?_) ?_ ?_; rotate_left; focus (simp only [putAll, Act.put, s1, s2, s3]; rfl)
                  refine two_ (i := 9) (j := 11) (Ni := some 52) (Nj := some 13) #[T, T, T, T, T, T, T, T, T, T, T, O, O, O] #[T, T, T, T, T, T, T, T, T, O, T, T, O, O] rfl rfl rfl rfl (two_of HT_.out (by kernel_rfl)) (by decide) (by decide) (fun K hK => ?_) (fun K hK => ?_)
                  · skip
                    refine goes_ Try.func41 (by kernel_rfl) rfl #[.agg #[.int .i64 t1031, .int .i64 t1032], .int .i64 (Int.tmod (wrap64 (a2_1)) 29)] (by rfl) rfl rfl (by (try simp only [List.map_toArray, List.map_cons, List.map_nil]); first | done | rfl | (simp only [List.length_drop, List.length_take]; rfl)) ?_
                    with_reducible refine (grid_Center.calls t1031 t1032 (Int.tmod (wrap64 (a2_1)) 29) t1033 t1034 _ A16.out).mono ?_
                    rintro e w36 ⟨rfl, hb⟩
                    refine ⟨_, rfl, ?_⟩
                    replace BK1024 := kb BK1024 hb
                    replace BK1026 := kb BK1026 hb
                    replace BK1035 := kb BK1035 hb
                    replace HB := kB HB hb
                    (try clear hb); (try clear hb2); (try clear hk); (try clear hi)
                    refine hK.out _ _ ⟨kc BK1026 0, kc BK1026 1⟩ (fun hHeld => ?_)
                    clear hK K
                    refine norm_ (a' := ?_) ?_ ?_; rotate_left; focus (show Act.put _ (some 52) _ = _; simp only [Act.put, s1, s2, s3, i64_w, i32_w]; rfl)
                    exact norm_ (by first | (simp only [putAll, Act.put, s1, s2, s3]; done) | (simp only [putAll, Act.put, s1, s2, s3]; rfl)) (hJ2_4_7_9_10 (gb1035) _ ⟨hHeld, (kx BK1024), (kx BK1026), (kx BK1035), GW1035.out, GE1035.out, NB1024_1035.out, NB1035_1024.out, NB1026_1035.out, NB1035_1026.out, (ky HB)⟩)
                  · skip
                    refine box_step ?hg (N := 13) ?hd (cs := #[.int .i64 0, .int .i64 0]) (t := 62) ?hr ?_; (case hd => rfl); (case hg => rfl); (case hr => first | (go_simp; done) | (go_simp; rfl))
                    intro gb1036 hg w36 hbox hb
                    have BK1036 := Aside0.mk (hbox)
                    have GW1036 := kS HB hg
                    have GE1036 := kS HB hg
                    have NB1024_1036 := kN BK1024 hg
                    have NB1036_1024 := kM BK1024 hg
                    have NB1026_1036 := kN BK1026 hg
                    have NB1036_1026 := kM BK1026 hg
                    have NB1035_1036 := kN BK1035 hg
                    have NB1036_1035 := kM BK1035 hg
                    replace BK1024 := kb BK1024 hb
                    replace BK1026 := kb BK1026 hb
                    replace BK1035 := kb BK1035 hb
                    replace HB := kB HB hb
                    clear hb hbox hg
                    refine hK.out _ _ ⟨kc BK1026 0, kc BK1026 1⟩ (fun hHeld => ?_)
                    clear hK K
                    refine norm_ (a' := ?_) ?_ ?_; rotate_left; focus (show Act.put _ (some 13) _ = _; simp only [Act.put, s1, s2, s3, i64_w, i32_w]; rfl)
                    exact norm_ (by first | (simp only [putAll, Act.put, s1, s2, s3]; done) | (simp only [putAll, Act.put, s1, s2, s3]; rfl)) (hJ2_4_7_10_11 (gb1035, gb1036) _ ⟨hHeld, (kx BK1024), (kx BK1026), (kx BK1035), (kx BK1036), GW1035.out, GE1035.out, NB1024_1035.out, NB1035_1024.out, NB1026_1035.out, NB1035_1026.out, NB1036_1035.out, NB1035_1036.out, GW1036.out, GE1036.out, NB1024_1036.out, NB1036_1024.out, NB1026_1036.out, NB1036_1026.out, (ky HB)⟩)
              · skip
                rintro _ w35 ⟨hS_, h0_, h1_, h2_⟩
                clear BK1024 BK1026 HB
                have BK1024 := A0 h0_; have BK1026 := A0 h1_; have HB := A0 h2_
                clear h0_ h1_ h2_
                have hHeld := hS_
                refine norm_ (a' := ?_) ?_ ?_; rotate_left; focus (simp only [putAll, Act.put, s1, s2, s3]; rfl)
                refine two_ (i := 10) (j := 11) (Ni := some 12) (Nj := some 13) #[T, T, T, T, T, T, T, T, T, T, T, O, O, O] #[T, T, T, T, T, T, T, T, T, T, O, T, O, O] rfl rfl rfl rfl (two_of HT_.out (by kernel_rfl)) (by decide) (by decide) (fun K hK => ?_) (fun K hK => ?_)
                · skip
                  refine box_step ?hg (N := 12) ?hd (cs := #[.int .i64 0, .int .i64 0]) (t := 62) ?hr ?_; (case hd => rfl); (case hg => rfl); (case hr => first | (go_simp; done) | (go_simp; rfl))
                  intro gb1035 hg w36 hbox hb
                  have BK1035 := Aside0.mk (hbox)
                  have GW1035 := kS HB hg
                  have GE1035 := kS HB hg
                  have NB1024_1035 := kN BK1024 hg
                  have NB1035_1024 := kM BK1024 hg
                  have NB1026_1035 := kN BK1026 hg
                  have NB1035_1026 := kM BK1026 hg
                  replace BK1024 := kb BK1024 hb
                  replace BK1026 := kb BK1026 hb
                  replace HB := kB HB hb
                  clear hb hbox hg
                  refine hK.out _ _ ⟨kc BK1026 0, kc BK1026 1⟩ (fun hHeld => ?_)
                  clear hK K
                  refine norm_ (a' := ?_) ?_ ?_; rotate_left; focus (show Act.put _ (some 12) _ = _; simp only [Act.put, s1, s2, s3, i64_w, i32_w]; rfl)
                  exact norm_ (by first | (simp only [putAll, Act.put, s1, s2, s3]; done) | (simp only [putAll, Act.put, s1, s2, s3]; rfl)) (hJ2_4_7_9_10 (gb1035) _ ⟨hHeld, (kx BK1024), (kx BK1026), (kx BK1035), GW1035.out, GE1035.out, NB1024_1035.out, NB1035_1024.out, NB1026_1035.out, NB1035_1026.out, (ky HB)⟩)
                · skip
                  refine box_step ?hg (N := 13) ?hd (cs := #[.int .i64 0, .int .i64 0]) (t := 62) ?hr ?_; (case hd => rfl); (case hg => rfl); (case hr => first | (go_simp; done) | (go_simp; rfl))
                  intro gb1036 hg w36 hbox hb
                  have BK1036 := Aside0.mk (hbox)
                  have GW1036 := kS HB hg
                  have GE1036 := kS HB hg
                  have NB1024_1036 := kN BK1024 hg
                  have NB1036_1024 := kM BK1024 hg
                  have NB1026_1036 := kN BK1026 hg
                  have NB1036_1026 := kM BK1026 hg
                  replace BK1024 := kb BK1024 hb
                  replace BK1026 := kb BK1026 hb
                  replace HB := kB HB hb
                  clear hb hbox hg
                  refine hK.out _ _ ⟨kc BK1026 0, kc BK1026 1⟩ (fun hHeld => ?_)
                  clear hK K
                  refine norm_ (a' := ?_) ?_ ?_; rotate_left; focus (show Act.put _ (some 13) _ = _; simp only [Act.put, s1, s2, s3, i64_w, i32_w]; rfl)
                  exact norm_ (by first | (simp only [putAll, Act.put, s1, s2, s3]; done) | (simp only [putAll, Act.put, s1, s2, s3]; rfl)) (hJ2_4_7_9_11 (gb1036) _ ⟨hHeld, (kx BK1024), (kx BK1026), (kx BK1036), GW1036.out, GE1036.out, NB1024_1036.out, NB1036_1024.out, NB1026_1036.out, NB1036_1026.out, (ky HB)⟩)
            · skip
              rintro ⟨gb1035, gb1036⟩ w36 ⟨hS_, h0_, h1_, h2_, h3_, h4_, h5_, h6_, h7_, h8_, h9_, h10_, h11_, h12_, h13_, h14_, h15_, h16_, h17_, h18_⟩
              clear BK1024 BK1026 HB
              have BK1024 := A0 h0_; have BK1026 := A0 h1_; have BK1035 := A0 h2_; have BK1036 := A0 h3_; have GW1035 := A0 h4_; have GE1035 := A0 h5_; have NB1024_1035 := A0 h6_; have NB1035_1024 := A0 h7_; have NB1026_1035 := A0 h8_; have NB1035_1026 := A0 h9_; have NB1036_1035 := A0 h10_; have NB1035_1036 := A0 h11_; have GW1036 := A0 h12_; have GE1036 := A0 h13_; have NB1024_1036 := A0 h14_; have NB1036_1024 := A0 h15_; have NB1026_1036 := A0 h16_; have NB1036_1026 := A0 h17_; have HB := A0 h18_
              clear h0_ h1_ h2_ h3_ h4_ h5_ h6_ h7_ h8_ h9_ h10_ h11_ h12_ h13_ h14_ h15_ h16_ h17_ h18_
              have hHeld := hS_
              refine norm_ (a' := ?_) ?_ ?_; rotate_left; focus (simp only [putAll, Act.put, s1, s2, s3]; rfl)
              refine one_ (i := 9) (N := some 52) #[T, T, T, T, T, T, T, T, T, T, T, T, O, O] rfl rfl (one_of HT_.out (by kernel_rfl)) (by decide) (fun K hK => ?_)
              refine goes_ Try.func41 (by kernel_rfl) rfl #[.agg #[.int .i64 t1031, .int .i64 t1032], .int .i64 (Int.tmod (wrap64 (a2_1)) 29)] (by rfl) rfl rfl (by (try simp only [List.map_toArray, List.map_cons, List.map_nil]); first | done | rfl | (simp only [List.length_drop, List.length_take]; rfl)) ?_
              with_reducible refine (grid_Center.calls t1031 t1032 (Int.tmod (wrap64 (a2_1)) 29) t1033 t1034 _ A16.out).mono ?_
              rintro e w37 ⟨rfl, hb⟩
              refine ⟨_, rfl, ?_⟩
              replace BK1024 := kb BK1024 hb
              replace BK1026 := kb BK1026 hb
              replace BK1035 := kb BK1035 hb
              replace BK1036 := kb BK1036 hb
              replace HB := kB HB hb
              (try clear hb); (try clear hb2); (try clear hk); (try clear hi)
              refine hK.out _ _ ⟨kc BK1026 0, kc BK1026 1⟩ (fun hHeld => ?_)
              clear hK K
              refine norm_ (a' := ?_) ?_ ?_; rotate_left; focus (show Act.put _ (some 52) _ = _; simp only [Act.put, s1, s2, s3, i64_w, i32_w]; rfl)
              exact norm_ (by first | (simp only [putAll, Act.put, s1, s2, s3]; done) | (simp only [putAll, Act.put, s1, s2, s3]; rfl)) (hJ2_4_7_9_10_11 (gb1035, gb1036) _ ⟨hHeld, (kx BK1024), (kx BK1026), (kx BK1035), (kx BK1036), GW1035.out, GE1035.out, NB1024_1035.out, NB1035_1024.out, NB1026_1035.out, NB1035_1026.out, NB1036_1035.out, NB1035_1036.out, GW1036.out, GE1036.out, NB1024_1036.out, NB1036_1024.out, NB1026_1036.out, NB1036_1026.out, (ky HB)⟩)
          · skip
            rintro gb1036 w36 ⟨hS_, h0_, h1_, h2_, h3_, h4_, h5_, h6_, h7_, h8_, h9_⟩
            clear BK1024 BK1026 HB
            have BK1024 := A0 h0_; have BK1026 := A0 h1_; have BK1036 := A0 h2_; have GW1036 := A0 h3_; have GE1036 := A0 h4_; have NB1024_1036 := A0 h5_; have NB1036_1024 := A0 h6_; have NB1026_1036 := A0 h7_; have NB1036_1026 := A0 h8_; have HB := A0 h9_
            clear h0_ h1_ h2_ h3_ h4_ h5_ h6_ h7_ h8_ h9_
            have hHeld := hS_
            refine norm_ (a' := ?_) ?_ ?_; rotate_left; focus (simp only [putAll, Act.put, s1, s2, s3]; rfl)
            refine one_ (i := 10) (N := some 12) #[T, T, T, T, T, T, T, T, T, T, T, T, O, O] rfl rfl (one_of HT_.out (by kernel_rfl)) (by decide) (fun K hK => ?_)
            refine box_step ?hg (N := 12) ?hd (cs := #[.int .i64 0, .int .i64 0]) (t := 62) ?hr ?_; (case hd => rfl); (case hg => rfl); (case hr => first | (go_simp; done) | (go_simp; rfl))
            intro gb1035 hg w37 hbox hb
            have BK1035 := Aside0.mk (hbox)
            have GW1035 := kS HB hg
            have GE1035 := kS HB hg
            have NB1024_1035 := kN BK1024 hg
            have NB1035_1024 := kM BK1024 hg
            have NB1026_1035 := kN BK1026 hg
            have NB1035_1026 := kM BK1026 hg
            have NB1036_1035 := kN BK1036 hg
            have NB1035_1036 := kM BK1036 hg
            replace BK1024 := kb BK1024 hb
            replace BK1026 := kb BK1026 hb
            replace BK1036 := kb BK1036 hb
            replace HB := kB HB hb
            clear hb hbox hg
            refine hK.out _ _ ⟨kc BK1026 0, kc BK1026 1⟩ (fun hHeld => ?_)
            clear hK K
            refine norm_ (a' := ?_) ?_ ?_; rotate_left; focus (show Act.put _ (some 12) _ = _; simp only [Act.put, s1, s2, s3, i64_w, i32_w]; rfl)
            exact norm_ (by first | (simp only [putAll, Act.put, s1, s2, s3]; done) | (simp only [putAll, Act.put, s1, s2, s3]; rfl)) (hJ2_4_7_9_10_11 (gb1035, gb1036) _ ⟨hHeld, (kx BK1024), (kx BK1026), (kx BK1035), (kx BK1036), GW1035.out, GE1035.out, NB1024_1035.out, NB1035_1024.out, NB1026_1035.out, NB1035_1026.out, NB1036_1035.out, NB1035_1036.out, GW1036.out, GE1036.out, NB1024_1036.out, NB1036_1024.out, NB1026_1036.out, NB1036_1026.out, (ky HB)⟩)
        · skip
          rintro gb1035 w36 ⟨hS_, h0_, h1_, h2_, h3_, h4_, h5_, h6_, h7_, h8_, h9_⟩
          clear BK1024 BK1026 HB
          have BK1024 := A0 h0_; have BK1026 := A0 h1_; have BK1035 := A0 h2_; have GW1035 := A0 h3_; have GE1035 := A0 h4_; have NB1024_1035 := A0 h5_; have NB1035_1024 := A0 h6_; have NB1026_1035 := A0 h7_; have NB1035_1026 := A0 h8_; have HB := A0 h9_
          clear h0_ h1_ h2_ h3_ h4_ h5_ h6_ h7_ h8_ h9_
          have hHeld := hS_
          refine norm_ (a' := ?_) ?_ ?_; rotate_left; focus (simp only [putAll, Act.put, s1, s2, s3]; rfl)
          refine one_ (i := 11) (N := some 13) #[T, T, T, T, T, T, T, T, T, T, T, T, O, O] rfl rfl (one_of HT_.out (by kernel_rfl)) (by decide) (fun K hK => ?_)
          refine box_step ?hg (N := 13) ?hd (cs := #[.int .i64 0, .int .i64 0]) (t := 62) ?hr ?_; (case hd => rfl); (case hg => rfl); (case hr => first | (go_simp; done) | (go_simp; rfl))
          intro gb1036 hg w37 hbox hb
          have BK1036 := Aside0.mk (hbox)
          have GW1036 := kS HB hg
          have GE1036 := kS HB hg
          have NB1024_1036 := kN BK1024 hg
          have NB1036_1024 := kM BK1024 hg
          have NB1026_1036 := kN BK1026 hg
          have NB1036_1026 := kM BK1026 hg
          have NB1035_1036 := kN BK1035 hg
          have NB1036_1035 := kM BK1035 hg
          replace BK1024 := kb BK1024 hb
          replace BK1026 := kb BK1026 hb
          replace BK1035 := kb BK1035 hb
          replace HB := kB HB hb
          clear hb hbox hg
          refine hK.out _ _ ⟨kc BK1026 0, kc BK1026 1⟩ (fun hHeld => ?_)
          clear hK K
          refine norm_ (a' := ?_) ?_ ?_; rotate_left; focus (show Act.put _ (some 13) _ = _; simp only [Act.put, s1, s2, s3, i64_w, i32_w]; rfl)
          exact norm_ (by first | (simp only [putAll, Act.put, s1, s2, s3]; done) | (simp only [putAll, Act.put, s1, s2, s3]; rfl)) (hJ2_4_7_9_10_11 (gb1035, gb1036) _ ⟨hHeld, (kx BK1024), (kx BK1026), (kx BK1035), (kx BK1036), GW1035.out, GE1035.out, NB1024_1035.out, NB1035_1024.out, NB1026_1035.out, NB1035_1026.out, NB1036_1035.out, NB1035_1036.out, GW1036.out, GE1036.out, NB1024_1036.out, NB1036_1024.out, NB1026_1036.out, NB1036_1026.out, (ky HB)⟩)
      rintro ⟨gb1035, gb1036⟩ w37 ⟨hS_, h0_, h1_, h2_, h3_, h4_, h5_, h6_, h7_, h8_, h9_, h10_, h11_, h12_, h13_, h14_, h15_, h16_, h17_, h18_⟩
      clear BK1024 BK1026 HB
      have BK1024 := A0 h0_; have BK1026 := A0 h1_; have BK1035 := A0 h2_; have BK1036 := A0 h3_; have GW1035 := A0 h4_; have GE1035 := A0 h5_; have NB1024_1035 := A0 h6_; have NB1035_1024 := A0 h7_; have NB1026_1035 := A0 h8_; have NB1035_1026 := A0 h9_; have NB1036_1035 := A0 h10_; have NB1035_1036 := A0 h11_; have GW1036 := A0 h12_; have GE1036 := A0 h13_; have NB1024_1036 := A0 h14_; have NB1036_1024 := A0 h15_; have NB1026_1036 := A0 h16_; have NB1036_1026 := A0 h17_; have HB := A0 h18_
      clear h0_ h1_ h2_ h3_ h4_ h5_ h6_ h7_ h8_ h9_ h10_ h11_ h12_ h13_ h14_ h15_ h16_ h17_ h18_
      have hHeld := hS_
      refine norm_ (a' := ?_) ?_ ?_; rotate_left; focus (simp only [putAll, Act.put, s1, s2, s3]; rfl)
      refine one_ (i := 12) (N := none) #[T, T, T, T, T, T, T, T, T, T, T, T, T, O] rfl rfl (one_of HT_.out (by kernel_rfl)) (by decide) (fun K hK => ?_)
      have hs38 : w37.cell? ⟨gb1035, 0, none⟩ = some (.int .i64 0) := kc BK1035 0
      have hfs38 := blk_frozen BK1035.out 0
      have hns38_0 := NB1024_1035.out; have hns38_1 := NB1026_1035.out; have hns38_3 := NB1036_1035.out; have hms38_0 := NB1035_1024.out; have hms38_1 := NB1035_1026.out; have hms38_3 := NB1035_1036.out
      have hs39 : w37.cell? ⟨gb1035, 1, none⟩ = some (.int .i64 0) := kc BK1035 1
      have hfs39 := blk_frozen BK1035.out 1
      have hns39_0 := NB1024_1035.out; have hns39_1 := NB1026_1035.out; have hns39_3 := NB1036_1035.out; have hms39_0 := NB1035_1024.out; have hms39_1 := NB1035_1026.out; have hms39_3 := NB1035_1036.out
      refine skip_ (w1 := ?_) (by rfl) rfl ?_ ?_
      rotate_left
      · go_simp
        rfl
      refine hK.out _ _ ⟨((cell_far (p := ⟨gb1035, _, none⟩) NB1026_1035.out _).trans (((cell_far (p := ⟨gb1035, _, none⟩) NB1026_1035.out _).trans (hHeld.1)))), ((cell_far (p := ⟨gb1035, _, none⟩) NB1026_1035.out _).trans (((cell_far (p := ⟨gb1035, _, none⟩) NB1026_1035.out _).trans (hHeld.2))))⟩ (fun hHeld => ?_)
      clear hK K
      refine one_ (i := 13) (N := none) #[T, T, T, T, T, T, T, T, T, T, T, T, T, T] rfl rfl (one_of HT_.out (by kernel_rfl)) (by decide) (fun K hK => ?_)
      have hs40 : w37.cell? ⟨gb1036, 0, none⟩ = some (.int .i64 0) := kc BK1036 0
      have hfs40 := blk_frozen BK1036.out 0
      have hns40_0 := NB1024_1036.out; have hns40_1 := NB1026_1036.out; have hns40_2 := NB1035_1036.out; have hms40_0 := NB1036_1024.out; have hms40_1 := NB1036_1026.out; have hms40_2 := NB1036_1035.out
      have hs41 : w37.cell? ⟨gb1036, 1, none⟩ = some (.int .i64 0) := kc BK1036 1
      have hfs41 := blk_frozen BK1036.out 1
      have hns41_0 := NB1024_1036.out; have hns41_1 := NB1026_1036.out; have hns41_2 := NB1035_1036.out; have hms41_0 := NB1036_1024.out; have hms41_1 := NB1036_1026.out; have hms41_2 := NB1036_1035.out
      refine skip_ (w1 := ?_) (by rfl) rfl ?_ ?_
      rotate_left
      · go_simp
        rfl
      refine hK.out _ _ ⟨((cell_far (p := ⟨gb1036, _, none⟩) NB1026_1036.out _).trans (((cell_far (p := ⟨gb1036, _, none⟩) NB1026_1036.out _).trans (hHeld.1)))), ((cell_far (p := ⟨gb1036, _, none⟩) NB1026_1036.out _).trans (((cell_far (p := ⟨gb1036, _, none⟩) NB1026_1036.out _).trans (hHeld.2))))⟩ (fun hHeld => ?_)
      clear hK K
      refine done_ (done_of HT_.out (by kernel_rfl)) ?_
      have hnb42 := NB1035_1024.out; have hnc42 := NB1024_1035.out; have hnb43 := NB1035_1026.out; have hnc43 := NB1026_1035.out; have hnb44 := NB1035_1036.out; have hnc44 := NB1036_1035.out
      have hcz45_0 : w37.cell? ⟨gb1035, 0, none⟩ = some (.int .i64 0) := kc BK1035 0
      have hcz45_1 : w37.cell? ⟨gb1035, 1, none⟩ = some (.int .i64 0) := kc BK1035 1
      have hfz45_0 := blk_frozen BK1035.out 0
      have hfz45_1 := blk_frozen BK1035.out 1
      have hnb46 := NB1036_1024.out; have hnc46 := NB1024_1036.out; have hnb47 := NB1036_1026.out; have hnc47 := NB1026_1036.out
      have hcz48_0 : w37.cell? ⟨gb1036, 0, none⟩ = some (.int .i64 0) := kc BK1036 0
      have hcz48_1 : w37.cell? ⟨gb1036, 1, none⟩ = some (.int .i64 0) := kc BK1036 1
      have hfz48_0 := blk_frozen BK1036.out 0
      have hfz48_1 := blk_frozen BK1036.out 1
      try go_wp2_with (first | ((with_reducible refine gate_callee (f := 38) rfl ?_); refine goesL_ (some 74) rfl rfl Try.func38 (by kernel_rfl) rfl #[] rfl (by (try simp only [List.map_toArray, List.map_cons, List.map_nil]); first | done | rfl | (simp only [List.length_drop, List.length_take]; rfl)) ?_; (with_reducible refine (cobweblaw03_alive.calls kj3  true _ A20.out).mono ?_); rintro e w49 ⟨rfl, hb⟩; refine ⟨_, rfl, ?_⟩; have n0_ := kb BK1024 hb; have n1_ := kb BK1026 hb; have n2_ := Aside0.mk (blk_below (g := gb1035) (o := .cells #[.int .i64 t1029, .int .i64 t1030] 62 (0, 0)) (by (with_reducible repeat (first | refine blk_drewN ?_ _ | refine blk_drew ?_ | refine blk_alloc ?_ _)); refine blk_far ?_ NB1035_1036.out _; (with_reducible repeat (first | refine blk_drewN ?_ _ | refine blk_drew ?_ | refine blk_alloc ?_ _)); refine blk_far ?_ NB1035_1036.out _; (with_reducible repeat (first | refine blk_drewN ?_ _ | refine blk_drew ?_ | refine blk_alloc ?_ _)); refine blk_put (cs := #[.int .i64 t1029, .int .i64 0]) ?_ 1 _ rfl; (with_reducible repeat (first | refine blk_drewN ?_ _ | refine blk_drew ?_ | refine blk_alloc ?_ _)); refine blk_put (cs := #[.int .i64 0, .int .i64 0]) ?_ 0 _ rfl; (with_reducible repeat (first | refine blk_drewN ?_ _ | refine blk_drew ?_ | refine blk_alloc ?_ _)); exact BK1035.out) hb); have n3_ := Aside0.mk (blk_below (g := gb1036) (o := .cells #[.int .i64 t1033, .int .i64 t1034] 62 (0, 0)) (by (with_reducible repeat (first | refine blk_drewN ?_ _ | refine blk_drew ?_ | refine blk_alloc ?_ _)); refine blk_put (cs := #[.int .i64 t1033, .int .i64 0]) ?_ 1 _ rfl; (with_reducible repeat (first | refine blk_drewN ?_ _ | refine blk_drew ?_ | refine blk_alloc ?_ _)); refine blk_put (cs := #[.int .i64 0, .int .i64 0]) ?_ 0 _ rfl; (with_reducible repeat (first | refine blk_drewN ?_ _ | refine blk_drew ?_ | refine blk_alloc ?_ _)); refine blk_far ?_ NB1036_1035.out _; (with_reducible repeat (first | refine blk_drewN ?_ _ | refine blk_drew ?_ | refine blk_alloc ?_ _)); refine blk_far ?_ NB1036_1035.out _; (with_reducible repeat (first | refine blk_drewN ?_ _ | refine blk_drew ?_ | refine blk_alloc ?_ _)); exact BK1036.out) hb); have n4_ := kB HB hb; clear BK1024; clear BK1026; clear BK1035; clear BK1036; clear HB; have BK1024 := n0_; have BK1026 := n1_; have BK1035 := n2_; have BK1036 := n3_; have HB := n4_; clear n0_ n1_ n2_ n3_ n4_; (try clear hb); (try clear hb2); (try clear hk); (try clear hi); have hcz50_0 : w49.cell? ⟨gb1026, 0, none⟩ = some (.int .i64 a0) := kc BK1026 0; have hcz50_1 : w49.cell? ⟨gb1026, 1, none⟩ = some (.int .i64 a1) := kc BK1026 1; have hfz50_0 := blk_frozen BK1026.out 0; have hfz50_1 := blk_frozen BK1026.out 1) | (go_at_call 37; (with_reducible refine (grid_Of.calls a0 a1 28 t1038 t1039 _ A22.out).mono ?_); rintro e w51 ⟨rfl, hb⟩; replace BK1024 := kb BK1024 hb; replace BK1026 := kb BK1026 hb; replace BK1035 := kb BK1035 hb; replace BK1036 := kb BK1036 hb; replace HB := kB HB hb; (try clear hb); (try clear hb2); (try clear hk); (try clear hi)) | (go_at_call 45; (with_reducible refine (cobwebref03_Size.calls kj3 (Int.tmod (wrap64 (a2_0)) 29) t1040 _ A24.out).mono ?_); rintro e w' ⟨rfl, ⟨nd, rfl⟩⟩) | (go_at_call 45; (with_reducible refine (cobwebref03_Size.calls kj3 (Int.tmod (wrap64 (a2_1)) 29) t1041 _ A25.out).mono ?_); rintro e w' ⟨rfl, ⟨nd, rfl⟩⟩))
      go_ret
      exact ⟨by first | rfl | (simp [errW_none, errW_some] <;> rfl) | (simp only [← hji17, ← hji18, ← hji19]; first | rfl | (simp [errW_none, errW_some] <;> rfl)) | (simp [*, errW_none, errW_some] <;> rfl), ky HB⟩
end Go.Proofs.Ytpjbniihdndlmab.Q
