-- Printed by wip/pp.sh (a session's own turning of the kit's print) for this seat.
import Derived.Test.YtpjbniihdndlmaaQx0
import Derived.Test.YtpjbniihdndlmaaQx14
import Derived.Test.YtpjbniihdndlmaaQx16
import Derived.Test.YtpjbniihdndlmaaQx17
namespace Go.Proofs.Ytpjbniihdndlmaa.Q
open Go.RowKit Go.Proofs.YtpjbniihdndlmaaW.PrintWords Go.Proofs.YtpjbniihdndlmaaW.PrintLast Go.Proofs.YtpjbniihdndlmaaW.PrintMore
open Go.Proofs.Ytpjbniihdndlmaa.H
attribute [local go_sem] hq_add64 hq_sub64 hq_not64 add64c_nn sub64c_nn sub64c_le
attribute [local go_sem] max2_int min2_int max_two min_two max_three min_three max_four min_four   -- for this text's walks alone
set_option linter.unusedVariables false
set_option linter.unusedSimpArgs false

/-! ### cobwebref01_Add: function 45 -/
def cobwebref01_Add.f (k : Nat) (a0_0 : Bool) (l0_1 : List Int) (a1_0 : Bool) (l1_1 : List Int) : Option (Bool × List Int) := if (a0_0 == a1_0) = true then ((cobwebref01_plus.f k l0_1 l1_1).bind fun t353 => ((cobwebref01_trim.f k a0_0 t353).bind fun bt356 => (some (bt356.1, bt356.2)))) else ((cobwebref01_size.f k l0_1 l1_1).bind fun t360 => (if t360 ≥ 0 then ((cobwebref01_minus.f k l0_1 l1_1).bind fun t361 => ((cobwebref01_trim.f k a0_0 t361).bind fun bt364 => (some (bt364.1, bt364.2)))) else ((cobwebref01_minus.f k l1_1 l0_1).bind fun t368 => ((cobwebref01_trim.f k a1_0 t368).bind fun bt371 => (some (bt371.1, bt371.2))))))
theorem cobwebref01_Add.mono : ∀ a0 a1 a2 a3 k, LeO (cobwebref01_Add.f k a0 a1 a2 a3) (cobwebref01_Add.f (k + 1) a0 a1 a2 a3) := by
  intro a0 a1 a2 a3 k
  unfold cobwebref01_Add.f
  repeat' first
      | (with_reducible exact cobwebref01_minus.mono _ _ _)
      | (with_reducible exact cobwebref01_plus.mono _ _ _)
      | (with_reducible exact cobwebref01_size.mono _ _ _)
      | (with_reducible exact cobwebref01_trim.mono _ _ _)
      | (with_reducible exact LeO.refl _)
      | (with_reducible exact LeO.none _)
      | (with_reducible refine LeO.ite ?_ ?_)
      | (with_reducible refine LeO.bind ?_ (fun _ => ?_))
      | exact cobwebref01_minus.mono _ _ _
      | exact cobwebref01_plus.mono _ _ _
      | exact cobwebref01_size.mono _ _ _
      | exact cobwebref01_trim.mono _ _ _
      | exact LeO.none _
      | refine LeO.ite ?_ ?_
      | refine LeO.bind ?_ (fun _ => ?_)
def cobwebref01_Add.T2 : Bool × List (List Nat × List Nat) := (true, [([], []), ([0], [0]), ([], []), ([2], [2]), ([], []), ([4], [4]), ([3, 5], [3, 5]), ([1, 6], [1, 6]), ([7, 6], [7]), ([8, 8, 0, 1, 2, 3, 4, 5, 6, 7, 8], [8])])
def cobwebref01_Add.B2 : List Nat := [0, 1, 0, 4, 0, 16, 60, 127, 255, 511]
theorem cobwebref01_Add.tab2 : rtab .any (opsOf Try.f45 2) = cobwebref01_Add.T2 := by kernel_rfl
theorem cobwebref01_Add.bits2 : waitsOk cobwebref01_Add.T2.2 cobwebref01_Add.B2 = true := by kernel_rfl
def cobwebref01_Add.T4 : Bool × List (List Nat × List Nat) := (true, [([], []), ([0], [0]), ([], []), ([2], [2]), ([], []), ([4], [4]), ([3, 5], [3, 5]), ([1, 6], [1, 6]), ([7, 6], [7]), ([8, 8, 0, 1, 2, 3, 4, 5, 6, 7, 8], [8])])
def cobwebref01_Add.B4 : List Nat := [0, 1, 0, 4, 0, 16, 60, 127, 255, 511]
theorem cobwebref01_Add.tab4 : rtab .any (opsOf Try.f45 4) = cobwebref01_Add.T4 := by kernel_rfl
theorem cobwebref01_Add.bits4 : waitsOk cobwebref01_Add.T4.2 cobwebref01_Add.B4 = true := by kernel_rfl
def cobwebref01_Add.T5 : Bool × List (List Nat × List Nat) := (true, [([], []), ([0], [0]), ([], []), ([2], [2]), ([], []), ([4], [4]), ([3, 5], [3, 5]), ([1, 6], [1, 6]), ([7, 6], [7]), ([8, 8, 0, 1, 2, 3, 4, 5, 6, 7, 8], [8])])
def cobwebref01_Add.B5 : List Nat := [0, 1, 0, 4, 0, 16, 60, 127, 255, 511]
theorem cobwebref01_Add.tab5 : rtab .any (opsOf Try.f45 5) = cobwebref01_Add.T5 := by kernel_rfl
theorem cobwebref01_Add.bits5 : waitsOk cobwebref01_Add.T5.2 cobwebref01_Add.B5 = true := by kernel_rfl
set_option maxHeartbeats 8000000 in
set_option maxRecDepth 100000 in
theorem cobwebref01_Add.calls (k : Nat) (a0_0 : Bool) (A0_1 : Option Addr) (c0_1 : Nat) (l0_1 : List Int) (a1_0 : Bool) (A1_1 : Option Addr) (c1_1 : Nat) (l1_1 : List Int) (r1 : Bool) (r2 : List Int) (w : World) (hr0_1 : Kd.C (Kd.int .i64) w A0_1 l0_1.length l0_1) (hc0_1 : l0_1.length ≤ c0_1) (hr1_1 : Kd.C (Kd.int .i64) w A1_1 l1_1.length l1_1) (hc1_1 : l1_1.length ≤ c1_1) (h : cobwebref01_Add.f k a0_0 l0_1 a1_0 l1_1 = some (r1, r2)) :
    Calls Try.prog 45 #[.agg #[.bool a0_0, .slice A0_1 l0_1.length c0_1], .agg #[.bool a1_0, .slice A1_1 l1_1.length c1_1]] w fun e w' => ∃ v1_ : Value, e = .returned (.agg #[.bool r1, v1_]) ∧ Kd.V (Kd.int .i64) 3 w' w.heap.size (fun k_ => (w.heap.size ≤ k_)) v1_ r2 ∧ Below w.heap.size w w' := by
  have hu32 := Try.underlying32
  have HR0_1 := Aside0.mk hr0_1
  have HC0_1 := Aside0.mk hc0_1
  clear hr0_1 hc0_1
  have HR1_1 := Aside0.mk hr1_1
  have HC1_1 := Aside0.mk hc1_1
  clear hr1_1 hc1_1
  have HB := Aside0.mk (Below.refl w.heap.size w)
  have H : (if (a0_0 == a1_0) = true then ((cobwebref01_plus.f k l0_1 l1_1).bind fun t353 => ((cobwebref01_trim.f k a0_0 t353).bind fun bt356 => (some (bt356.1, bt356.2)))) else ((cobwebref01_size.f k l0_1 l1_1).bind fun t360 => (if t360 ≥ 0 then ((cobwebref01_minus.f k l0_1 l1_1).bind fun t361 => ((cobwebref01_trim.f k a0_0 t361).bind fun bt364 => (some (bt364.1, bt364.2)))) else ((cobwebref01_minus.f k l1_1 l0_1).bind fun t368 => ((cobwebref01_trim.f k a1_0 t368).bind fun bt371 => (some (bt371.1, bt371.2))))))) = some (r1, r2) := h
  clear h
  by_cases c3 : (a0_0 == a1_0) = true
  · rw [if_pos c3] at H
    have c3b0 : (a0_0 == a1_0) = true := c3
    (try (have c3b1 : decide (a0_0 = a1_0) = true := by simpa using c3))
    (try (have c3b2 : (a0_0 == a1_0) = true := by simpa using c3))
    clear c3
    replace H := Option.bind_eq_some_iff.mp H
    obtain ⟨t353, A40, H⟩ := H
    replace H : ((cobwebref01_trim.f k a0_0 t353).bind fun bt356 => (some (bt356.1, bt356.2))) = some (r1, r2) := H
    have A4 := Aside0.mk A40
    clear A40
    replace H := Option.bind_eq_some_iff.mp H
    obtain ⟨⟨t356, t357⟩, A50, H⟩ := H
    replace H : (some (t356, t357)) = some (r1, r2) := H
    have A5 := Aside0.mk A50
    clear A50
    simp only [Option.some.injEq, Prod.mk.injEq] at H
    obtain ⟨rfl, rfl⟩ := H
    go_enter Try.func45, Try.ntmps45
    try go_wp2_with (first | ((with_reducible refine gate_dst (N := 2) rfl ?_); refine box_event ?hg (N := 2) ?hd (cs := #[.bool a0_0, .slice A0_1 l0_1.length c0_1]) (t := 32) ?hr ?_; (case hd => rfl); (case hg => rfl); (case hr => first | (go_simp; done) | (go_simp; rfl)); intro gb350 hg w6 hbox hb; have BK350 := Aside0.mk (hbox); have GW350 := kS HB hg; have GE350 := kS HB hg; replace HB := kB HB hb; clear hb hbox hg) | ((with_reducible refine gate_dst (N := 3) rfl ?_); refine box_event ?hg (N := 3) ?hd (cs := #[.bool a1_0, .slice A1_1 l1_1.length c1_1]) (t := 32) ?hr ?_; (case hd => rfl); (case hg => rfl); (case hr => first | (go_simp; done) | (go_simp; rfl)); intro gb351 hg w7 hbox hb; have BK351 := Aside0.mk (hbox); have GW351 := kS HB hg; have GE351 := kS HB hg; have NB350_351 := kN BK350 hg; have NB351_350 := kM BK350 hg; replace BK350 := kb BK350 hb; replace HB := kB HB hb; clear hb hbox hg) | ((with_reducible refine gate_dst (N := 4) rfl ?_); refine box_event ?hg (N := 4) ?hd (cs := #[.bool false, .slice none 0 0]) (t := 32) ?hr ?_; (case hd => rfl); (case hg => rfl); (case hr => first | (go_simp; done) | (go_simp; rfl)); intro gb352 hg w8 hbox hb; have BK352 := Aside0.mk (hbox); have GW352 := kS HB hg; have GE352 := kS HB hg; have NB350_352 := kN BK350 hg; have NB352_350 := kM BK350 hg; have NB351_352 := kN BK351 hg; have NB352_351 := kM BK351 hg; replace BK350 := kb BK350 hb; replace BK351 := kb BK351 hb; replace HB := kB HB hb; clear hb hbox hg; have hnb9 := NB350_351.out; have hnc9 := NB351_350.out; have hnb10 := NB350_352.out; have hnc10 := NB352_350.out; have hcz11_0 : w8.cell? ⟨gb350, 0, none⟩ = some (.bool a0_0) := kc BK350 0; have hcz11_1 : w8.cell? ⟨gb350, 1, none⟩ = some (.slice A0_1 l0_1.length c0_1) := kc BK350 1; have hfz11_0 := blk_frozen BK350.out 0; have hfz11_1 := blk_frozen BK350.out 1; have hnb12 := NB351_352.out; have hnc12 := NB352_351.out; have hcz13_0 : w8.cell? ⟨gb351, 0, none⟩ = some (.bool a1_0) := kc BK351 0; have hcz13_1 : w8.cell? ⟨gb351, 1, none⟩ = some (.slice A1_1 l1_1.length c1_1) := kc BK351 1; have hfz13_0 := blk_frozen BK351.out 0; have hfz13_1 := blk_frozen BK351.out 1))
    replace BK350 := Aside0.mk (blk_drew BK350.out)
    replace BK351 := Aside0.mk (blk_drew BK351.out)
    replace BK352 := Aside0.mk (blk_drew BK352.out)
    replace HB := Aside0.mk (below_drew1 HB.out)
    refine start_ (n := 10) (S := fun w' => w'.cell? ⟨gb350, 0, none⟩ = some (.bool a0_0) ∧ w'.cell? ⟨gb350, 1, none⟩ = some (.slice A0_1 l0_1.length c0_1) ∧ w'.cell? ⟨gb351, 0, none⟩ = some (.bool a1_0) ∧ w'.cell? ⟨gb351, 1, none⟩ = some (.slice A1_1 l1_1.length c1_1)) (ds := []) #[O, O, O, O, O, O, O, O, O, O] (by kernel_rfl) rfl rfl ⟨kc BK350 0, kc BK350 1, kc BK351 0, kc BK351 1⟩ (fun hHeld => ?_); refine with_tabW cobwebref01_Add.tab2 cobwebref01_Add.bits2 (fun HT_ HW_ => ?_)
    generalize w8.drew = w14 at BK350 BK351 BK352 HB hHeld ⊢
    refine pure_ (i := 0) (N := some 10) (v := ?_) (a' := ?_) #[T, O, O, O, O, O, O, O, O, O] rfl rfl (any_of HT_.out (by kernel_rfl)) (fun _ _ _ h => h) (Or.inl ⟨by rfl, ?_⟩) ?_ ?_; rotate_left; focus (intro w'; go_simp; with_reducible rfl)
    rotate_left; focus (simp only [Act.put, List.setIfInBounds_toArray, List.set_cons_zero, List.set_cons_succ, i64_w, i32_w]; rfl)
    refine pure_ (i := 2) (N := some 12) (v := ?_) (a' := ?_) #[T, O, T, O, O, O, O, O, O, O] rfl rfl (any_of HT_.out (by kernel_rfl)) (fun _ _ _ h => h) (Or.inl ⟨by rfl, ?_⟩) ?_ ?_; rotate_left; focus (intro w'; go_simp; with_reducible rfl)
    rotate_left; focus (simp only [Act.put, List.setIfInBounds_toArray, List.set_cons_zero, List.set_cons_succ, i64_w, i32_w]; rfl)
    refine pure_ (i := 4) (N := some 14) (v := ?_) (a' := ?_) #[T, O, T, O, T, O, O, O, O, O] rfl rfl (any_of HT_.out (by kernel_rfl)) (fun _ _ _ h => h) (Or.inl ⟨by rfl, ?_⟩) ?_ ?_; rotate_left; focus (intro w'; go_simp; with_reducible rfl)
    rotate_left; focus (simp only [Act.put, List.setIfInBounds_toArray, List.set_cons_zero, List.set_cons_succ, i64_w, i32_w]; rfl)
    refine take_ (i := 1) (N := some 11) (v := ?_) (a' := ?_) #[T, T, T, O, T, O, O, O, O, O] rfl rfl (take_ofW HT_.out HW_.out (by kernel_rfl)) (fun _ _ _ h => h) (Or.inl ⟨by rfl, ?_⟩) hHeld ?_ ?_; rotate_left; focus (rintro w' ⟨s0, s1, s2, s3⟩; go_simp; with_reducible rfl)
    rotate_left; focus (simp only [Act.put, List.setIfInBounds_toArray, List.set_cons_zero, List.set_cons_succ, i64_w, i32_w]; rfl)
    refine take_ (i := 3) (N := some 13) (v := ?_) (a' := ?_) #[T, T, T, T, T, O, O, O, O, O] rfl rfl (take_ofW HT_.out HW_.out (by kernel_rfl)) (fun _ _ _ h => h) (Or.inl ⟨by rfl, ?_⟩) hHeld ?_ ?_; rotate_left; focus (rintro w' ⟨s0, s1, s2, s3⟩; go_simp; with_reducible rfl)
    rotate_left; focus (simp only [Act.put, List.setIfInBounds_toArray, List.set_cons_zero, List.set_cons_succ, i64_w, i32_w]; rfl)
    refine take_ (i := 5) (N := some 15) (v := ?_) (a' := ?_) #[T, T, T, T, T, T, O, O, O, O] rfl rfl (take_ofW HT_.out HW_.out (by kernel_rfl)) (fun _ _ _ h => h) (Or.inl ⟨by rfl, ?_⟩) hHeld ?_ ?_; rotate_left; focus (rintro w' ⟨s0, s1, s2, s3⟩; go_simp; with_reducible rfl)
    rotate_left; focus (simp only [Act.put, List.setIfInBounds_toArray, List.set_cons_zero, List.set_cons_succ, i64_w, i32_w]; rfl)
    refine one_ (i := 6) (N := some 16) #[T, T, T, T, T, T, T, O, O, O] rfl rfl (one_of HT_.out (by kernel_rfl)) (by decide) (fun K hK => ?_)
    refine goes_ Try.func77 (by kernel_rfl) rfl #[.slice A0_1 l0_1.length c0_1, .slice A1_1 l1_1.length c1_1] (by rfl) rfl rfl (by (try simp only [List.map_toArray, List.map_cons, List.map_nil]); first | done | rfl | (simp only [List.length_drop, List.length_take]; rfl)) ?_
    with_reducible refine (cobwebref01_plus.calls k _ _ l0_1 _ _ l1_1 t353 _ ?side1 ?side2 ?side3 ?side4 A4.out).mono ?_
    (case side1 => repeat (first | exact (Kd.C_below HR0_1.out HB.out) | (with_reducible refine Kd.C_alloc ?_ _) | (with_reducible refine Kd.C_drewN ?_ _) | (with_reducible refine Kd.C_drew ?_)))
    (case side2 => exact HC0_1.out)
    (case side3 => repeat (first | exact (Kd.C_below HR1_1.out HB.out) | (with_reducible refine Kd.C_alloc ?_ _) | (with_reducible refine Kd.C_drewN ?_ _) | (with_reducible refine Kd.C_drew ?_)))
    (case side4 => exact HC1_1.out)
    rintro e w15 ⟨v354, rfl, ho0, hb⟩
    refine ⟨_, rfl, ?_⟩
    have HO355 := Aside0.mk (Kd.R_lower (Kd.R_newM (M := fun k_ => (w.heap.size ≤ k_)) ho0 (below_size (ky HB)) (fun k_ h_ => h_)) (below_size (ky HB)))
    replace BK350 := kb BK350 hb
    replace BK351 := kb BK351 hb
    replace BK352 := kb BK352 hb
    replace HB := kB HB hb
    (try clear hb)
    (try clear hb2)
    (try clear hk)
    (try clear hi)
    (try clear ho0)
    obtain ⟨Ao16, co16, eo16⟩ := Kd.R_slice HO355.out
    (first | subst eo16 | (injection eo16 with f1_ f2_ f3_; have f4_ := f1_.symm; have f5_ := f3_.symm; clear f1_ f2_ f3_; subst f4_; subst f5_))
    refine hK.out _ _ ⟨kc BK350 0, kc BK350 1, kc BK351 0, kc BK351 1⟩ (fun hHeld => ?_)
    clear hK K
    refine norm_ (a' := ?_) ?_ ?_
    rotate_left
    · show Act.put _ (some 16) _ = _
      simp only [Act.put, List.setIfInBounds_toArray, List.set_cons_zero, List.set_cons_succ, i64_w, i32_w]
      rfl
    refine pure_ (i := 7) (N := some 17) (v := ?_) (a' := ?_) #[T, T, T, T, T, T, T, T, O, O] rfl rfl (any_of HT_.out (by kernel_rfl)) (fun _ _ _ h => h) (Or.inl ⟨by rfl, ?_⟩) ?_ ?_; rotate_left; focus (intro w'; go_simp; with_reducible rfl)
    rotate_left; focus (simp only [Act.put, List.setIfInBounds_toArray, List.set_cons_zero, List.set_cons_succ, i64_w, i32_w]; rfl)
    refine one_ (i := 8) (N := some 18) #[T, T, T, T, T, T, T, T, T, O] rfl rfl (one_of HT_.out (by kernel_rfl)) (by decide) (fun K hK => ?_)
    refine goes_ Try.func57 (by kernel_rfl) rfl #[.agg #[.bool a0_0, .slice Ao16 t353.length co16]] (by rfl) rfl rfl (by (try simp only [List.map_toArray, List.map_cons, List.map_nil]); first | done | rfl | (simp only [List.length_drop, List.length_take]; rfl)) ?_
    with_reducible refine (cobwebref01_trim.calls k a0_0 (fun k_ => some k_ = (.slice Ao16 t353.length co16 : Value).ownBlock) _ _ t353 t356 t357 _ ?side1 A5.out).mono ?_
    (case side1 => exact Kd.R_V (Kd.R_tight rfl (Kd.R_types (Kd.R_types (Kd.R_types (HO355.out) BK350.out (by decide)) BK351.out (by decide)) BK352.out (by decide))))
    rintro e w17 ⟨v358, rfl, ho0, hb⟩
    refine ⟨_, rfl, ?_⟩
    have HO359 := Aside0.mk (Kd.V_lower (Kd.V_mono (ok' := fun k_ => (w.heap.size ≤ k_) ∧ k_ ≠ gb350 ∧ k_ ≠ gb351 ∧ k_ ≠ gb352) ho0 (fun k_ hk_ => ⟨Or.elim hk_ (fun hs_ => ((Kd.R_types (Kd.R_types (Kd.R_types (HO355.out) BK350.out (by decide)) BK351.out (by decide)) BK352.out (by decide)).1 k_ hs_.symm).1.1.1.1) (fun hn_ => (Nat.le_trans (below_size (ky HB)) hn_)), Or.elim hk_ (fun hs_ => ((Kd.R_types (Kd.R_types (Kd.R_types (HO355.out) BK350.out (by decide)) BK351.out (by decide)) BK352.out (by decide)).1 k_ hs_.symm).1.1.2) (fun hn_ => (Kd.freshB (g := gb350) (o := .cells #[.bool a0_0, .slice A0_1 l0_1.length c0_1] 32 (0, 0)) (kx BK350) k_ hn_)), Or.elim hk_ (fun hs_ => ((Kd.R_types (Kd.R_types (Kd.R_types (HO355.out) BK350.out (by decide)) BK351.out (by decide)) BK352.out (by decide)).1 k_ hs_.symm).1.2) (fun hn_ => (Kd.freshB (g := gb351) (o := .cells #[.bool a1_0, .slice A1_1 l1_1.length c1_1] 32 (0, 0)) (kx BK351) k_ hn_)), Or.elim hk_ (fun hs_ => ((Kd.R_types (Kd.R_types (Kd.R_types (HO355.out) BK350.out (by decide)) BK351.out (by decide)) BK352.out (by decide)).1 k_ hs_.symm).2) (fun hn_ => (Kd.freshB (g := gb352) (o := .cells #[.bool false, .slice none 0 0] 32 (0, 0)) (kx BK352) k_ hn_))⟩)) (below_size (ky HB)))
    replace HO355 := kR HO355 hb
    replace BK350 := kb BK350 hb
    replace BK351 := kb BK351 hb
    replace BK352 := kb BK352 hb
    replace HB := kB HB hb
    (try clear hb)
    (try clear hb2)
    (try clear hk)
    (try clear hi)
    (try clear ho0)
    obtain ⟨Ao19, co19, eo19⟩ := Kd.V_slice HO359.out
    (first | subst eo19 | (injection eo19 with f1_ f2_ f3_; have f4_ := f1_.symm; have f5_ := f3_.symm; clear f1_ f2_ f3_; subst f4_; subst f5_))
    refine hK.out _ _ ⟨kc BK350 0, kc BK350 1, kc BK351 0, kc BK351 1⟩ (fun hHeld => ?_)
    clear hK K
    refine norm_ (a' := ?_) ?_ ?_
    rotate_left
    · show Act.put _ (some 18) _ = _
      simp only [Act.put, List.setIfInBounds_toArray, List.set_cons_zero, List.set_cons_succ, i64_w, i32_w]
      rfl
    refine one_ (i := 9) (N := none) #[T, T, T, T, T, T, T, T, T, T] rfl rfl (one_of HT_.out (by kernel_rfl)) (by decide) (fun K hK => ?_)
    have hs18 : w17.cell? ⟨gb352, 0, none⟩ = some (.bool false) := kc BK352 0
    have hfs18 := blk_frozen BK352.out 0
    have hns18_0 := NB350_352.out; have hns18_1 := NB351_352.out; have hms18_0 := NB352_350.out; have hms18_1 := NB352_351.out
    have hs20 : w17.cell? ⟨gb352, 1, none⟩ = some (.slice none 0 0) := kc BK352 1
    have hfs20 := blk_frozen BK352.out 1
    have hns20_0 := NB350_352.out; have hns20_1 := NB351_352.out; have hms20_0 := NB352_350.out; have hms20_1 := NB352_351.out
    refine skip_ (w1 := ?_) (by rfl) rfl ?_ ?_
    rotate_left
    · go_simp
      rfl
    refine hK.out _ _ ⟨((cell_far (p := ⟨gb352, _, none⟩) NB350_352.out _).trans (((cell_far (p := ⟨gb352, _, none⟩) NB350_352.out _).trans (hHeld.1)))), ((cell_far (p := ⟨gb352, _, none⟩) NB350_352.out _).trans (((cell_far (p := ⟨gb352, _, none⟩) NB350_352.out _).trans (hHeld.2.1)))), ((cell_far (p := ⟨gb352, _, none⟩) NB351_352.out _).trans (((cell_far (p := ⟨gb352, _, none⟩) NB351_352.out _).trans (hHeld.2.2.1)))), ((cell_far (p := ⟨gb352, _, none⟩) NB351_352.out _).trans (((cell_far (p := ⟨gb352, _, none⟩) NB351_352.out _).trans (hHeld.2.2.2))))⟩ (fun hHeld => ?_)
    clear hK K
    refine done_ (done_of HT_.out (by kernel_rfl)) ?_
    try go_wp2
    refine bodyPost_ret (results_cell_row rfl _ _ gb352 32 #[.bool t356, .slice Ao19 t357.length co19] (0, 0) _ rfl (by (with_reducible repeat (first | refine blk_drewN ?_ _ | refine blk_drew ?_ | refine blk_alloc ?_ _)); refine blk_put (cs := #[.bool t356, .slice none 0 0]) ?_ 1 _ rfl; (with_reducible repeat (first | refine blk_drewN ?_ _ | refine blk_drew ?_ | refine blk_alloc ?_ _)); refine blk_put (cs := #[.bool false, .slice none 0 0]) ?_ 0 _ rfl; (with_reducible repeat (first | refine blk_drewN ?_ _ | refine blk_drew ?_ | refine blk_alloc ?_ _)); exact BK352.out) Try.underlying32 rfl (by kernel_rfl)) rfl ?_
    exact ⟨_, by first | rfl | (simp [errW_none, errW_some] <;> rfl) | (simp [*, errW_none, errW_some] <;> rfl), by (with_reducible repeat (first | apply Kd.V_alloc | apply Kd.V_drewN | apply Kd.V_drew)); exact Kd.V_mono (Kd.V_far (p := ⟨gb352, 1, none⟩) (Kd.V_far (p := ⟨gb352, 0, none⟩) (Kd.V_mono HO359.out (fun k_ hk => (⟨hk, hk.2.2.2⟩ : _ ∧ k_ ≠ gb352))) (fun _ hk => hk.2) (.bool t356)) (fun _ hk => hk.2) (.slice Ao19 t357.length co19)) (fun _ hk => hk.1.1), ky HB⟩
  rw [if_neg c3] at H
  have c3b0 : (a0_0 == a1_0) = false := by simpa using c3
  (try (have c3b1 : decide (a0_0 = a1_0) = false := by simpa using c3))
  (try (have c3b2 : (a0_0 == a1_0) = false := by simpa using c3))
  (try (have c3b3 : ¬ (a0_0 = a1_0) := by simpa using c3))
  clear c3
  replace H := Option.bind_eq_some_iff.mp H
  obtain ⟨t360, A210, H⟩ := H
  replace H : (if t360 ≥ 0 then ((cobwebref01_minus.f k l0_1 l1_1).bind fun t361 => ((cobwebref01_trim.f k a0_0 t361).bind fun bt364 => (some (bt364.1, bt364.2)))) else ((cobwebref01_minus.f k l1_1 l0_1).bind fun t368 => ((cobwebref01_trim.f k a1_0 t368).bind fun bt371 => (some (bt371.1, bt371.2))))) = some (r1, r2) := H
  have A21 := Aside0.mk A210
  clear A210
  by_cases c22 : t360 ≥ 0
  · rw [if_pos c22] at H
    have c22b0 : decide (0 ≤ t360) = true := decide_eq_true c22
    clear c22
    replace H := Option.bind_eq_some_iff.mp H
    obtain ⟨t361, A230, H⟩ := H
    replace H : ((cobwebref01_trim.f k a0_0 t361).bind fun bt364 => (some (bt364.1, bt364.2))) = some (r1, r2) := H
    have A23 := Aside0.mk A230
    clear A230
    replace H := Option.bind_eq_some_iff.mp H
    obtain ⟨⟨t364, t365⟩, A240, H⟩ := H
    replace H : (some (t364, t365)) = some (r1, r2) := H
    have A24 := Aside0.mk A240
    clear A240
    simp only [Option.some.injEq, Prod.mk.injEq] at H
    obtain ⟨rfl, rfl⟩ := H
    go_enter Try.func45, Try.ntmps45
    try go_wp2_with (first | ((with_reducible refine gate_dst (N := 2) rfl ?_); refine box_event ?hg (N := 2) ?hd (cs := #[.bool a0_0, .slice A0_1 l0_1.length c0_1]) (t := 32) ?hr ?_; (case hd => rfl); (case hg => rfl); (case hr => first | (go_simp; done) | (go_simp; rfl)); intro gb350 hg w25 hbox hb; have BK350 := Aside0.mk (hbox); have GW350 := kS HB hg; have GE350 := kS HB hg; replace HB := kB HB hb; clear hb hbox hg) | ((with_reducible refine gate_dst (N := 3) rfl ?_); refine box_event ?hg (N := 3) ?hd (cs := #[.bool a1_0, .slice A1_1 l1_1.length c1_1]) (t := 32) ?hr ?_; (case hd => rfl); (case hg => rfl); (case hr => first | (go_simp; done) | (go_simp; rfl)); intro gb351 hg w26 hbox hb; have BK351 := Aside0.mk (hbox); have GW351 := kS HB hg; have GE351 := kS HB hg; have NB350_351 := kN BK350 hg; have NB351_350 := kM BK350 hg; replace BK350 := kb BK350 hb; replace HB := kB HB hb; clear hb hbox hg) | ((with_reducible refine gate_dst (N := 4) rfl ?_); refine box_event ?hg (N := 4) ?hd (cs := #[.bool false, .slice none 0 0]) (t := 32) ?hr ?_; (case hd => rfl); (case hg => rfl); (case hr => first | (go_simp; done) | (go_simp; rfl)); intro gb352 hg w27 hbox hb; have BK352 := Aside0.mk (hbox); have GW352 := kS HB hg; have GE352 := kS HB hg; have NB350_352 := kN BK350 hg; have NB352_350 := kM BK350 hg; have NB351_352 := kN BK351 hg; have NB352_351 := kM BK351 hg; replace BK350 := kb BK350 hb; replace BK351 := kb BK351 hb; replace HB := kB HB hb; clear hb hbox hg; have hnb28 := NB350_351.out; have hnc28 := NB351_350.out; have hnb29 := NB350_352.out; have hnc29 := NB352_350.out; have hcz30_0 : w27.cell? ⟨gb350, 0, none⟩ = some (.bool a0_0) := kc BK350 0; have hcz30_1 : w27.cell? ⟨gb350, 1, none⟩ = some (.slice A0_1 l0_1.length c0_1) := kc BK350 1; have hfz30_0 := blk_frozen BK350.out 0; have hfz30_1 := blk_frozen BK350.out 1; have hnb31 := NB351_352.out; have hnc31 := NB352_351.out; have hcz32_0 : w27.cell? ⟨gb351, 0, none⟩ = some (.bool a1_0) := kc BK351 0; have hcz32_1 : w27.cell? ⟨gb351, 1, none⟩ = some (.slice A1_1 l1_1.length c1_1) := kc BK351 1; have hfz32_0 := blk_frozen BK351.out 0; have hfz32_1 := blk_frozen BK351.out 1) | ((with_reducible refine gate_callee (f := 63) rfl ?_); refine goesL_ (some 23) rfl rfl Try.func63 (by kernel_rfl) rfl #[.slice A0_1 l0_1.length c0_1, .slice A1_1 l1_1.length c1_1] rfl (by (try simp only [List.map_toArray, List.map_cons, List.map_nil]); first | done | rfl | (simp only [List.length_drop, List.length_take]; rfl)) ?_; (with_reducible refine (cobwebref01_size.calls k _ _ l0_1 _ _ l1_1 t360 _ ?side1 ?side2 ?side3 ?side4 A21.out).mono ?_); (case side1 => repeat (first | exact (Kd.C_below HR0_1.out HB.out) | (with_reducible refine Kd.C_alloc ?_ _) | (with_reducible refine Kd.C_drewN ?_ _) | (with_reducible refine Kd.C_drew ?_))); (case side2 => exact HC0_1.out); (case side3 => repeat (first | exact (Kd.C_below HR1_1.out HB.out) | (with_reducible refine Kd.C_alloc ?_ _) | (with_reducible refine Kd.C_drewN ?_ _) | (with_reducible refine Kd.C_drew ?_))); (case side4 => exact HC1_1.out); rintro e w33 ⟨rfl, hb⟩; refine ⟨_, rfl, ?_⟩; replace BK350 := kb BK350 hb; replace BK351 := kb BK351 hb; replace BK352 := kb BK352 hb; replace HB := kB HB hb; (try clear hb); (try clear hb2); (try clear hk); (try clear hi)))
    replace BK350 := Aside0.mk (blk_drew BK350.out)
    replace BK351 := Aside0.mk (blk_drew BK351.out)
    replace BK352 := Aside0.mk (blk_drew BK352.out)
    replace HB := Aside0.mk (below_drew1 HB.out)
    refine start_ (n := 10) (S := fun w' => w'.cell? ⟨gb350, 0, none⟩ = some (.bool a0_0) ∧ w'.cell? ⟨gb350, 1, none⟩ = some (.slice A0_1 l0_1.length c0_1) ∧ w'.cell? ⟨gb351, 0, none⟩ = some (.bool a1_0) ∧ w'.cell? ⟨gb351, 1, none⟩ = some (.slice A1_1 l1_1.length c1_1)) (ds := []) #[O, O, O, O, O, O, O, O, O, O] (by kernel_rfl) rfl rfl ⟨kc BK350 0, kc BK350 1, kc BK351 0, kc BK351 1⟩ (fun hHeld => ?_); refine with_tabW cobwebref01_Add.tab4 cobwebref01_Add.bits4 (fun HT_ HW_ => ?_)
    generalize w33.drew = w34 at BK350 BK351 BK352 HB hHeld ⊢
    refine pure_ (i := 0) (N := some 25) (v := ?_) (a' := ?_) #[T, O, O, O, O, O, O, O, O, O] rfl rfl (any_of HT_.out (by kernel_rfl)) (fun _ _ _ h => h) (Or.inl ⟨by rfl, ?_⟩) ?_ ?_; rotate_left; focus (intro w'; go_simp; with_reducible rfl)
    rotate_left; focus (simp only [Act.put, List.setIfInBounds_toArray, List.set_cons_zero, List.set_cons_succ, i64_w, i32_w]; rfl)
    refine pure_ (i := 2) (N := some 27) (v := ?_) (a' := ?_) #[T, O, T, O, O, O, O, O, O, O] rfl rfl (any_of HT_.out (by kernel_rfl)) (fun _ _ _ h => h) (Or.inl ⟨by rfl, ?_⟩) ?_ ?_; rotate_left; focus (intro w'; go_simp; with_reducible rfl)
    rotate_left; focus (simp only [Act.put, List.setIfInBounds_toArray, List.set_cons_zero, List.set_cons_succ, i64_w, i32_w]; rfl)
    refine pure_ (i := 4) (N := some 29) (v := ?_) (a' := ?_) #[T, O, T, O, T, O, O, O, O, O] rfl rfl (any_of HT_.out (by kernel_rfl)) (fun _ _ _ h => h) (Or.inl ⟨by rfl, ?_⟩) ?_ ?_; rotate_left; focus (intro w'; go_simp; with_reducible rfl)
    rotate_left; focus (simp only [Act.put, List.setIfInBounds_toArray, List.set_cons_zero, List.set_cons_succ, i64_w, i32_w]; rfl)
    refine take_ (i := 1) (N := some 26) (v := ?_) (a' := ?_) #[T, T, T, O, T, O, O, O, O, O] rfl rfl (take_ofW HT_.out HW_.out (by kernel_rfl)) (fun _ _ _ h => h) (Or.inl ⟨by rfl, ?_⟩) hHeld ?_ ?_; rotate_left; focus (rintro w' ⟨s0, s1, s2, s3⟩; go_simp; with_reducible rfl)
    rotate_left; focus (simp only [Act.put, List.setIfInBounds_toArray, List.set_cons_zero, List.set_cons_succ, i64_w, i32_w]; rfl)
    refine take_ (i := 3) (N := some 28) (v := ?_) (a' := ?_) #[T, T, T, T, T, O, O, O, O, O] rfl rfl (take_ofW HT_.out HW_.out (by kernel_rfl)) (fun _ _ _ h => h) (Or.inl ⟨by rfl, ?_⟩) hHeld ?_ ?_; rotate_left; focus (rintro w' ⟨s0, s1, s2, s3⟩; go_simp; with_reducible rfl)
    rotate_left; focus (simp only [Act.put, List.setIfInBounds_toArray, List.set_cons_zero, List.set_cons_succ, i64_w, i32_w]; rfl)
    refine take_ (i := 5) (N := some 30) (v := ?_) (a' := ?_) #[T, T, T, T, T, T, O, O, O, O] rfl rfl (take_ofW HT_.out HW_.out (by kernel_rfl)) (fun _ _ _ h => h) (Or.inl ⟨by rfl, ?_⟩) hHeld ?_ ?_; rotate_left; focus (rintro w' ⟨s0, s1, s2, s3⟩; go_simp; with_reducible rfl)
    rotate_left; focus (simp only [Act.put, List.setIfInBounds_toArray, List.set_cons_zero, List.set_cons_succ, i64_w, i32_w]; rfl)
    refine one_ (i := 6) (N := some 31) #[T, T, T, T, T, T, T, O, O, O] rfl rfl (one_of HT_.out (by kernel_rfl)) (by decide) (fun K hK => ?_)
    refine goes_ Try.func78 (by kernel_rfl) rfl #[.slice A0_1 l0_1.length c0_1, .slice A1_1 l1_1.length c1_1] (by rfl) rfl rfl (by (try simp only [List.map_toArray, List.map_cons, List.map_nil]); first | done | rfl | (simp only [List.length_drop, List.length_take]; rfl)) ?_
    with_reducible refine (cobwebref01_minus.calls k _ _ l0_1 _ _ l1_1 t361 _ ?side1 ?side2 ?side3 ?side4 A23.out).mono ?_
    (case side1 => repeat (first | exact (Kd.C_below HR0_1.out HB.out) | (with_reducible refine Kd.C_alloc ?_ _) | (with_reducible refine Kd.C_drewN ?_ _) | (with_reducible refine Kd.C_drew ?_)))
    (case side2 => exact HC0_1.out)
    (case side3 => repeat (first | exact (Kd.C_below HR1_1.out HB.out) | (with_reducible refine Kd.C_alloc ?_ _) | (with_reducible refine Kd.C_drewN ?_ _) | (with_reducible refine Kd.C_drew ?_)))
    (case side4 => exact HC1_1.out)
    rintro e w35 ⟨v362, rfl, ho0, hb⟩
    refine ⟨_, rfl, ?_⟩
    have HO363 := Aside0.mk (Kd.R_lower (Kd.R_newM (M := fun k_ => (w.heap.size ≤ k_)) ho0 (below_size (ky HB)) (fun k_ h_ => h_)) (below_size (ky HB)))
    replace BK350 := kb BK350 hb
    replace BK351 := kb BK351 hb
    replace BK352 := kb BK352 hb
    replace HB := kB HB hb
    (try clear hb)
    (try clear hb2)
    (try clear hk)
    (try clear hi)
    (try clear ho0)
    obtain ⟨Ao36, co36, eo36⟩ := Kd.R_slice HO363.out
    (first | subst eo36 | (injection eo36 with f1_ f2_ f3_; have f4_ := f1_.symm; have f5_ := f3_.symm; clear f1_ f2_ f3_; subst f4_; subst f5_))
    refine hK.out _ _ ⟨kc BK350 0, kc BK350 1, kc BK351 0, kc BK351 1⟩ (fun hHeld => ?_)
    clear hK K
    refine norm_ (a' := ?_) ?_ ?_
    rotate_left
    · show Act.put _ (some 31) _ = _
      simp only [Act.put, List.setIfInBounds_toArray, List.set_cons_zero, List.set_cons_succ, i64_w, i32_w]
      rfl
    refine pure_ (i := 7) (N := some 32) (v := ?_) (a' := ?_) #[T, T, T, T, T, T, T, T, O, O] rfl rfl (any_of HT_.out (by kernel_rfl)) (fun _ _ _ h => h) (Or.inl ⟨by rfl, ?_⟩) ?_ ?_; rotate_left; focus (intro w'; go_simp; with_reducible rfl)
    rotate_left; focus (simp only [Act.put, List.setIfInBounds_toArray, List.set_cons_zero, List.set_cons_succ, i64_w, i32_w]; rfl)
    refine one_ (i := 8) (N := some 33) #[T, T, T, T, T, T, T, T, T, O] rfl rfl (one_of HT_.out (by kernel_rfl)) (by decide) (fun K hK => ?_)
    refine goes_ Try.func57 (by kernel_rfl) rfl #[.agg #[.bool a0_0, .slice Ao36 t361.length co36]] (by rfl) rfl rfl (by (try simp only [List.map_toArray, List.map_cons, List.map_nil]); first | done | rfl | (simp only [List.length_drop, List.length_take]; rfl)) ?_
    with_reducible refine (cobwebref01_trim.calls k a0_0 (fun k_ => some k_ = (.slice Ao36 t361.length co36 : Value).ownBlock) _ _ t361 t364 t365 _ ?side1 A24.out).mono ?_
    (case side1 => exact Kd.R_V (Kd.R_tight rfl (Kd.R_types (Kd.R_types (Kd.R_types (HO363.out) BK350.out (by decide)) BK351.out (by decide)) BK352.out (by decide))))
    rintro e w37 ⟨v366, rfl, ho0, hb⟩
    refine ⟨_, rfl, ?_⟩
    have HO367 := Aside0.mk (Kd.V_lower (Kd.V_mono (ok' := fun k_ => (w.heap.size ≤ k_) ∧ k_ ≠ gb350 ∧ k_ ≠ gb351 ∧ k_ ≠ gb352) ho0 (fun k_ hk_ => ⟨Or.elim hk_ (fun hs_ => ((Kd.R_types (Kd.R_types (Kd.R_types (HO363.out) BK350.out (by decide)) BK351.out (by decide)) BK352.out (by decide)).1 k_ hs_.symm).1.1.1.1) (fun hn_ => (Nat.le_trans (below_size (ky HB)) hn_)), Or.elim hk_ (fun hs_ => ((Kd.R_types (Kd.R_types (Kd.R_types (HO363.out) BK350.out (by decide)) BK351.out (by decide)) BK352.out (by decide)).1 k_ hs_.symm).1.1.2) (fun hn_ => (Kd.freshB (g := gb350) (o := .cells #[.bool a0_0, .slice A0_1 l0_1.length c0_1] 32 (0, 0)) (kx BK350) k_ hn_)), Or.elim hk_ (fun hs_ => ((Kd.R_types (Kd.R_types (Kd.R_types (HO363.out) BK350.out (by decide)) BK351.out (by decide)) BK352.out (by decide)).1 k_ hs_.symm).1.2) (fun hn_ => (Kd.freshB (g := gb351) (o := .cells #[.bool a1_0, .slice A1_1 l1_1.length c1_1] 32 (0, 0)) (kx BK351) k_ hn_)), Or.elim hk_ (fun hs_ => ((Kd.R_types (Kd.R_types (Kd.R_types (HO363.out) BK350.out (by decide)) BK351.out (by decide)) BK352.out (by decide)).1 k_ hs_.symm).2) (fun hn_ => (Kd.freshB (g := gb352) (o := .cells #[.bool false, .slice none 0 0] 32 (0, 0)) (kx BK352) k_ hn_))⟩)) (below_size (ky HB)))
    replace HO363 := kR HO363 hb
    replace BK350 := kb BK350 hb
    replace BK351 := kb BK351 hb
    replace BK352 := kb BK352 hb
    replace HB := kB HB hb
    (try clear hb)
    (try clear hb2)
    (try clear hk)
    (try clear hi)
    (try clear ho0)
    obtain ⟨Ao39, co39, eo39⟩ := Kd.V_slice HO367.out
    (first | subst eo39 | (injection eo39 with f1_ f2_ f3_; have f4_ := f1_.symm; have f5_ := f3_.symm; clear f1_ f2_ f3_; subst f4_; subst f5_))
    refine hK.out _ _ ⟨kc BK350 0, kc BK350 1, kc BK351 0, kc BK351 1⟩ (fun hHeld => ?_)
    clear hK K
    refine norm_ (a' := ?_) ?_ ?_
    rotate_left
    · show Act.put _ (some 33) _ = _
      simp only [Act.put, List.setIfInBounds_toArray, List.set_cons_zero, List.set_cons_succ, i64_w, i32_w]
      rfl
    refine one_ (i := 9) (N := none) #[T, T, T, T, T, T, T, T, T, T] rfl rfl (one_of HT_.out (by kernel_rfl)) (by decide) (fun K hK => ?_)
    have hs38 : w37.cell? ⟨gb352, 0, none⟩ = some (.bool false) := kc BK352 0
    have hfs38 := blk_frozen BK352.out 0
    have hns38_0 := NB350_352.out; have hns38_1 := NB351_352.out; have hms38_0 := NB352_350.out; have hms38_1 := NB352_351.out
    have hs40 : w37.cell? ⟨gb352, 1, none⟩ = some (.slice none 0 0) := kc BK352 1
    have hfs40 := blk_frozen BK352.out 1
    have hns40_0 := NB350_352.out; have hns40_1 := NB351_352.out; have hms40_0 := NB352_350.out; have hms40_1 := NB352_351.out
    refine skip_ (w1 := ?_) (by rfl) rfl ?_ ?_
    rotate_left
    · go_simp
      rfl
    refine hK.out _ _ ⟨((cell_far (p := ⟨gb352, _, none⟩) NB350_352.out _).trans (((cell_far (p := ⟨gb352, _, none⟩) NB350_352.out _).trans (hHeld.1)))), ((cell_far (p := ⟨gb352, _, none⟩) NB350_352.out _).trans (((cell_far (p := ⟨gb352, _, none⟩) NB350_352.out _).trans (hHeld.2.1)))), ((cell_far (p := ⟨gb352, _, none⟩) NB351_352.out _).trans (((cell_far (p := ⟨gb352, _, none⟩) NB351_352.out _).trans (hHeld.2.2.1)))), ((cell_far (p := ⟨gb352, _, none⟩) NB351_352.out _).trans (((cell_far (p := ⟨gb352, _, none⟩) NB351_352.out _).trans (hHeld.2.2.2))))⟩ (fun hHeld => ?_)
    clear hK K
    refine done_ (done_of HT_.out (by kernel_rfl)) ?_
    try go_wp2
    refine bodyPost_ret (results_cell_row rfl _ _ gb352 32 #[.bool t364, .slice Ao39 t365.length co39] (0, 0) _ rfl (by (with_reducible repeat (first | refine blk_drewN ?_ _ | refine blk_drew ?_ | refine blk_alloc ?_ _)); refine blk_put (cs := #[.bool t364, .slice none 0 0]) ?_ 1 _ rfl; (with_reducible repeat (first | refine blk_drewN ?_ _ | refine blk_drew ?_ | refine blk_alloc ?_ _)); refine blk_put (cs := #[.bool false, .slice none 0 0]) ?_ 0 _ rfl; (with_reducible repeat (first | refine blk_drewN ?_ _ | refine blk_drew ?_ | refine blk_alloc ?_ _)); exact BK352.out) Try.underlying32 rfl (by kernel_rfl)) rfl ?_
    exact ⟨_, by first | rfl | (simp [errW_none, errW_some] <;> rfl) | (simp [*, errW_none, errW_some] <;> rfl), by (with_reducible repeat (first | apply Kd.V_alloc | apply Kd.V_drewN | apply Kd.V_drew)); exact Kd.V_mono (Kd.V_far (p := ⟨gb352, 1, none⟩) (Kd.V_far (p := ⟨gb352, 0, none⟩) (Kd.V_mono HO367.out (fun k_ hk => (⟨hk, hk.2.2.2⟩ : _ ∧ k_ ≠ gb352))) (fun _ hk => hk.2) (.bool t364)) (fun _ hk => hk.2) (.slice Ao39 t365.length co39)) (fun _ hk => hk.1.1), ky HB⟩
  rw [if_neg c22] at H
  have c22b0 : decide (0 ≤ t360) = false := decide_eq_false c22
  clear c22
  replace H := Option.bind_eq_some_iff.mp H
  obtain ⟨t368, A410, H⟩ := H
  replace H : ((cobwebref01_trim.f k a1_0 t368).bind fun bt371 => (some (bt371.1, bt371.2))) = some (r1, r2) := H
  have A41 := Aside0.mk A410
  clear A410
  replace H := Option.bind_eq_some_iff.mp H
  obtain ⟨⟨t371, t372⟩, A420, H⟩ := H
  replace H : (some (t371, t372)) = some (r1, r2) := H
  have A42 := Aside0.mk A420
  clear A420
  simp only [Option.some.injEq, Prod.mk.injEq] at H
  obtain ⟨rfl, rfl⟩ := H
  go_enter Try.func45, Try.ntmps45
  try go_wp2_with (first | ((with_reducible refine gate_dst (N := 2) rfl ?_); refine box_event ?hg (N := 2) ?hd (cs := #[.bool a0_0, .slice A0_1 l0_1.length c0_1]) (t := 32) ?hr ?_; (case hd => rfl); (case hg => rfl); (case hr => first | (go_simp; done) | (go_simp; rfl)); intro gb350 hg w43 hbox hb; have BK350 := Aside0.mk (hbox); have GW350 := kS HB hg; have GE350 := kS HB hg; replace HB := kB HB hb; clear hb hbox hg) | ((with_reducible refine gate_dst (N := 3) rfl ?_); refine box_event ?hg (N := 3) ?hd (cs := #[.bool a1_0, .slice A1_1 l1_1.length c1_1]) (t := 32) ?hr ?_; (case hd => rfl); (case hg => rfl); (case hr => first | (go_simp; done) | (go_simp; rfl)); intro gb351 hg w44 hbox hb; have BK351 := Aside0.mk (hbox); have GW351 := kS HB hg; have GE351 := kS HB hg; have NB350_351 := kN BK350 hg; have NB351_350 := kM BK350 hg; replace BK350 := kb BK350 hb; replace HB := kB HB hb; clear hb hbox hg) | ((with_reducible refine gate_dst (N := 4) rfl ?_); refine box_event ?hg (N := 4) ?hd (cs := #[.bool false, .slice none 0 0]) (t := 32) ?hr ?_; (case hd => rfl); (case hg => rfl); (case hr => first | (go_simp; done) | (go_simp; rfl)); intro gb352 hg w45 hbox hb; have BK352 := Aside0.mk (hbox); have GW352 := kS HB hg; have GE352 := kS HB hg; have NB350_352 := kN BK350 hg; have NB352_350 := kM BK350 hg; have NB351_352 := kN BK351 hg; have NB352_351 := kM BK351 hg; replace BK350 := kb BK350 hb; replace BK351 := kb BK351 hb; replace HB := kB HB hb; clear hb hbox hg; have hnb46 := NB350_351.out; have hnc46 := NB351_350.out; have hnb47 := NB350_352.out; have hnc47 := NB352_350.out; have hcz48_0 : w45.cell? ⟨gb350, 0, none⟩ = some (.bool a0_0) := kc BK350 0; have hcz48_1 : w45.cell? ⟨gb350, 1, none⟩ = some (.slice A0_1 l0_1.length c0_1) := kc BK350 1; have hfz48_0 := blk_frozen BK350.out 0; have hfz48_1 := blk_frozen BK350.out 1; have hnb49 := NB351_352.out; have hnc49 := NB352_351.out; have hcz50_0 : w45.cell? ⟨gb351, 0, none⟩ = some (.bool a1_0) := kc BK351 0; have hcz50_1 : w45.cell? ⟨gb351, 1, none⟩ = some (.slice A1_1 l1_1.length c1_1) := kc BK351 1; have hfz50_0 := blk_frozen BK351.out 0; have hfz50_1 := blk_frozen BK351.out 1) | ((with_reducible refine gate_callee (f := 63) rfl ?_); refine goesL_ (some 23) rfl rfl Try.func63 (by kernel_rfl) rfl #[.slice A0_1 l0_1.length c0_1, .slice A1_1 l1_1.length c1_1] rfl (by (try simp only [List.map_toArray, List.map_cons, List.map_nil]); first | done | rfl | (simp only [List.length_drop, List.length_take]; rfl)) ?_; (with_reducible refine (cobwebref01_size.calls k _ _ l0_1 _ _ l1_1 t360 _ ?side1 ?side2 ?side3 ?side4 A21.out).mono ?_); (case side1 => repeat (first | exact (Kd.C_below HR0_1.out HB.out) | (with_reducible refine Kd.C_alloc ?_ _) | (with_reducible refine Kd.C_drewN ?_ _) | (with_reducible refine Kd.C_drew ?_))); (case side2 => exact HC0_1.out); (case side3 => repeat (first | exact (Kd.C_below HR1_1.out HB.out) | (with_reducible refine Kd.C_alloc ?_ _) | (with_reducible refine Kd.C_drewN ?_ _) | (with_reducible refine Kd.C_drew ?_))); (case side4 => exact HC1_1.out); rintro e w51 ⟨rfl, hb⟩; refine ⟨_, rfl, ?_⟩; replace BK350 := kb BK350 hb; replace BK351 := kb BK351 hb; replace BK352 := kb BK352 hb; replace HB := kB HB hb; (try clear hb); (try clear hb2); (try clear hk); (try clear hi)))
  replace BK350 := Aside0.mk (blk_drew BK350.out)
  replace BK351 := Aside0.mk (blk_drew BK351.out)
  replace BK352 := Aside0.mk (blk_drew BK352.out)
  replace HB := Aside0.mk (below_drew1 HB.out)
  refine start_ (n := 10) (S := fun w' => w'.cell? ⟨gb351, 0, none⟩ = some (.bool a1_0) ∧ w'.cell? ⟨gb351, 1, none⟩ = some (.slice A1_1 l1_1.length c1_1) ∧ w'.cell? ⟨gb350, 0, none⟩ = some (.bool a0_0) ∧ w'.cell? ⟨gb350, 1, none⟩ = some (.slice A0_1 l0_1.length c0_1)) (ds := []) #[O, O, O, O, O, O, O, O, O, O] (by kernel_rfl) rfl rfl ⟨kc BK351 0, kc BK351 1, kc BK350 0, kc BK350 1⟩ (fun hHeld => ?_); refine with_tabW cobwebref01_Add.tab5 cobwebref01_Add.bits5 (fun HT_ HW_ => ?_)
  generalize w51.drew = w52 at BK350 BK351 BK352 HB hHeld ⊢
  refine pure_ (i := 0) (N := some 34) (v := ?_) (a' := ?_) #[T, O, O, O, O, O, O, O, O, O] rfl rfl (any_of HT_.out (by kernel_rfl)) (fun _ _ _ h => h) (Or.inl ⟨by rfl, ?_⟩) ?_ ?_; rotate_left; focus (intro w'; go_simp; with_reducible rfl)
  rotate_left; focus (simp only [Act.put, List.setIfInBounds_toArray, List.set_cons_zero, List.set_cons_succ, i64_w, i32_w]; rfl)
  refine pure_ (i := 2) (N := some 36) (v := ?_) (a' := ?_) #[T, O, T, O, O, O, O, O, O, O] rfl rfl (any_of HT_.out (by kernel_rfl)) (fun _ _ _ h => h) (Or.inl ⟨by rfl, ?_⟩) ?_ ?_; rotate_left; focus (intro w'; go_simp; with_reducible rfl)
  rotate_left; focus (simp only [Act.put, List.setIfInBounds_toArray, List.set_cons_zero, List.set_cons_succ, i64_w, i32_w]; rfl)
  refine pure_ (i := 4) (N := some 38) (v := ?_) (a' := ?_) #[T, O, T, O, T, O, O, O, O, O] rfl rfl (any_of HT_.out (by kernel_rfl)) (fun _ _ _ h => h) (Or.inl ⟨by rfl, ?_⟩) ?_ ?_; rotate_left; focus (intro w'; go_simp; with_reducible rfl)
  rotate_left; focus (simp only [Act.put, List.setIfInBounds_toArray, List.set_cons_zero, List.set_cons_succ, i64_w, i32_w]; rfl)
  refine take_ (i := 1) (N := some 35) (v := ?_) (a' := ?_) #[T, T, T, O, T, O, O, O, O, O] rfl rfl (take_ofW HT_.out HW_.out (by kernel_rfl)) (fun _ _ _ h => h) (Or.inl ⟨by rfl, ?_⟩) hHeld ?_ ?_; rotate_left; focus (rintro w' ⟨s0, s1, s2, s3⟩; go_simp; with_reducible rfl)
  rotate_left; focus (simp only [Act.put, List.setIfInBounds_toArray, List.set_cons_zero, List.set_cons_succ, i64_w, i32_w]; rfl)
  refine take_ (i := 3) (N := some 37) (v := ?_) (a' := ?_) #[T, T, T, T, T, O, O, O, O, O] rfl rfl (take_ofW HT_.out HW_.out (by kernel_rfl)) (fun _ _ _ h => h) (Or.inl ⟨by rfl, ?_⟩) hHeld ?_ ?_; rotate_left; focus (rintro w' ⟨s0, s1, s2, s3⟩; go_simp; with_reducible rfl)
  rotate_left; focus (simp only [Act.put, List.setIfInBounds_toArray, List.set_cons_zero, List.set_cons_succ, i64_w, i32_w]; rfl)
  refine take_ (i := 5) (N := some 39) (v := ?_) (a' := ?_) #[T, T, T, T, T, T, O, O, O, O] rfl rfl (take_ofW HT_.out HW_.out (by kernel_rfl)) (fun _ _ _ h => h) (Or.inl ⟨by rfl, ?_⟩) hHeld ?_ ?_; rotate_left; focus (rintro w' ⟨s0, s1, s2, s3⟩; go_simp; with_reducible rfl)
  rotate_left; focus (simp only [Act.put, List.setIfInBounds_toArray, List.set_cons_zero, List.set_cons_succ, i64_w, i32_w]; rfl)
  refine one_ (i := 6) (N := some 40) #[T, T, T, T, T, T, T, O, O, O] rfl rfl (one_of HT_.out (by kernel_rfl)) (by decide) (fun K hK => ?_)
  refine goes_ Try.func78 (by kernel_rfl) rfl #[.slice A1_1 l1_1.length c1_1, .slice A0_1 l0_1.length c0_1] (by rfl) rfl rfl (by (try simp only [List.map_toArray, List.map_cons, List.map_nil]); first | done | rfl | (simp only [List.length_drop, List.length_take]; rfl)) ?_
  with_reducible refine (cobwebref01_minus.calls k _ _ l1_1 _ _ l0_1 t368 _ ?side1 ?side2 ?side3 ?side4 A41.out).mono ?_
  (case side1 => repeat (first | exact (Kd.C_below HR1_1.out HB.out) | (with_reducible refine Kd.C_alloc ?_ _) | (with_reducible refine Kd.C_drewN ?_ _) | (with_reducible refine Kd.C_drew ?_)))
  (case side2 => exact HC1_1.out)
  (case side3 => repeat (first | exact (Kd.C_below HR0_1.out HB.out) | (with_reducible refine Kd.C_alloc ?_ _) | (with_reducible refine Kd.C_drewN ?_ _) | (with_reducible refine Kd.C_drew ?_)))
  (case side4 => exact HC0_1.out)
  rintro e w53 ⟨v369, rfl, ho0, hb⟩
  refine ⟨_, rfl, ?_⟩
  have HO370 := Aside0.mk (Kd.R_lower (Kd.R_newM (M := fun k_ => (w.heap.size ≤ k_)) ho0 (below_size (ky HB)) (fun k_ h_ => h_)) (below_size (ky HB)))
  replace BK350 := kb BK350 hb
  replace BK351 := kb BK351 hb
  replace BK352 := kb BK352 hb
  replace HB := kB HB hb
  (try clear hb)
  (try clear hb2)
  (try clear hk)
  (try clear hi)
  (try clear ho0)
  obtain ⟨Ao54, co54, eo54⟩ := Kd.R_slice HO370.out
  (first | subst eo54 | (injection eo54 with f1_ f2_ f3_; have f4_ := f1_.symm; have f5_ := f3_.symm; clear f1_ f2_ f3_; subst f4_; subst f5_))
  refine hK.out _ _ ⟨kc BK351 0, kc BK351 1, kc BK350 0, kc BK350 1⟩ (fun hHeld => ?_)
  clear hK K
  refine norm_ (a' := ?_) ?_ ?_
  rotate_left
  · show Act.put _ (some 40) _ = _
    simp only [Act.put, List.setIfInBounds_toArray, List.set_cons_zero, List.set_cons_succ, i64_w, i32_w]
    rfl
  refine pure_ (i := 7) (N := some 41) (v := ?_) (a' := ?_) #[T, T, T, T, T, T, T, T, O, O] rfl rfl (any_of HT_.out (by kernel_rfl)) (fun _ _ _ h => h) (Or.inl ⟨by rfl, ?_⟩) ?_ ?_; rotate_left; focus (intro w'; go_simp; with_reducible rfl)
  rotate_left; focus (simp only [Act.put, List.setIfInBounds_toArray, List.set_cons_zero, List.set_cons_succ, i64_w, i32_w]; rfl)
  refine one_ (i := 8) (N := some 42) #[T, T, T, T, T, T, T, T, T, O] rfl rfl (one_of HT_.out (by kernel_rfl)) (by decide) (fun K hK => ?_)
  refine goes_ Try.func57 (by kernel_rfl) rfl #[.agg #[.bool a1_0, .slice Ao54 t368.length co54]] (by rfl) rfl rfl (by (try simp only [List.map_toArray, List.map_cons, List.map_nil]); first | done | rfl | (simp only [List.length_drop, List.length_take]; rfl)) ?_
  with_reducible refine (cobwebref01_trim.calls k a1_0 (fun k_ => some k_ = (.slice Ao54 t368.length co54 : Value).ownBlock) _ _ t368 t371 t372 _ ?side1 A42.out).mono ?_
  (case side1 => exact Kd.R_V (Kd.R_tight rfl (Kd.R_types (Kd.R_types (Kd.R_types (HO370.out) BK350.out (by decide)) BK351.out (by decide)) BK352.out (by decide))))
  rintro e w55 ⟨v373, rfl, ho0, hb⟩
  refine ⟨_, rfl, ?_⟩
  have HO374 := Aside0.mk (Kd.V_lower (Kd.V_mono (ok' := fun k_ => (w.heap.size ≤ k_) ∧ k_ ≠ gb350 ∧ k_ ≠ gb351 ∧ k_ ≠ gb352) ho0 (fun k_ hk_ => ⟨Or.elim hk_ (fun hs_ => ((Kd.R_types (Kd.R_types (Kd.R_types (HO370.out) BK350.out (by decide)) BK351.out (by decide)) BK352.out (by decide)).1 k_ hs_.symm).1.1.1.1) (fun hn_ => (Nat.le_trans (below_size (ky HB)) hn_)), Or.elim hk_ (fun hs_ => ((Kd.R_types (Kd.R_types (Kd.R_types (HO370.out) BK350.out (by decide)) BK351.out (by decide)) BK352.out (by decide)).1 k_ hs_.symm).1.1.2) (fun hn_ => (Kd.freshB (g := gb350) (o := .cells #[.bool a0_0, .slice A0_1 l0_1.length c0_1] 32 (0, 0)) (kx BK350) k_ hn_)), Or.elim hk_ (fun hs_ => ((Kd.R_types (Kd.R_types (Kd.R_types (HO370.out) BK350.out (by decide)) BK351.out (by decide)) BK352.out (by decide)).1 k_ hs_.symm).1.2) (fun hn_ => (Kd.freshB (g := gb351) (o := .cells #[.bool a1_0, .slice A1_1 l1_1.length c1_1] 32 (0, 0)) (kx BK351) k_ hn_)), Or.elim hk_ (fun hs_ => ((Kd.R_types (Kd.R_types (Kd.R_types (HO370.out) BK350.out (by decide)) BK351.out (by decide)) BK352.out (by decide)).1 k_ hs_.symm).2) (fun hn_ => (Kd.freshB (g := gb352) (o := .cells #[.bool false, .slice none 0 0] 32 (0, 0)) (kx BK352) k_ hn_))⟩)) (below_size (ky HB)))
  replace HO370 := kR HO370 hb
  replace BK350 := kb BK350 hb
  replace BK351 := kb BK351 hb
  replace BK352 := kb BK352 hb
  replace HB := kB HB hb
  (try clear hb)
  (try clear hb2)
  (try clear hk)
  (try clear hi)
  (try clear ho0)
  obtain ⟨Ao57, co57, eo57⟩ := Kd.V_slice HO374.out
  (first | subst eo57 | (injection eo57 with f1_ f2_ f3_; have f4_ := f1_.symm; have f5_ := f3_.symm; clear f1_ f2_ f3_; subst f4_; subst f5_))
  refine hK.out _ _ ⟨kc BK351 0, kc BK351 1, kc BK350 0, kc BK350 1⟩ (fun hHeld => ?_)
  clear hK K
  refine norm_ (a' := ?_) ?_ ?_
  rotate_left
  · show Act.put _ (some 42) _ = _
    simp only [Act.put, List.setIfInBounds_toArray, List.set_cons_zero, List.set_cons_succ, i64_w, i32_w]
    rfl
  refine one_ (i := 9) (N := none) #[T, T, T, T, T, T, T, T, T, T] rfl rfl (one_of HT_.out (by kernel_rfl)) (by decide) (fun K hK => ?_)
  have hs56 : w55.cell? ⟨gb352, 0, none⟩ = some (.bool false) := kc BK352 0
  have hfs56 := blk_frozen BK352.out 0
  have hns56_0 := NB350_352.out; have hns56_1 := NB351_352.out; have hms56_0 := NB352_350.out; have hms56_1 := NB352_351.out
  have hs58 : w55.cell? ⟨gb352, 1, none⟩ = some (.slice none 0 0) := kc BK352 1
  have hfs58 := blk_frozen BK352.out 1
  have hns58_0 := NB350_352.out; have hns58_1 := NB351_352.out; have hms58_0 := NB352_350.out; have hms58_1 := NB352_351.out
  refine skip_ (w1 := ?_) (by rfl) rfl ?_ ?_
  rotate_left
  · go_simp
    rfl
  refine hK.out _ _ ⟨((cell_far (p := ⟨gb352, _, none⟩) NB351_352.out _).trans (((cell_far (p := ⟨gb352, _, none⟩) NB351_352.out _).trans (hHeld.1)))), ((cell_far (p := ⟨gb352, _, none⟩) NB351_352.out _).trans (((cell_far (p := ⟨gb352, _, none⟩) NB351_352.out _).trans (hHeld.2.1)))), ((cell_far (p := ⟨gb352, _, none⟩) NB350_352.out _).trans (((cell_far (p := ⟨gb352, _, none⟩) NB350_352.out _).trans (hHeld.2.2.1)))), ((cell_far (p := ⟨gb352, _, none⟩) NB350_352.out _).trans (((cell_far (p := ⟨gb352, _, none⟩) NB350_352.out _).trans (hHeld.2.2.2))))⟩ (fun hHeld => ?_)
  clear hK K
  refine done_ (done_of HT_.out (by kernel_rfl)) ?_
  try go_wp2
  refine bodyPost_ret (results_cell_row rfl _ _ gb352 32 #[.bool t371, .slice Ao57 t372.length co57] (0, 0) _ rfl (by (with_reducible repeat (first | refine blk_drewN ?_ _ | refine blk_drew ?_ | refine blk_alloc ?_ _)); refine blk_put (cs := #[.bool t371, .slice none 0 0]) ?_ 1 _ rfl; (with_reducible repeat (first | refine blk_drewN ?_ _ | refine blk_drew ?_ | refine blk_alloc ?_ _)); refine blk_put (cs := #[.bool false, .slice none 0 0]) ?_ 0 _ rfl; (with_reducible repeat (first | refine blk_drewN ?_ _ | refine blk_drew ?_ | refine blk_alloc ?_ _)); exact BK352.out) Try.underlying32 rfl (by kernel_rfl)) rfl ?_
  exact ⟨_, by first | rfl | (simp [errW_none, errW_some] <;> rfl) | (simp [*, errW_none, errW_some] <;> rfl), by (with_reducible repeat (first | apply Kd.V_alloc | apply Kd.V_drewN | apply Kd.V_drew)); exact Kd.V_mono (Kd.V_far (p := ⟨gb352, 1, none⟩) (Kd.V_far (p := ⟨gb352, 0, none⟩) (Kd.V_mono HO374.out (fun k_ hk => (⟨hk, hk.2.2.2⟩ : _ ∧ k_ ≠ gb352))) (fun _ hk => hk.2) (.bool t371)) (fun _ hk => hk.2) (.slice Ao57 t372.length co57)) (fun _ hk => hk.1.1), ky HB⟩

end Go.Proofs.Ytpjbniihdndlmaa.Q
