/- grid.In (its closure by a contract of its own): which pixels are not too far. -/
import Derived.Test.YtpjbniihdndlmabProg
import Derived.Below
import Derived.Tactics
import Derived.WalkKit
import Derived.WalkSpells
import Derived.KernelRfl
import Derived.RowKit3
import Derived.Lib.Hide
namespace Go.Proofs.Ytpjbniihdndlmab.H
open Go.RowKit
set_option linter.unusedVariables false
set_option linter.unusedSimpArgs false

def rungN (k : Int) : Int := if k < 0 then 0 else if 28 < k then 28 else k
theorem rungN_lo (k : Int) : 0 ≤ rungN k := by unfold rungN; split <;> (try split) <;> omega
theorem rungN_hi (k : Int) : rungN k ≤ 28 := by unfold rungN; split <;> (try split) <;> omega
theorem ret_int_ {k : IntKind} {a b : Int} (h : a = b) : Ending.returned (.int k a) = .returned (.int k b) := by rw [h]
theorem ret_bool_ {a b : Bool} (h : a = b) : Ending.returned (.bool a) = .returned (.bool b) := by rw [h]

theorem rung_any (k : Int) (w : World) : Calls Try.prog 67 #[.int .i64 k] w fun e w' => e = .returned (.int .i64 (rungN k)) ∧ w' = w := by
 go_enter Try.func67, Try.ntmps67
 go_wp2
 all_goals
  go_ret
  exact ⟨ret_int_ (by show _ = rungN k; unfold rungN; split <;> (try split) <;> first | rfl | omega), rfl⟩

def farN (k : Int) : Int := 134217728 / 2 ^ (rungN k).toNat
theorem farN_lo (k : Int) : 0 ≤ farN k := by unfold farN; exact Int.ediv_nonneg (by decide) (Int.le_of_lt (Int.pow_pos (by decide)))
theorem farN_hi (k : Int) : farN k ≤ 134217728 := by unfold farN; exact Int.ediv_le_self _ (by decide)
/-- Is a pixel's number not too far? -/
def nearN (n k : Int) : Bool := decide (-farN k ≤ n) && decide (n ≤ farN k)

theorem near_any (n k : Int) (a : Addr) (w : World) (hc : w.cell? a = some (.int .i64 k)) :
  Calls Try.prog 70 #[.int .i64 n, .pointer (some a)] w fun e w' => e = .returned (.bool (nearN n k)) ∧ w' = w := by
 have h0 := rungN_lo k
 have h1 := rungN_hi k
 have hw : wrap64 (-farN k) = -farN k := by have := farN_lo k; have := farN_hi k; unfold wrap64; omega
 have HW := Lib.hid hw; clear hw
 go_enter Try.func70, Try.ntmps70
 go_wp2_with (go_at_call 67; refine (rung_any _ _).mono ?_; rintro e w' ⟨rfl, rfl⟩)
 ·have h2 : wrap64 (-(134217728 / 2 ^ (rungN k).toNat)) ≤ n := by assumption
  have h3 : -farN k ≤ n := HW.out ▸ h2
  go_ret
  exact ⟨ret_bool_ (by show decide (n ≤ farN k) = _; simp [nearN, h3]), rfl⟩
 ·have h2 : n < wrap64 (-(134217728 / 2 ^ (rungN k).toNat)) := by assumption
  have h3 : ¬ -farN k ≤ n := by have h4 : n < -farN k := HW.out ▸ h2; omega
  go_ret
  exact ⟨ret_bool_ (by show false = _; simp [nearN, h3]), rfl⟩

theorem grid_In_calls (x y k : Int) (w : World) :
  Calls Try.prog 44 #[.agg #[.int .i64 x, .int .i64 y], .int .i64 k] w fun e w' => e = .returned (.bool (nearN x k && nearN y k)) ∧ Below w.heap.size w w' := by
 cases hn : nearN x k with
 | true =>
  go_enter Try.func44, Try.ntmps44
  go_wp2_with (go_at_call 70; refine (near_any _ k _ _ (by go_simp)).mono ?_; rintro e w' ⟨rfl, rfl⟩)
  go_ret
  exact ⟨rfl, ((Below.refl _ _).alloc (Nat.le_refl _) _).alloc (by simp) _⟩
 | false =>
  go_enter Try.func44, Try.ntmps44
  go_wp2_with (go_at_call 70; refine (near_any _ k _ _ (by go_simp)).mono ?_; rintro e w' ⟨rfl, rfl⟩)
  go_ret
  exact ⟨rfl, ((Below.refl _ _).alloc (Nat.le_refl _) _).alloc (by simp) _⟩
end Go.Proofs.Ytpjbniihdndlmab.H
