/- The two calls that the model runs in place (math/bits.Add64, Sub64), and '^x' of a word: what each answers, as plain values. -/
import Derived.Test.YtpjbniihdndlmabProg
import Derived.Laws.Externs
import Derived.KernelRfl
import Derived.WalkKit
namespace Go.Proofs.Ytpjbniihdndlmab.H
open Go.RowKit

def add64s (x y c : Int) : Int := ((x.toNat + y.toNat + c.toNat) % 18446744073709551616 : Nat)
def add64c (x y c : Int) : Int := ((x.toNat + y.toNat + c.toNat) / 18446744073709551616 : Nat)
def sub64s (x y c : Int) : Int := ((x.toNat + 18446744073709551616 - y.toNat - c.toNat) % 18446744073709551616 : Nat)
def sub64c (x y c : Int) : Int := ((if x.toNat < y.toNat + c.toNat then 1 else 0 : Nat) : Int)
def not64 (x : Int) : Int := Go.bits .xor .u64 18446744073709551615 x

theorem add64c_nn (x y c : Int) : 0 ≤ add64c x y c := by unfold add64c; omega
theorem sub64c_nn (x y c : Int) : 0 ≤ sub64c x y c := by unfold sub64c; split <;> omega
theorem sub64c_le (x y c : Int) : sub64c x y c ≤ 1 := by unfold sub64c; split <;> omega

/-- The model's entry for Sub64: the second row of its table. -/
def sub64Ent : Array Value → Sem Value := (Extern.MathBitsCarry.rows[1]'(by decide)).2

theorem add64_run {P : Program} (x y c : Int) (h0 : 0 ≤ c) (hc : c ≤ 1) (w : World) :
  (add64Entry #[.int .u64 x, .int .u64 y, .int .u64 c]).run P w = .ok (.tuple #[.int .u64 (add64s x y c), .int .u64 (add64c x y c)]) w := by
 have : c = 0 ∨ c = 1 := by omega
 rcases this with rfl | rfl <;> rfl
theorem sub64_run {P : Program} (x y c : Int) (h0 : 0 ≤ c) (hc : c ≤ 1) (w : World) :
  (sub64Ent #[.int .u64 x, .int .u64 y, .int .u64 c]).run P w = .ok (.tuple #[.int .u64 (sub64s x y c), .int .u64 (sub64c x y c)]) w := by
 have : c = 0 ∨ c = 1 := by omega
 rcases this with rfl | rfl <;> rfl

theorem hq_add64 (x y c : Int) (h0 : 0 ≤ c) (hc : c ≤ 1) (w : World) : (callFunc 78 #[.int .u64 x, .int .u64 y, .int .u64 c]).run Try.prog w =
  .ok (.value (.tuple #[.int .u64 (add64s x y c), .int .u64 (add64c x y c)])) w := by
 rw [run_callFunc_extern Try.func78 (by kernel_rfl) (by kernel_rfl) (by kernel_rfl) (e := add64Entry) (by kernel_rfl), add64_run x y c h0 hc]
 rfl
theorem hq_sub64 (x y c : Int) (h0 : 0 ≤ c) (hc : c ≤ 1) (w : World) : (callFunc 85 #[.int .u64 x, .int .u64 y, .int .u64 c]).run Try.prog w =
  .ok (.value (.tuple #[.int .u64 (sub64s x y c), .int .u64 (sub64c x y c)])) w := by
 rw [run_callFunc_extern Try.func85 (by kernel_rfl) (by kernel_rfl) (by kernel_rfl) (e := sub64Ent) (by kernel_rfl), sub64_run x y c h0 hc]
 rfl
theorem hq_not64 (x : Int) : Go.bits .xor .u64 18446744073709551615 x = not64 x := rfl
end Go.Proofs.Ytpjbniihdndlmab.H
