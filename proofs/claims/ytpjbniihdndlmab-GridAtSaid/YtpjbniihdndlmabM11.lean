/- The reference's division, digit by digit from the high end: the quotient towards less, and what is left. -/
import Derived.Test.YtpjbniihdndlmabM4
import Derived.Test.YtpjbniihdndlmabQx16
namespace Go.Proofs.Ytpjbniihdndlmab.M
open Go.RowKit Go.Proofs.Ytpjbniihdndlmab.H Go.Proofs.Ytpjbniihdndlmab.Q Go.Proofs.YtpjbniihdndlmabW.PrintWords Go.Proofs.YtpjbniihdndlmabW.PrintMore
set_option linter.unusedVariables false

theorem trim_pos (l : List Int) (k : Nat) (hl : l.length ≤ 1000) (hk : 1001 ≤ k) (hd : Dig l) : cobwebref01_trim.f k false l = some (nb (val l), nd (val l)) := by
  have h := val_nonneg hd
  rw [trim_eq false l k hl hk hd]
  unfold nb nd
  rw [show (val l).natAbs = (val l).toNat by omega, decide_eq_false (show ¬ val l < 0 by omega)]
  rfl
theorem trim_neg (l : List Int) (k : Nat) (hl : l.length ≤ 1000) (hk : 1001 ≤ k) (hd : Dig l) : cobwebref01_trim.f k true l = some (nb (-(val l)), nd (-(val l))) := by
  have h := val_nonneg hd
  rw [trim_eq true l k hl hk hd]
  unfold nb nd
  rw [show (-(val l)).natAbs = (val l).toNat by omega, Bool.true_and, show decide (val l ≠ 0) = decide (-(val l) < 0) by rw [decide_eq_decide]; omega]

theorem len_le {L : Nat} {x y : Int} (h : Len L y) (h2 : x.natAbs ≤ y.natAbs) : Len L x := Nat.lt_of_le_of_lt h2 h
theorem len_scale {L : Nat} {x y : Int} (h : Len L y) (h2 : x.natAbs < 10000 * y.natAbs) : Len (L + 1) x := by
  unfold Len at *
  rw [Nat.pow_succ]
  generalize 10000 ^ L = B at *
  omega
/-- How the division ends. -/
theorem div_last (x y V R : Int) (k : Nat) (hk : 2900 ≤ k) (hx : Len 100 x) (hy : Len 100 y) (V0 : 0 ≤ V) (R0 : 0 ≤ R) (R1 : R < y) (hA : (x.natAbs : Int) = V * y + R) (q : List Int) (hq : q.length ≤ 100) (dq : Dig q) (vq : val q = V) :
    ((cobwebref01_trim.f k (nb x) q).bind fun bt => (if nb x = true then (cobwebref01_Div.j2 k (decide (((nd R).length : Int) > 0)) (nb y) (nd y) (nb R) (nd R) bt.1 bt.2) else (cobwebref01_Div.j2 k false (nb y) (nd y) (nb R) (nd R) bt.1 bt.2))) =
      some (nb (x / y), nd (x / y), nb (x % y), nd (x % y)) := by
  obtain ⟨k, rfl⟩ : ∃ m, k = m + 1 := ⟨k - 1, by omega⟩
  by_cases c : x < 0
  · rw [show nb x = true from decide_eq_true c, trim_neg q (k + 1) (by omega) (by omega) dq, vq, Option.bind_some, if_pos rfl]
    have lr : decide (((nd R).length : Int) > 0) = decide (R ≠ 0) := by
      rw [decide_eq_decide]
      have : nd R = [] ↔ R = 0 := by unfold nd; rw [dg_nil]; omega
      constructor
      · intro h e
        rw [this.2 e] at h
        exact absurd h (by decide)
      · intro h
        have : nd R ≠ [] := fun e => h (this.1 e)
        have := List.length_pos_iff.2 this
        omega
    rw [lr]
    by_cases z : R = 0
    · subst z
      have e := div_unique (n := x) (d := y) (q := -V) (r := 0) (by rw [Int.neg_mul]; omega) (by omega) (by omega)
      rw [e.1, e.2]
      simp only [cobwebref01_Div.j2, ne_eq, not_true_eq_false, decide_false, Bool.false_eq_true, if_false]
    · have e := div_unique (n := x) (d := y) (q := -V - 1) (r := y - R) (by rw [Int.sub_mul, Int.neg_mul]; omega) (by omega) (by omega)
      have lV : Len 100 (-V) := by
        have : V * 1 ≤ V * y := Int.mul_le_mul_of_nonneg_left (by omega) V0
        exact len_le hx (by omega)
      have lR : Len 100 R := len_le hy (by omega)
      rw [e.1, e.2, decide_eq_true (show R ≠ 0 from z)]
      simp only [cobwebref01_Div.j2, if_true]
      rw [ref_of (-1) (by decide) k (by omega), Option.bind_some]
      dsimp only
      rw [ref_add (-V) (-1) 100 k lV (len_mono (len_i64 (by decide)) (by omega)) (by omega) (by omega), Option.bind_some, ref_neg R 100 k lR (by omega) (by omega), Option.bind_some]
      dsimp only
      rw [ref_add y (-R) 100 k hy (len_neg lR) (by omega) (by omega), Option.bind_some]
      rfl
  · rw [show nb x = false from decide_eq_false c, trim_pos q (k + 1) (by omega) (by omega) dq, vq, Option.bind_some, if_neg (by decide)]
    have e := div_unique (n := x) (d := y) (q := V) (r := R) (by omega) R0 R1
    rw [e.1, e.2]
    simp only [cobwebref01_Div.j2, Bool.false_eq_true, if_false]

set_option maxRecDepth 100000 in
theorem fuel_step (i k t : Nat) (h : i * 10002 + 3001 + t ≤ k + 1) : i * 10002 + 3000 ≤ k := by
  have := Nat.le_of_succ_le_succ (Nat.le_trans (Nat.le_add_right _ t) h)
  exact this
/-- One digit of the quotient: what is left is counted down. -/
theorem div_digit (x y : Int) (hx : Len 100 x) (hy : Len 100 y) (i : Nat) (hi : i < (nd x).length)
    (ih : ∀ (k : Nat) (q : List Int) (R : Int), i * 10002 + 3000 ≤ k → q.length = (nd x).length → Dig q → (∀ j, j < i → q.getD j 0 = 0) → 0 ≤ R → R < y → (x.natAbs : Int) = val q * y + R * 10000 ^ i + vt (nd x) i →
      cobwebref01_Div.l0 k q ((i : Int) - 1) (nb x) (nd x) (nb y) (nd y) (nb R) (nd R) = some (nb (x / y), nd (x / y), nb (x % y), nd (x % y))) (t : Nat) :
    ∀ (k : Nat) (q : List Int) (R c : Int), i * 10002 + 3001 + t ≤ k → q.length = (nd x).length → Dig q → (∀ j, j < i → q.getD j 0 = 0) → q.getD i 0 = c → c + t = 9999 → 0 ≤ R → R < (10000 - c) * y → (x.natAbs : Int) = val q * y + R * 10000 ^ i + vt (nd x) i →
      cobwebref01_Div.l1 k q (i : Int) (nb x) (nd x) (nb y) (nd y) (nb R) (nd R) = some (nb (x / y), nd (x / y), nb (x % y), nd (x % y)) := by
  have ln := len_nd hx
  induction t with
  | zero =>
    intro k q R c hk hq dq zq cq ct R0 R1 hA
    obtain ⟨k, rfl⟩ : ∃ m, k = m + 1 := ⟨k - 1, by omega⟩
    have R1' : R < y := by rw [show c = 9999 by omega] at R1; omega
    have lR : Len 100 R := len_le hy (by omega)
    simp only [cobwebref01_Div.l1]
    rw [ref_cmp R y 100 k lR hy (by omega) (by omega), Option.bind_some, show cmpI R y = -1 by unfold cmpI; rw [if_pos R1'], if_neg (by decide), show wrap64 ((i : Int) - 1) = (i : Int) - 1 by unfold wrap64; omega]
    have hk' : i * 10002 + 3000 ≤ k := fuel_step i k 0 hk
    exact ih k q R hk' hq dq zq R0 R1' hA
  | succ t iht =>
    intro k q R c hk hq dq zq cq ct R0 R1 hA
    obtain ⟨k, rfl⟩ : ∃ m, k = m + 1 := ⟨k - 1, by omega⟩
    have c0 : 0 ≤ c ∧ c < 10000 := by rw [← cq]; exact dig_getD dq i
    have y0 : 0 < y := by
      apply Int.not_le.mp
      intro h
      have := Int.mul_le_mul_of_nonneg_left h (show 0 ≤ 10000 - c by omega)
      omega
    have lR : Len 101 R := by
      have h1 : (10000 - c) * y ≤ 10000 * y := Int.mul_le_mul_of_nonneg_right (by omega) (by omega)
      exact len_scale (L := 100) hy (by omega)
    have ly : Len 101 y := len_mono hy (by omega)
    simp only [cobwebref01_Div.l1]
    rw [ref_cmp R y 101 k lR ly (by omega) (by omega), Option.bind_some]
    by_cases g : R < y
    · rw [show cmpI R y = -1 by unfold cmpI; rw [if_pos g], if_neg (by decide), show wrap64 ((i : Int) - 1) = (i : Int) - 1 by unfold wrap64; omega]
      have hk' : i * 10002 + 3000 ≤ k := fuel_step i k (t + 1) hk
      exact ih k q R hk' hq dq zq R0 g hA
    · rw [if_pos (by unfold cmpI; rw [if_neg g]; split <;> decide), ref_neg y 101 k ly (by omega) (by omega), Option.bind_some]
      dsimp only
      rw [ref_add R (-y) 101 k lR (len_neg ly) (by omega) (by omega), Option.bind_some, if_pos (by omega), if_pos (by omega)]
      dsimp only
      have er : rd q (i : Int) = c := by unfold rd; rw [Int.toNat_natCast]; exact cq
      have c1 : c + 1 < 10000 := by omega
      have iq : i < q.length := by omega
      rw [er, show wrap64 (c + 1) = c + 1 by unfold wrap64; omega, Int.toNat_natCast, show R + -y = R - y by omega]
      refine iht k (q.set i (c + 1)) (R - y) (c + 1) (by omega) (by simpa using hq) (dig_set dq i (by omega)) ?_ ?_ (by omega) (by omega) ?_ ?_
      · intro j hj
        rw [List.getD_eq_getElem?_getD, List.getElem?_set_ne (by omega), ← List.getD_eq_getElem?_getD]
        exact zq j hj
      · rw [List.getD_eq_getElem?_getD, List.getElem?_set_self iq]; rfl
      · have : (10000 - c) * y = (10000 - (c + 1)) * y + y := by rw [show 10000 - c = 10000 - (c + 1) + 1 by omega, Int.add_mul]; omega
        omega
      · rw [val_set q (c + 1) i iq, cq, show c + 1 - c = 1 by omega, Int.one_mul, Int.add_mul, Int.sub_mul, Int.mul_comm (10000 ^ i) y]
        omega
theorem div_rows (x y : Int) (hx : Len 100 x) (hy : Len 100 y) (y0 : 0 < y) (m : Nat) : m ≤ (nd x).length → ∀ (k : Nat) (q : List Int) (R : Int), m * 10002 + 3000 ≤ k → q.length = (nd x).length → Dig q → (∀ j, j < m → q.getD j 0 = 0) → 0 ≤ R → R < y → (x.natAbs : Int) = val q * y + R * 10000 ^ m + vt (nd x) m →
      cobwebref01_Div.l0 k q ((m : Int) - 1) (nb x) (nd x) (nb y) (nd y) (nb R) (nd R) = some (nb (x / y), nd (x / y), nb (x % y), nd (x % y)) := by
  have ln := len_nd hx
  induction m with
  | zero =>
    intro _ k q R hk hq dq zq R0 R1 hA
    obtain ⟨k, rfl⟩ : ∃ m, k = m + 1 := ⟨k - 1, by omega⟩
    simp only [cobwebref01_Div.l0]
    rw [if_neg (by omega)]
    have v0 : vt (nd x) 0 = 0 := rfl
    rw [v0, show (10000 : Int) ^ 0 = 1 from rfl, Int.mul_one, Int.add_zero] at hA
    exact div_last x y (val q) R k (by omega) hx hy (val_nonneg dq) R0 R1 hA q (by omega) dq rfl
  | succ i ih =>
    intro hm k q R hk hq dq zq R0 R1 hA
    obtain ⟨k, rfl⟩ : ∃ m, k = m + 1 := ⟨k - 1, by omega⟩
    have lR : Len 100 R := len_le hy (by omega)
    have lr := len_nd lR
    simp only [cobwebref01_Div.l0]
    have da := dig_getD (nd_dig x) i
    have er : rd (nd x) (((i + 1 : Nat) : Int) - 1) = (nd x).getD i 0 := by unfold rd; rw [show (((i + 1 : Nat) : Int) - 1).toNat = i by omega]
    rw [if_pos (by omega), if_pos (by omega), if_pos (by omega), Option.bind_some, if_pos (by simp; omega), er]
    have dc : Dig ([(nd x).getD i 0] ++ nd R) := dig_append.2 ⟨dig_one da, nd_dig R⟩
    rw [trim_pos _ k (by simp; omega) (by omega) dc, Option.bind_some]
    have ev : val ([(nd x).getD i 0] ++ nd R) = (nd x).getD i 0 + 10000 * R := by
      show (nd x).getD i 0 + 10000 * val (nd R) = _
      rw [nd_val]
      omega
    rw [ev, show ((i + 1 : Nat) : Int) - 1 = (i : Int) by omega]
    refine div_digit x y hx hy i (by omega) (ih (by omega)) 9999 k q _ 0 (by omega) hq dq (fun j hj => zq j (by omega)) (zq i (by omega)) (by omega) (by omega) (by omega) ?_
    rw [hA, show vt (nd x) (i + 1) = vt (nd x) i + (nd x).getD i 0 * 10000 ^ i from rfl, ten_succ, Int.add_mul, Int.mul_assoc 10000 R, Int.mul_left_comm 10000 R, Int.mul_comm 10000 (10000 ^ i)]
    omega
theorem ref_div (x y : Int) (hx : Len 100 x) (hy : Len 100 y) (y0 : 0 < y) (k : Nat) (hk : 1003200 ≤ k) :
    cobwebref01_Div.f k (nb x) (nd x) (nb y) (nd y) = some (nb (x / y), nd (x / y), nb (x % y), nd (x % y)) := by
  have ln := len_nd hx
  unfold cobwebref01_Div.f
  rw [if_pos (by omega), Int.toNat_natCast, if_pos (by omega), show wrap64 (((nd x).length : Int) - 1) = ((nd x).length : Int) - 1 by unfold wrap64; omega]
  have h := div_rows x y hx hy y0 (nd x).length (Nat.le_refl _) k (List.replicate (nd x).length 0) 0 (by omega) (by simp) (dig_replicate _) ?_ (Int.le_refl _) y0 ?_
  · rw [show nb 0 = false from rfl, show nd 0 = [] from dg_zero] at h
    exact h
  · intro j hj
    rw [List.getD_eq_getElem?_getD, List.getElem?_replicate]
    split <;> rfl
  · rw [val_replicate, Int.zero_mul, Int.zero_mul, vt_val _ _ (Nat.le_refl _), nd_val]
    omega
end Go.Proofs.Ytpjbniihdndlmab.M
