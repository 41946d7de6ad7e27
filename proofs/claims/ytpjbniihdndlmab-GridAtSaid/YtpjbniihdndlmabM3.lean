/- Rows of digits below 10000, the lowest first: what they are worth; how the reference adds, takes away, compares and trims them. -/
import Derived.Test.YtpjbniihdndlmabM2
import Derived.Test.YtpjbniihdndlmabQx11
import Derived.Test.YtpjbniihdndlmabQx12
namespace Go.Proofs.Ytpjbniihdndlmab.M
open Go.RowKit Go.Proofs.Ytpjbniihdndlmab.H Go.Proofs.Ytpjbniihdndlmab.Q Go.Proofs.YtpjbniihdndlmabW.PrintWords Go.Proofs.YtpjbniihdndlmabW.PrintMore

def val : List Int → Int
  | [] => 0
  | d :: ds => d + 10000 * val ds
def Dig (l : List Int) : Prop := ∀ d ∈ l, 0 ≤ d ∧ d < 10000
def vt (l : List Int) : Nat → Int
  | 0 => 0
  | n + 1 => vt l n + l.getD n 0 * 10000 ^ n

theorem ten_pos (n : Nat) : (1 : Int) ≤ 10000 ^ n := by
  have : (0 : Int) < 10000 ^ n := Int.pow_pos (by decide)
  omega
theorem ten_succ (n : Nat) : (10000 : Int) ^ (n + 1) = 10000 ^ n * 10000 := Int.pow_succ _ _
theorem dig_nil : Dig [] := fun d h => by cases h
theorem dig_cons {d : Int} {ds : List Int} : Dig (d :: ds) ↔ (0 ≤ d ∧ d < 10000) ∧ Dig ds := by unfold Dig; simp
theorem dig_append {l m : List Int} : Dig (l ++ m) ↔ Dig l ∧ Dig m := by
  unfold Dig; simp only [List.mem_append]
  exact ⟨fun h => ⟨fun d hd => h d (.inl hd), fun d hd => h d (.inr hd)⟩, fun h d hd => hd.elim (h.1 d) (h.2 d)⟩
theorem dig_one {d : Int} (h : 0 ≤ d ∧ d < 10000) : Dig [d] := dig_cons.2 ⟨h, dig_nil⟩
theorem dig_getD {l : List Int} (h : Dig l) (j : Nat) : 0 ≤ l.getD j 0 ∧ l.getD j 0 < 10000 := by
  rw [List.getD_eq_getElem?_getD]
  by_cases hj : j < l.length
  · rw [List.getElem?_eq_getElem hj]; exact h _ (List.getElem_mem hj)
  · rw [List.getElem?_eq_none (by omega)]; simp
theorem getD_ge {l : List Int} {j : Nat} (h : l.length ≤ j) : l.getD j 0 = 0 := by
  rw [List.getD_eq_getElem?_getD, List.getElem?_eq_none h]; rfl
theorem val_nonneg {l : List Int} (h : Dig l) : 0 ≤ val l := by
  induction l with
  | nil => exact Int.le_refl _
  | cons d ds ih => have := dig_cons.1 h; have := ih this.2; unfold val; omega
theorem val_append (l : List Int) (d : Int) : val (l ++ [d]) = val l + d * 10000 ^ l.length := by
  induction l with
  | nil => simp [val]
  | cons e l ih =>
    simp only [List.cons_append, val, ih, List.length_cons, ten_succ]
    have : d * (10000 ^ l.length * 10000) = 10000 * (d * 10000 ^ l.length) := by rw [Int.mul_left_comm 10000, Int.mul_comm 10000]
    rw [this]; omega
theorem vt_cons (d : Int) (ds : List Int) (n : Nat) : vt (d :: ds) (n + 1) = d + 10000 * vt ds n := by
  induction n with
  | zero => simp [vt]
  | succ n ih =>
    have e : vt (d :: ds) (n + 1 + 1) = vt (d :: ds) (n + 1) + (d :: ds).getD (n + 1) 0 * 10000 ^ (n + 1) := rfl
    have e2 : vt ds (n + 1) = vt ds n + ds.getD n 0 * 10000 ^ n := rfl
    rw [e, ih, e2, List.getD_cons_succ, ten_succ]
    have : ds.getD n 0 * (10000 ^ n * 10000) = 10000 * (ds.getD n 0 * 10000 ^ n) := by rw [Int.mul_left_comm 10000, Int.mul_comm 10000]
    rw [this]; omega
theorem vt_nil (n : Nat) : vt [] n = 0 := by
  induction n with
  | zero => rfl
  | succ n ih => simp [vt, ih]
theorem vt_val (l : List Int) : ∀ n, l.length ≤ n → vt l n = val l := by
  induction l with
  | nil => intro n _; exact vt_nil n
  | cons d ds ih =>
    intro n hn
    obtain ⟨n, rfl⟩ : ∃ m, n = m + 1 := ⟨n - 1, by simp at hn; omega⟩
    rw [vt_cons, ih n (by simpa using hn)]; rfl
theorem vt_bd {l : List Int} (h : Dig l) (n : Nat) : 0 ≤ vt l n ∧ vt l n < 10000 ^ n := by
  induction n with
  | zero => simp [vt]
  | succ n ih =>
    have g := dig_getD h n
    have p := ten_pos n
    have e : vt l (n + 1) = vt l n + l.getD n 0 * 10000 ^ n := rfl
    rw [e, ten_succ]
    have h1 : 0 ≤ l.getD n 0 * 10000 ^ n := Int.mul_nonneg g.1 (by omega)
    have h2 : l.getD n 0 * 10000 ^ n ≤ 9999 * 10000 ^ n := Int.mul_le_mul_of_nonneg_right (by omega) (by omega)
    omega
theorem val_lt {l : List Int} (h : Dig l) : val l < 10000 ^ l.length := by
  rw [← vt_val l l.length (Nat.le_refl _)]; exact (vt_bd h _).2
theorem val_set (l : List Int) (v : Int) : ∀ j, j < l.length → val (l.set j v) = val l + (v - l.getD j 0) * 10000 ^ j := by
  induction l with
  | nil => intro j hj; simp at hj
  | cons d ds ih =>
    intro j hj
    cases j with
    | zero => simp [val]; omega
    | succ j =>
      simp only [List.set_cons_succ, val, List.getD_cons_succ, ih j (by simpa using hj), ten_succ]
      have : (v - ds.getD j 0) * (10000 ^ j * 10000) = 10000 * ((v - ds.getD j 0) * 10000 ^ j) := by rw [Int.mul_left_comm 10000, Int.mul_comm 10000]
      rw [this]; omega
theorem dig_set {l : List Int} (h : Dig l) (j : Nat) {v : Int} (hv : 0 ≤ v ∧ v < 10000) : Dig (l.set j v) := by
  intro d hd
  rcases List.mem_or_eq_of_mem_set hd with h1 | h1
  · exact h d h1
  · rw [h1]; exact hv
theorem val_replicate (n : Nat) : val (List.replicate n 0) = 0 := by
  induction n with
  | zero => rfl
  | succ n ih => simp [List.replicate_succ, val, ih]
theorem dig_replicate (n : Nat) : Dig (List.replicate n 0) := fun d hd => by rw [List.eq_of_mem_replicate hd]; decide

/-- The digits of a number. -/
def dg (n : Nat) : List Int := if n = 0 then [] else ((n % 10000 : Nat) : Int) :: dg (n / 10000)
termination_by n
decreasing_by omega
theorem dg_zero : dg 0 = [] := by rw [dg]; rfl
theorem dg_pos {n : Nat} (h : n ≠ 0) : dg n = ((n % 10000 : Nat) : Int) :: dg (n / 10000) := by rw [dg, if_neg h]
theorem dg_val (n : Nat) : val (dg n) = n := by
  induction n using Nat.strongRecOn with
  | ind n ih =>
    by_cases h : n = 0
    · subst h; rw [dg_zero]; rfl
    · rw [dg_pos h]; unfold val; rw [ih _ (by omega)]; omega
theorem dg_dig (n : Nat) : Dig (dg n) := by
  induction n using Nat.strongRecOn with
  | ind n ih =>
    by_cases h : n = 0
    · subst h; rw [dg_zero]; exact dig_nil
    · rw [dg_pos h]; exact dig_cons.2 ⟨by omega, ih _ (by omega)⟩
theorem dg_len (L : Nat) : ∀ n : Nat, n < 10000 ^ L → (dg n).length ≤ L := by
  induction L with
  | zero => intro n h; obtain rfl : n = 0 := by simp at h; omega
            rw [dg_zero]; simp
  | succ L ih =>
    intro n h
    by_cases hn : n = 0
    · subst hn; rw [dg_zero]; simp
    · rw [dg_pos hn]
      have := ih (n / 10000) (by rw [Nat.pow_succ] at h; omega)
      simp; omega
theorem dg_nil {n : Nat} : dg n = [] ↔ n = 0 := by
  constructor
  · intro h
    have := dg_val n
    rw [h] at this
    have e : val [] = 0 := rfl
    omega
  · intro h; subst h; exact dg_zero
/-- A row whose highest digit is not 0 is that of its number. -/
theorem can_eq : ∀ (l : List Int) (d : Int), Dig (l ++ [d]) → d ≠ 0 → 0 < val (l ++ [d]) ∧ dg (val (l ++ [d])).toNat = l ++ [d] := by
  intro l
  induction l with
  | nil =>
    intro d h hd
    have g := (dig_cons.1 h).1
    have e : val ([] ++ [d]) = d := by simp [val]
    rw [e]
    refine ⟨by omega, ?_⟩
    rw [dg_pos (by omega), show d.toNat / 10000 = 0 by omega, dg_zero, show ((d.toNat % 10000 : Nat) : Int) = d by omega]
    rfl
  | cons e l ih =>
    intro d h hd
    have g := dig_cons.1 (show Dig (e :: (l ++ [d])) from h)
    have i := ih d g.2 hd
    have ev : val (e :: l ++ [d]) = e + 10000 * val (l ++ [d]) := rfl
    rw [ev]
    refine ⟨by omega, ?_⟩
    rw [dg_pos (by omega), show (e + 10000 * val (l ++ [d])).toNat / 10000 = (val (l ++ [d])).toNat by omega, i.2, show (((e + 10000 * val (l ++ [d])).toNat % 10000 : Nat) : Int) = e by omega]
    rfl

theorem base_eq : cobwebref01_base.f = some 10000 := rfl
theorem digit_eq (l : List Int) (i : Int) (h : 0 ≤ i) : cobwebref01_digit.f l i = some (l.getD i.toNat 0) := by
  unfold cobwebref01_digit.f
  by_cases c : i < (l.length : Int)
  · rw [if_pos c, if_pos h]; rfl
  · rw [if_neg c, getD_ge (by omega)]

theorem trim_loop (b : Bool) (l' : List Int) (n : Nat) : ∀ (k : Nat) (l : List Int), l.length = n → n < k → n ≤ 1000 → Dig l →
    cobwebref01_trim.l0 k l b l' = some (b && decide (val l ≠ 0), dg (val l).toNat) := by
  induction n with
  | zero =>
    intro k l hl hk _ hd
    obtain ⟨k, rfl⟩ : ∃ m, k = m + 1 := ⟨k - 1, by omega⟩
    obtain rfl : l = [] := List.eq_nil_of_length_eq_zero hl
    simp only [cobwebref01_trim.l0]
    rw [if_neg (by simp)]
    have e : val [] = 0 := rfl
    rw [e]
    cases b <;> simp [dg_zero]
  | succ n ih =>
    intro k l hl hk hn hd
    obtain ⟨k, rfl⟩ : ∃ m, k = m + 1 := ⟨k - 1, by omega⟩
    obtain ⟨i, d, rfl⟩ : ∃ i d, l = i ++ [d] := by
      have hne : l ≠ [] := by intro h; subst h; simp at hl
      exact ⟨l.dropLast, l.getLast hne, (List.dropLast_concat_getLast hne).symm⟩
    have hi : i.length = n := by simp at hl; omega
    have ew : wrap64 (((i ++ [d]).length : Int) - 1) = (n : Int) := by rw [hl]; unfold wrap64; omega
    have er : rd (i ++ [d]) (n : Int) = d := by unfold rd; rw [Int.toNat_natCast, List.getD_eq_getElem?_getD, ← hi]; simp
    have et : (i ++ [d]).take ((n : Int)).toNat = i := by rw [Int.toNat_natCast, ← hi]; simp
    simp only [cobwebref01_trim.l0]
    rw [ew, er, et, if_pos (by omega), if_pos (by omega), if_pos (by omega)]
    have hd' := dig_append.1 hd
    by_cases c : d = 0
    · subst c
      rw [if_pos rfl, if_pos (by omega), ih k i hi (by omega) (by omega) hd'.1, val_append]
      simp
    · have := can_eq i d hd c
      rw [if_neg c, this.2]
      have h3 : val (i ++ [d]) ≠ 0 := by omega
      cases b <;> simp [h3]
theorem trim_eq (b : Bool) (l : List Int) (k : Nat) (hl : l.length ≤ 1000) (hk : 1001 ≤ k) (hd : Dig l) :
    cobwebref01_trim.f k b l = some (b && decide (val l ≠ 0), dg (val l).toNat) := trim_loop b l l.length k l rfl (by omega) hl hd

theorem size_loop (a b : List Int) (ha : Dig a) (hb : Dig b) (n : Nat) : ∀ k, n < k → n ≤ 1000 →
    cobwebref01_size.l0 k a b ((n : Int) - 1) = some (cmpI (vt a n) (vt b n)) := by
  induction n with
  | zero =>
    intro k hk _
    obtain ⟨k, rfl⟩ : ∃ m, k = m + 1 := ⟨k - 1, by omega⟩
    simp only [cobwebref01_size.l0]
    rw [if_neg (by omega)]
    rfl
  | succ n ih =>
    intro k hk hn
    obtain ⟨k, rfl⟩ : ∃ m, k = m + 1 := ⟨k - 1, by omega⟩
    simp only [cobwebref01_size.l0]
    rw [show ((n + 1 : Nat) : Int) - 1 = (n : Int) by omega, if_pos (by omega), digit_eq a _ (by omega), digit_eq b _ (by omega)]
    simp only [Option.bind_some, Int.toNat_natCast]
    have va : vt a (n + 1) = vt a n + a.getD n 0 * 10000 ^ n := rfl
    have vb : vt b (n + 1) = vt b n + b.getD n 0 * 10000 ^ n := rfl
    have ba := vt_bd ha n
    have bb := vt_bd hb n
    rw [va, vb]
    generalize a.getD n 0 = x at *
    generalize b.getD n 0 = y at *
    have p := ten_pos n
    by_cases c1 : x < y
    · rw [if_pos c1]
      have : (x + 1) * 10000 ^ n ≤ y * 10000 ^ n := Int.mul_le_mul_of_nonneg_right (by omega) (by omega)
      rw [Int.add_mul] at this
      unfold cmpI; rw [if_pos (by omega)]
    · rw [if_neg c1]
      by_cases c2 : x > y
      · rw [if_pos c2]
        have : (y + 1) * 10000 ^ n ≤ x * 10000 ^ n := Int.mul_le_mul_of_nonneg_right (by omega) (by omega)
        rw [Int.add_mul] at this
        unfold cmpI; rw [if_neg (by omega), if_pos (by omega)]
      · obtain rfl : x = y := by omega
        rw [if_neg c2, show wrap64 ((n : Int) - 1) = (n : Int) - 1 by unfold wrap64; omega, ih k (by omega) (by omega)]
        unfold cmpI
        congr 1
        repeat' split
        all_goals omega
theorem size_eq' (a b : List Int) (k : Nat) (hla : a.length ≤ 1000) (hlb : b.length ≤ 1000) (hk : 1001 ≤ k) (ha : Dig a) (hb : Dig b) :
    cobwebref01_size.f k a b = some (cmpI (val a) (val b)) := by
  unfold cobwebref01_size.f
  have e : wrap64 (mx (a.length : Int) (b.length : Int) - 1) = ((max a.length b.length : Nat) : Int) - 1 := by unfold mx wrap64; split <;> omega
  rw [e, size_loop a b ha hb _ k (by omega) (by omega), vt_val a _ (by omega), vt_val b _ (by omega)]

theorem plus_loop (a b : List Int) (ha : Dig a) (hb : Dig b) (hla : a.length ≤ 1000) (hlb : b.length ≤ 1000) (m : Nat) : ∀ (k : Nat) (out : List Int) (c : Int), 2 * m + 4 ≤ k → out.length + m = max a.length b.length → Dig out → 0 ≤ c → c ≤ 1 →
    val out + c * 10000 ^ out.length = vt a out.length + vt b out.length →
    ∃ r, cobwebref01_plus.l0 k a b out c (out.length : Int) = some r ∧ Dig r ∧ val r = val a + val b ∧ r.length ≤ max a.length b.length + 1 := by
  have hmx : mx (a.length : Int) (b.length : Int) = ((max a.length b.length : Nat) : Int) := by unfold mx; split <;> omega
  have step : ∀ (k : Nat) (out : List Int) (c : Int), out.length ≤ 1000 → 0 ≤ c → c ≤ 1 →
      cobwebref01_plus.j1 (k + 1) a b out c (out.length : Int) true = cobwebref01_plus.l0 k a b (out ++ [(c + a.getD out.length 0 + b.getD out.length 0) % 10000]) ((c + a.getD out.length 0 + b.getD out.length 0) / 10000) ((out.length + 1 : Nat) : Int) := by
    intro k out c ho c0 c1
    have g1 := dig_getD ha out.length
    have g2 := dig_getD hb out.length
    simp only [cobwebref01_plus.j1, if_true]
    rw [digit_eq a _ (by omega), digit_eq b _ (by omega), base_eq]
    simp only [Option.bind_some, Int.toNat_natCast]
    generalize a.getD out.length 0 = x at *
    generalize b.getD out.length 0 = y at *
    rw [if_neg (by decide), if_pos (by omega), show wrap64 (wrap64 (c + x) + y) = c + x + y by unfold wrap64; omega, Int.tmod_eq_emod_of_nonneg (by omega), Int.tdiv_eq_ediv_of_nonneg (by omega),
      show wrap64 ((c + x + y) / 10000) = (c + x + y) / 10000 by unfold wrap64; omega, show wrap64 ((out.length : Int) + 1) = ((out.length + 1 : Nat) : Int) by unfold wrap64; omega]
    simp
  have inv : ∀ (out : List Int) (c : Int), Dig out → 0 ≤ c → c ≤ 1 → val out + c * 10000 ^ out.length = vt a out.length + vt b out.length →
      Dig (out ++ [(c + a.getD out.length 0 + b.getD out.length 0) % 10000]) ∧ 0 ≤ (c + a.getD out.length 0 + b.getD out.length 0) / 10000 ∧ (c + a.getD out.length 0 + b.getD out.length 0) / 10000 ≤ 1 ∧
      val (out ++ [(c + a.getD out.length 0 + b.getD out.length 0) % 10000]) + (c + a.getD out.length 0 + b.getD out.length 0) / 10000 * 10000 ^ (out.length + 1) = vt a (out.length + 1) + vt b (out.length + 1) := by
    intro out c hd c0 c1 hv
    have g1 := dig_getD ha out.length
    have g2 := dig_getD hb out.length
    have va : vt a (out.length + 1) = vt a out.length + a.getD out.length 0 * 10000 ^ out.length := rfl
    have vb : vt b (out.length + 1) = vt b out.length + b.getD out.length 0 * 10000 ^ out.length := rfl
    rw [va, vb]
    generalize a.getD out.length 0 = x at *
    generalize b.getD out.length 0 = y at *
    refine ⟨dig_append.2 ⟨hd, dig_one (by omega)⟩, by omega, by omega, ?_⟩
    rw [val_append, ten_succ]
    have e : (c + x + y) = (c + x + y) / 10000 * 10000 + (c + x + y) % 10000 := by omega
    generalize (c + x + y) / 10000 = q at *
    generalize (c + x + y) % 10000 = r at *
    generalize (10000 : Int) ^ out.length = P at *
    have e3 : q * (P * 10000) = q * 10000 * P := by rw [Int.mul_comm P, Int.mul_assoc]
    have e4 : (q * 10000 + r) * P = (c + x + y) * P := by rw [e]
    simp only [Int.add_mul] at e4
    omega
  induction m with
  | zero =>
    intro k out c hk hm hd c0 c1 hv
    obtain ⟨k, rfl⟩ : ∃ m, k = m + 4 := ⟨k - 4, by omega⟩
    have vA := vt_val a out.length (by omega)
    have vB := vt_val b out.length (by omega)
    simp only [cobwebref01_plus.l0, hmx]
    rw [if_neg (by omega)]
    by_cases cz : c = 0
    · subst cz
      simp only [cobwebref01_plus.j1]
      exact ⟨out, by simp, hd, by simp at hv; omega, by omega⟩
    · obtain rfl : c = 1 := by omega
      rw [show decide ((1 : Int) > 0) = true by decide, step _ _ _ (by omega) (by omega) (by omega)]
      have i := inv out 1 hd (by omega) (by omega) hv
      rw [getD_ge (show a.length ≤ out.length by omega), getD_ge (show b.length ≤ out.length by omega)] at *
      simp only [cobwebref01_plus.l0, hmx]
      rw [if_neg (by omega)]
      simp only [cobwebref01_plus.j1]
      refine ⟨_, if_neg (by decide), i.1, ?_, by simp; omega⟩
      have h4 := i.2.2.2
      rw [vt_val a (out.length + 1) (by omega), vt_val b (out.length + 1) (by omega)] at h4
      simp at h4 ⊢
      omega
  | succ m ih =>
    intro k out c hk hm hd c0 c1 hv
    obtain ⟨k, rfl⟩ : ∃ m, k = m + 2 := ⟨k - 2, by omega⟩
    simp only [cobwebref01_plus.l0, hmx]
    rw [if_pos (by omega), step _ _ _ (by omega) c0 c1]
    have i := inv out c hd c0 c1 hv
    have := ih k _ _ (by omega) (by simp; omega) i.1 i.2.1 i.2.2.1 (by simpa using i.2.2.2)
    simpa using this
theorem plus_eq (a b : List Int) (k : Nat) (hla : a.length ≤ 900) (hlb : b.length ≤ 900) (hk : 2010 ≤ k) (ha : Dig a) (hb : Dig b) :
    ∃ r, cobwebref01_plus.f k a b = some r ∧ Dig r ∧ val r = val a + val b ∧ r.length ≤ max a.length b.length + 1 := by
  unfold cobwebref01_plus.f
  exact plus_loop a b ha hb (by omega) (by omega) (max a.length b.length) k [] 0 (by omega) (by simp) dig_nil (by omega) (by omega) (by simp [val, vt])

theorem minus_loop (a b : List Int) (ha : Dig a) (hb : Dig b) (hla : a.length ≤ 1000) (m : Nat) : ∀ (k : Nat) (out : List Int) (c : Int), m < k → out.length + m = a.length → Dig out → 0 ≤ c → c ≤ 1 →
    val out = vt a out.length - vt b out.length + c * 10000 ^ out.length →
    ∃ r c', cobwebref01_minus.l0 k a b out c (out.length : Int) = some r ∧ Dig r ∧ r.length = a.length ∧ 0 ≤ c' ∧ val r = val a - vt b a.length + c' * 10000 ^ a.length := by
  induction m with
  | zero =>
    intro k out c hk hm hd c0 c1 hv
    obtain ⟨k, rfl⟩ : ∃ m, k = m + 1 := ⟨k - 1, by omega⟩
    simp only [cobwebref01_minus.l0]
    rw [if_neg (by omega)]
    obtain e : out.length = a.length := by omega
    refine ⟨out, c, rfl, hd, e, c0, ?_⟩
    rw [hv, e, vt_val a a.length (Nat.le_refl _)]
  | succ m ih =>
    intro k out c hk hm hd c0 c1 hv
    obtain ⟨k, rfl⟩ : ∃ m, k = m + 1 := ⟨k - 1, by omega⟩
    have g1 := dig_getD ha out.length
    have g2 := dig_getD hb out.length
    have va : vt a (out.length + 1) = vt a out.length + a.getD out.length 0 * 10000 ^ out.length := rfl
    have vb : vt b (out.length + 1) = vt b out.length + b.getD out.length 0 * 10000 ^ out.length := rfl
    have er : rd a (out.length : Int) = a.getD out.length 0 := by unfold rd; rw [Int.toNat_natCast]
    simp only [cobwebref01_minus.l0]
    rw [if_pos (by omega), if_pos (by omega), digit_eq b _ (by omega), er, base_eq]
    simp only [Option.bind_some, Int.toNat_natCast]
    generalize a.getD out.length 0 = x at *
    generalize b.getD out.length 0 = y at *
    rw [show wrap64 (wrap64 (x - y) - c) = x - y - c by unfold wrap64; omega, show wrap64 ((out.length : Int) + 1) = ((out.length + 1 : Nat) : Int) by unfold wrap64; omega]
    by_cases cz : x - y - c < 0
    · rw [if_pos cz, if_pos (by omega), show wrap64 (x - y - c + 10000) = x - y - c + 10000 by unfold wrap64; omega]
      have := ih k (out ++ [x - y - c + 10000]) 1 (by omega) (by simp; omega) (dig_append.2 ⟨hd, dig_one (by omega)⟩) (by omega) (by omega) (by
        rw [val_append, List.length_append, List.length_singleton, va, vb, ten_succ]
        generalize (10000 : Int) ^ out.length = P at *
        simp only [Int.add_mul, Int.sub_mul]
        omega)
      simpa using this
    · rw [if_neg cz, if_pos (by omega)]
      have := ih k (out ++ [x - y - c]) 0 (by omega) (by simp; omega) (dig_append.2 ⟨hd, dig_one (by omega)⟩) (by omega) (by omega) (by
        rw [val_append, List.length_append, List.length_singleton, va, vb]
        generalize (10000 : Int) ^ out.length = P at *
        simp only [Int.sub_mul]
        omega)
      simpa using this
theorem minus_eq (a b : List Int) (k : Nat) (hla : a.length ≤ 1000) (hk : 1001 ≤ k) (ha : Dig a) (hb : Dig b) (hle : val b ≤ val a) :
    ∃ r, cobwebref01_minus.f k a b = some r ∧ Dig r ∧ val r = val a - val b ∧ r.length = a.length := by
  unfold cobwebref01_minus.f
  obtain ⟨r, c, h1, h2, h3, h4, h5⟩ := minus_loop a b ha hb hla a.length k [] 0 (by omega) (by simp) dig_nil (by omega) (by omega) (by simp [val, vt])
  have hr := val_nonneg h2
  have hr2 := val_lt h2
  have la := val_lt ha
  have hb0 := val_nonneg hb
  have hvb : vt b a.length = val b := by
    by_cases hlen : b.length ≤ a.length
    · exact vt_val b _ hlen
    · have mono : ∀ n, a.length ≤ n → n ≤ b.length → vt b n = vt b a.length := by
        intro n h1 h2
        induction n with
        | zero => obtain h : a.length = 0 := by omega
                  rw [h]
        | succ n ih =>
          by_cases e : a.length = n + 1
          · rw [e]
          · have i := ih (by omega) (by omega)
            have g := dig_getD hb n
            have ev : vt b (n + 1) = vt b n + b.getD n 0 * 10000 ^ n := rfl
            have up : ∀ j, n + 1 ≤ j → vt b (n + 1) ≤ vt b j := by
              intro j hj
              induction j with
              | zero => omega
              | succ j ihj =>
                by_cases ej : n + 1 = j + 1
                · rw [ej]; exact Int.le_refl _
                · have gj := dig_getD hb j
                  have evj : vt b (j + 1) = vt b j + b.getD j 0 * 10000 ^ j := rfl
                  have := ihj (by omega)
                  have := Int.mul_nonneg gj.1 (show (0 : Int) ≤ 10000 ^ j by have := ten_pos j; omega)
                  omega
            have u := up b.length (by omega)
            rw [vt_val b b.length (Nat.le_refl _)] at u
            have v0 := (vt_bd hb n).1
            by_cases z : b.getD n 0 = 0
            · rw [ev, z, i]; simp
            · exfalso
              have t1 : 1 * 10000 ^ n ≤ b.getD n 0 * 10000 ^ n := Int.mul_le_mul_of_nonneg_right (by omega) (by have := ten_pos n; omega)
              have t2 : (10000 : Int) ^ a.length ≤ 10000 ^ n := by
                have e : (10000 : Int) ^ n = 10000 ^ a.length * 10000 ^ (n - a.length) := by rw [← Int.pow_add, show a.length + (n - a.length) = n by omega]
                have := Int.mul_le_mul_of_nonneg_left (ten_pos (n - a.length)) (show (0 : Int) ≤ 10000 ^ a.length by have := ten_pos a.length; omega)
                omega
              omega
      rw [← mono b.length (by omega) (Nat.le_refl _)]
      exact vt_val b _ (Nat.le_refl _)
  rw [hvb] at h5
  rw [h3] at hr2
  have hp := ten_pos a.length
  have c0 : c = 0 := by
    by_cases hc : c = 0
    · exact hc
    · exfalso
      have : 1 * 10000 ^ a.length ≤ c * 10000 ^ a.length := Int.mul_le_mul_of_nonneg_right (by omega) (by omega)
      omega
  subst c0
  exact ⟨r, h1, h2, by simp at h5; omega, h3⟩
end Go.Proofs.Ytpjbniihdndlmab.M
