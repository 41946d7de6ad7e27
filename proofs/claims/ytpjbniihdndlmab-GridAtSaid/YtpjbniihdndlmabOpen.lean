/- A struct or an array of whole numbers that came in by value: its cells, each a number of its kind. -/
import Derived.WideShapes
import Derived.RowKit
import Derived.ProofKit
import Derived.OpenShut
import Derived.ChangeOld
namespace Go.Proofs.Ytpjbniihdndlmab.Opn
variable {P : Program} {w : World} {r : Reach} {base : Nat}

theorem cell_int {u : TypeId} {k : IntKind} {c : Value} (hu : P.underlying u = some (.int k)) (h : Cell.okWide P w r base u c) : ∃ n, c = .int k n ∧ k.has n := by
 simp only [Cell.okWide, hu] at h
 cases c <;> simp_all [Cell.ok]

theorem cells {t : TypeId} {n : Nat} {ts : List TypeId} {v : Value} (hu : (∃ fs, P.underlying t = some (.struct fs)) ∨ ∃ m e, P.underlying t = some (.array m e)) (hct : P.cellTypes P.depth t = some ts)
  (hl : ts.length = n) (hC : P.cellsOf t = n) (h : Value.okWide P w r base t v) : ∃ cs : List Value, v = .agg ⟨cs⟩ ∧ cs.length = n ∧ ∀ (i : Nat) (u : TypeId), ts[i]? = some u → ∃ c, cs[i]? = some c ∧ Cell.okWide P w r base u c := by
 have h2 : ∃ cs, v = .agg cs ∧ cs.size = P.cellsOf t ∧ Row.okWide P w r base t cs := by
  rcases hu with ⟨fs, e⟩ | ⟨m, e', e⟩ <;> simp only [Value.okWide, e] at h <;> exact h
 obtain ⟨⟨cs⟩, rfl, hsz, ts', ht', _, hc⟩ := h2
 obtain rfl : ts' = ts := Option.some.inj (ht'.symm.trans hct)
 refine ⟨cs, rfl, by simpa [hC] using hsz, fun i u hi => ?_⟩
 have hlt : i < ts'.length := (List.getElem?_eq_some_iff.1 hi).1
 have hs' : cs.length = n := by simpa [hC] using hsz
 have hlt2 : i < cs.length := by omega
 refine ⟨cs[i], List.getElem?_eq_getElem hlt2, ?_⟩
 obtain ⟨u', hu', hk⟩ := hc i cs[i] (by simp [hlt2])
 rw [Nat.mod_eq_of_lt hlt, hi] at hu'
 cases hu'
 exact hk

/-- A cell of a kind. -/
theorem at_int {ts : List TypeId} {cs : List Value} {i u : Nat} {k : IntKind} (h : ∀ (i : Nat) (u : TypeId), ts[i]? = some u → ∃ c, cs[i]? = some c ∧ Cell.okWide P w r base u c) (hi : ts[i]? = some u) (hu : P.underlying u = some (.int k)) :
  ∃ n, cs[i]? = some (.int k n) ∧ k.has n := by
 obtain ⟨c, hc, ho⟩ := h i u hi
 obtain ⟨n, rfl, hw⟩ := cell_int hu ho
 exact ⟨n, hc, hw⟩

theorem list2 {α : Type} {cs : List α} {x0 x1 : α} (h : cs.length = 2) (h0 : cs[0]? = some x0) (h1 : cs[1]? = some x1) : cs = [x0, x1] := by
 match cs, h with
 | [a, b], _ => simp_all
theorem list4 {α : Type} {cs : List α} {x0 x1 x2 x3 : α} (h : cs.length = 4) (h0 : cs[0]? = some x0) (h1 : cs[1]? = some x1) (h2 : cs[2]? = some x2) (h3 : cs[3]? = some x3) : cs = [x0, x1, x2, x3] := by
 match cs, h with
 | [a, b, c, d], _ => simp_all
theorem list8 {α : Type} {cs : List α} {x0 x1 x2 x3 x4 x5 x6 x7 : α} (h : cs.length = 8) (h0 : cs[0]? = some x0) (h1 : cs[1]? = some x1) (h2 : cs[2]? = some x2) (h3 : cs[3]? = some x3)
  (h4 : cs[4]? = some x4) (h5 : cs[5]? = some x5) (h6 : cs[6]? = some x6) (h7 : cs[7]? = some x7) : cs = [x0, x1, x2, x3, x4, x5, x6, x7] := by
 match cs, h with
 | [a, b, c, d, e, f, g, i], _ => simp_all
end Go.Proofs.Ytpjbniihdndlmab.Opn
