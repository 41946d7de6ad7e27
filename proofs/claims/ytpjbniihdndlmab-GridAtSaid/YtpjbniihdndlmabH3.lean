/- A region that draws its order: calls in a row and boxes that may come up at any time between them. Each of these is shown once; what it leaves (its facts) outlasts whatever comes later. -/
import Derived.Test.YtpjbniihdndlmabH2
namespace Go.Proofs.Ytpjbniihdndlmab.H
open Go.RowKit Go.Proofs.YtpjbniihdndlmabW.PrintWords Go.Proofs.YtpjbniihdndlmabW.PrintLast Go.Proofs.YtpjbniihdndlmabW.PrintMore
set_option linter.unusedVariables false
/-- An event: the operation's number and slot; what is taken at once behind it (moves, parts of a result); the events whose results it reads; what is known of the values; the blocks from lo i to hi i are its own. -/
structure Ev where
 i : Nat
 t : Tmp
 ps : List (Nat × Tmp)
 ds : List Nat
 F : List Value → World → (Nat → Nat) → (Nat → Nat) → Prop
def Ev.sl (e : Ev) : List (Nat × Tmp) := (e.i, e.t) :: e.ps
def Ev.ix (e : Ev) : List Nat := e.i :: e.ps.map (·.1)
def slots : List Ev → List (Nat × Tmp)
 | [] => []
 | e :: r => e.sl ++ slots r
def ixs : List Ev → List Nat
 | [] => []
 | e :: r => e.ix ++ ixs r
def on (l : Array Bool) (j : Nat) : Bool := l.getD j false
def setAll : List Nat → Array Bool → Array Bool
 | [], l => l
 | j :: r, l => setAll r (l.setIfInBounds j true)
def edges (md : Region.Mode) (o : Oper) : List Nat := (o.after.toList.filter (Region.binds md)).map (·.on)
def psB (md : Region.Mode) (ops : Array Oper) : List Nat → Array Bool → List (Nat × Tmp) → Bool
 | _, _, [] => true
 | pre, l, (p, t) :: r => (match ops[p]? with
  | none => false
  | some o => o.dst == some t && (edges md o).all (on l ·) && (edges md o).any (pre.contains ·)) && Region.free md ops l p && psB md ops (p :: pre) (l.setIfInBounds p true) r
def evB (md : Region.Mode) (ops : Array Oper) (l0 : Array Bool) (e : Ev) : Bool := match ops[e.i]? with
 | none => false
 | some o => o.dst == some e.t && e.ds.all ((edges md o).contains ·) && psB md ops [e.i] ((setAll (edges md o) l0).setIfInBounds e.i true) e.ps
def topB (md : Region.Mode) (ops : Array Oper) : Array Bool → List Ev → Bool
 | _, [] => true
 | l, e :: r => (match ops[e.i]? with
  | none => false
  | some o => (edges md o).all (on l ·)) && topB md ops (setAll e.ix l) r
def restB (md : Region.Mode) (ops : Array Oper) (l0 : Array Bool) (D : List Ev) : Bool := (List.range ops.size).all fun j => on l0 j || (ixs D).contains j || match ops[j]? with
 | none => true
 | some o => D.all fun e => (edges md o).contains e.i
def nodupB : List Nat → Bool
 | [] => true
 | x :: r => !r.contains x && nodupB r
def webB (md : Region.Mode) (ops : Array Oper) (l0 l1 : Array Bool) (D : List Ev) : Bool :=
 Region.noSelect ops && l0.size == ops.size && nodupB (ixs D) && nodupB ((slots D).map (·.2)) && (ixs D).all (fun j => j < ops.size && !on l0 j) &&
 D.all (evB md ops l0) && topB md ops l0 D && restB md ops l0 D && setAll (ixs D) l0 == l1
def need : List Ev → Nat
 | [] => 0
 | e :: r => e.ix.length + need r
def AllE (p : Ev → Prop) : List Ev → Prop
 | [] => True
 | e :: r => p e ∧ AllE p r
def stA (D : List Ev) (a : Act) (x : Nat → Value) : Act := putAll a ((slots D).map fun s => (s.2, x s.1))
def YAll (P : Program) (ops : Array Oper) : List (Nat × Tmp) → List Value → Act → Prop
 | [], [], _ => True
 | (j, t) :: r, v :: vs, a => (∃ o, ops[j]? = some o ∧ Yields P ops o v a) ∧ YAll P ops r vs (a.put (some t) v)
 | _, _, _ => False
def Stb (e : Ev) : Prop := (∀ vs w w' lo hi, e.F vs w lo hi → Below w.heap.size w w' → e.F vs w' lo hi) ∧
 ∀ vs w lo hi lo' hi', (∀ j, j = e.i ∨ j ∈ e.ds → lo' j = lo j ∧ hi' j = hi j) → e.F vs w lo hi → e.F vs w lo' hi'
def updN (x : Nat → Nat) (i n : Nat) : Nat → Nat := fun j => if j = i then n else x j
def DepF (x : Nat → Value) (w : World) (lo hi : Nat → Nat) (ds : List Nat) (e : Ev) : Prop := e.i ∈ ds → e.F (e.ix.map x) w lo hi
def WebStep (P : Program) (ops : Array Oper) (Q : Exit → Act → World → Prop) (D : List Ev) (a0 : Act) (w0 : World) (S : World → Prop) (e : Ev) : Prop :=
 ∀ (x : Nat → Value) (w : World) (lo hi : Nat → Nat) (a : Act), Below w0.heap.size w0 w → S w → stA D a0 x = a → AllE (DepF x w lo hi e.ds) D →
  ∃ o, ops[e.i]? = some o ∧ ∀ K : Act → World → Prop,
   (∀ v vs w', Below w.heap.size w w' → e.F (v :: vs) w' (updN lo e.i w.heap.size) (updN hi e.i w'.heap.size) → YAll P ops e.ps vs (a.put (some e.t) v) → K (a.put (some e.t) v) w') →
   if Region.wanted o (yielded ops a.tmps) = true then Oper.wp P o a w K Q else K (a.put (some e.t) undef) w
def EvF (x : Nat → Value) (w0 w : World) (lo hi : Nat → Nat) (e : Ev) : Prop := e.F (e.ix.map x) w lo hi ∧ w0.heap.size ≤ lo e.i ∧ lo e.i ≤ hi e.i ∧ hi e.i ≤ w.heap.size
def Pairs (lo hi : Nat → Nat) : List Ev → Prop
 | [] => True
 | e :: r => AllE (fun f => hi e.i ≤ lo f.i ∨ hi f.i ≤ lo e.i) r ∧ Pairs lo hi r

theorem AllE_mem {p : Ev → Prop} : ∀ {D : List Ev}, AllE p D → ∀ e ∈ D, p e
 | _ :: _, h, e, he => by
  rcases List.mem_cons.1 he with rfl | he
  ·exact h.1
  ·exact AllE_mem h.2 e he
theorem AllE_of {p : Ev → Prop} : ∀ {D : List Ev}, (∀ e ∈ D, p e) → AllE p D
 | [], _ => trivial
 | e :: _, h => ⟨h e List.mem_cons_self, AllE_of fun f hf => h f (List.mem_cons_of_mem _ hf)⟩
theorem nodupB_cons {x : Nat} {r : List Nat} (h : nodupB (x :: r) = true) : x ∉ r ∧ nodupB r = true := by simpa [nodupB] using h
theorem nodupB_app {r s : List Nat} (h : nodupB (r ++ s) = true) : nodupB r = true ∧ nodupB s = true ∧ ∀ x ∈ r, x ∉ s := by
 induction r with
 | nil => exact ⟨rfl, h, fun _ hx => by cases hx⟩
 | cons y r ih =>
  have h' := nodupB_cons (show nodupB (y :: (r ++ s)) = true from h)
  obtain ⟨a, b, c⟩ := ih h'.2
  have hy := h'.1
  rw [List.mem_append, not_or] at hy
  refine ⟨by simp [nodupB, hy.1, a], b, fun x hx => ?_⟩
  rcases List.mem_cons.1 hx with rfl | hx
  ·exact hy.2
  ·exact c x hx
theorem on_set (l : Array Bool) (i j : Nat) : on (l.setIfInBounds i true) j = (on l j || (decide (i = j) && decide (j < l.size))) := by
 unfold on
 by_cases h : i = j
 ·subst h
  by_cases hl : i < l.size
  ·simp [hl]
  ·simp [hl]
 ·rw [getD_set_ne false h]; simp [h]
theorem setAll_size : ∀ (r : List Nat) (l : Array Bool), (setAll r l).size = l.size
 | [], _ => rfl
 | j :: r, l => by simp [setAll, setAll_size r]
theorem on_setAll : ∀ (r : List Nat) (l : Array Bool) (j : Nat), on (setAll r l) j = (on l j || (decide (j ∈ r) && decide (j < l.size)))
 | [], _, _ => by simp [setAll]
 | i :: r, l, j => by
  rw [setAll, on_setAll r, on_set]
  by_cases h : i = j
  ·subst h
   by_cases hl : i < l.size <;> simp [hl]
  ·simp [h, Ne.symm h]
theorem un_on {l : Array Bool} {j : Nat} (hj : j < l.size) : l.getD j true = on l j := by unfold on; simp [hj]
theorem putAll_put : ∀ (L : List (Tmp × Value)) (a : Act) (t : Tmp) (v : Value), t ∉ L.map (·.1) → (putAll a L).put (some t) v = putAll (a.put (some t) v) L
 | [], _, _, _, _ => rfl
 | (n, u) :: L, a, t, v, h => by
  simp only [List.map_cons, List.mem_cons, not_or] at h
  rw [putAll, putAll_put L _ t v h.2, putAll, Act.put_comm a u v (fun d hd => by cases hd; exact fun e => h.1 (Option.some.inj e))]
theorem put_put (a : Act) (t : Tmp) (u v : Value) : (a.put (some t) u).put (some t) v = a.put (some t) v := by simp [Act.put]
def upd (x : Nat → Value) (i : Nat) (v : Value) : Nat → Value := fun j => if j = i then v else x j
theorem st_put (x : Nat → Value) (i : Nat) (t : Tmp) (v : Value) : ∀ (L : List (Nat × Tmp)) (a : Act), (i, t) ∈ L → nodupB (L.map (·.1)) = true → nodupB (L.map (·.2)) = true →
  (putAll a (L.map fun s => (s.2, x s.1))).put (some t) v = putAll a (L.map fun s => (s.2, upd x i v s.1))
 | [], _, h, _, _ => by cases h
 | (j, u) :: L, a, h, h1, h2 => by
  have n1 := nodupB_cons h1
  have n2 := nodupB_cons h2
  simp only [List.map_cons, putAll]
  rcases List.mem_cons.1 h with h | h
  ·obtain ⟨rfl, rfl⟩ := Prod.mk.inj h
   rw [putAll_put _ _ t v (by rw [List.map_map]; exact n2.1), put_put]
   congr 1
   ·simp [upd]
   ·refine List.map_congr_left fun s hs => ?_
    have : s.1 ≠ i := fun e => n1.1 (List.mem_map.2 ⟨s, hs, e⟩)
    simp [upd, this]
  ·have : j ≠ i := fun e => n1.1 (by rw [e]; exact List.mem_map_of_mem (f := (·.1)) h)
   rw [st_put x i t v L _ h n1.2 n2.2]
   simp [upd, this]
def updL (x : Nat → Value) : List (Nat × Tmp) → List Value → (Nat → Value)
 | (j, _) :: r, v :: vs => updL (upd x j v) r vs
 | _, _ => x
theorem updL_out (j : Nat) : ∀ (r : List (Nat × Tmp)) (vs : List Value) (x : Nat → Value), j ∉ r.map (·.1) → updL x r vs j = x j
 | [], _, _, _ => by simp [updL]
 | _ :: _, [], _, _ => by simp [updL]
 | (i, t) :: r, v :: vs, x, h => by
  simp only [List.map_cons, List.mem_cons, not_or] at h
  rw [updL, updL_out j r vs _ h.2]
  simp [upd, h.1]
theorem updL_map : ∀ (r : List (Nat × Tmp)) (vs : List Value) (x : Nat → Value), vs.length = r.length → nodupB (r.map (·.1)) = true → (r.map (·.1)).map (updL x r vs) = vs
 | [], [], _, _, _ => rfl
 | (i, t) :: r, v :: vs, x, h, hn => by
  have n := nodupB_cons hn
  simp only [List.map_cons, updL]
  rw [updL_map r vs _ (by simpa using h) n.2, updL_out i r vs _ n.1]
  simp [upd]
theorem putAll_self : ∀ (L : List (Nat × Tmp)) (a : Act) (x : Nat → Value), (∀ s ∈ L, x s.1 = a.tmps.getD s.2 undef) → putAll a (L.map fun s => (s.2, x s.1)) = a
 | [], _, _, _ => rfl
 | s :: L, a, x, h => by
  have h1 : a.put (some s.2) (x s.1) = a := by
   rw [h s List.mem_cons_self]
   cases a with
   | mk ts ds =>
    simp only [Act.put, Act.mk.injEq, and_true]
    refine Array.ext (by simp) fun j h1 h2 => ?_
    by_cases e : s.2 = j
    ·subst e; simp [h2]
    ·rw [Array.getElem_setIfInBounds_ne (by simpa using h2) e]
  rw [List.map_cons, putAll, h1]
  exact putAll_self L a x fun q hq => h q (List.mem_cons_of_mem _ hq)
def dstOf : List (Nat × Tmp) → Nat → Tmp
 | [], _ => 0
 | s :: L, i => if s.1 = i then s.2 else dstOf L i
theorem dstOf_mem : ∀ (L : List (Nat × Tmp)), nodupB (L.map (·.1)) = true → ∀ s ∈ L, dstOf L s.1 = s.2
 | q :: L, h, s, hs => by
  have n := nodupB_cons h
  rcases List.mem_cons.1 hs with rfl | hs
  ·simp [dstOf]
  ·have : q.1 ≠ s.1 := fun e => n.1 (List.mem_map.2 ⟨s, hs, e.symm⟩)
   rw [dstOf, if_neg this]
   exact dstOf_mem L n.2 s hs
theorem slots_ixs : ∀ D : List Ev, (slots D).map (·.1) = ixs D
 | [] => rfl
 | e :: r => by simp [slots, ixs, slots_ixs r, Ev.sl, Ev.ix]
theorem st_self (D : List Ev) (a : Act) (h : nodupB (ixs D) = true) : ∃ x, stA D a x = a :=
 ⟨fun i => a.tmps.getD (dstOf (slots D) i) undef, putAll_self (slots D) a (fun i => a.tmps.getD (dstOf (slots D) i) undef) fun s hs => by rw [dstOf_mem (slots D) (by rw [slots_ixs]; exact h) s hs]⟩
theorem mem_slots {e : Ev} {s : Nat × Tmp} (hs : s ∈ e.sl) : ∀ {D : List Ev}, e ∈ D → s ∈ slots D
 | f :: r, h => by
  rcases List.mem_cons.1 h with rfl | h
  ·exact List.mem_append_left _ hs
  ·exact List.mem_append_right _ (mem_slots hs h)
theorem mem_ixs {e : Ev} {j : Nat} (hj : j ∈ e.ix) : ∀ {D : List Ev}, e ∈ D → j ∈ ixs D
 | f :: r, h => by
  rcases List.mem_cons.1 h with rfl | h
  ·exact List.mem_append_left _ hj
  ·exact List.mem_append_right _ (mem_ixs hj h)
theorem of_ixs {j : Nat} : ∀ {D : List Ev}, j ∈ ixs D → ∃ e ∈ D, j ∈ e.ix
 | e :: r, h => by
  rcases List.mem_append.1 h with h | h
  ·exact ⟨e, List.mem_cons_self, h⟩
  ·obtain ⟨f, hf, hj⟩ := of_ixs h
   exact ⟨f, List.mem_cons_of_mem _ hf, hj⟩
/-- Two events that share a number are one. -/
theorem ixs_apart {e f : Ev} {j : Nat} : ∀ {D : List Ev}, nodupB (ixs D) = true → e ∈ D → f ∈ D → j ∈ e.ix → j ∈ f.ix → e = f
 | g :: r, hn, he, hf, h1, h2 => by
  obtain ⟨_, n2, n3⟩ := nodupB_app (show nodupB (g.ix ++ ixs r) = true from hn)
  rcases List.mem_cons.1 he with rfl | he1 <;> rcases List.mem_cons.1 hf with rfl | hf1
  ·rfl
  ·exact absurd (mem_ixs h2 hf1) (n3 j h1)
  ·exact absurd (mem_ixs h1 he1) (n3 j h2)
  ·exact ixs_apart n2 he1 hf1 h1 h2
theorem ix_nodup {e : Ev} : ∀ {D : List Ev}, nodupB (ixs D) = true → e ∈ D → nodupB e.ix = true
 | g :: r, hn, he => by
  obtain ⟨n1, n2, _⟩ := nodupB_app (show nodupB (g.ix ++ ixs r) = true from hn)
  rcases List.mem_cons.1 he with rfl | he
  ·exact n1
  ·exact ix_nodup n2 he
def rem (l : Array Bool) : List Ev → Nat
 | [] => 0
 | e :: r => (if on l e.i then 0 else e.ix.length) + rem l r
theorem rem_same {l l' : Array Bool} : ∀ {D : List Ev}, (∀ f ∈ D, on l' f.i = on l f.i) → rem l' D = rem l D
 | [], _ => rfl
 | e :: r, h => by rw [rem, rem, h e List.mem_cons_self, rem_same fun f hf => h f (List.mem_cons_of_mem _ hf)]
theorem rem_step {l l' : Array Bool} {e : Ev} : ∀ {D : List Ev}, nodupB (ixs D) = true → e ∈ D → on l e.i = false → on l' e.i = true → (∀ f ∈ D, f.i ≠ e.i → on l' f.i = on l f.i) → rem l D = e.ix.length + rem l' D
 | g :: r, hn, he, h0, h1, hs => by
  obtain ⟨_, n2, n3⟩ := nodupB_app (show nodupB (g.ix ++ ixs r) = true from hn)
  rcases List.mem_cons.1 he with rfl | he
  ·have : rem l' r = rem l r := rem_same fun f hf => hs f (List.mem_cons_of_mem _ hf) fun h => n3 e.i List.mem_cons_self (h ▸ mem_ixs (List.mem_cons_self) hf)
   rw [rem, rem, h0, h1, this]
   simp
  ·have hg : g.i ≠ e.i := fun h => n3 g.i List.mem_cons_self (h ▸ mem_ixs (List.mem_cons_self) he)
   rw [rem, rem, hs g List.mem_cons_self hg, rem_step n2 he h0 h1 fun f hf => hs f (List.mem_cons_of_mem _ hf)]
   omega
theorem rem_zero {l : Array Bool} : ∀ {D : List Ev}, rem l D = 0 → ∀ e ∈ D, on l e.i = true
 | g :: r, h, e, he => by
  have hg : 0 < g.ix.length := by simp [Ev.ix]
  rw [rem] at h
  rcases List.mem_cons.1 he with rfl | he
  ·by_cases c : on l e.i = true
   ·exact c
   ·rw [if_neg c] at h; omega
  ·exact rem_zero (by omega) e he
theorem rem_pos {l : Array Bool} {D : List Ev} (h : rem l D ≠ 0) : ∃ e ∈ D, on l e.i = false := by
 induction D with
 | nil => exact absurd rfl h
 | cons g r ih =>
  by_cases c : on l g.i = true
  ·rw [rem, if_pos c, Nat.zero_add] at h
   obtain ⟨e, he, h'⟩ := ih h
   exact ⟨e, List.mem_cons_of_mem _ he, h'⟩
  ·exact ⟨g, List.mem_cons_self, by simpa using c⟩
theorem rem_none {l : Array Bool} : ∀ {D : List Ev}, (∀ e ∈ D, on l e.i = false) → rem l D = need D
 | [], _ => rfl
 | e :: r, h => by rw [rem, need, h e List.mem_cons_self, rem_none fun f hf => h f (List.mem_cons_of_mem _ hf)]; simp
section
variable {P : Program} {ops : Array Oper} {Q : Exit → Act → World → Prop} {md : Region.Mode} {S : World → Prop}
theorem mem_edges {o : Oper} {d : Nat} : d ∈ edges md o ↔ ∃ e ∈ o.after, Region.binds md e = true ∧ e.on = d := by
 simp [edges, and_assoc]
theorem ready_of {l : Array Bool} {j : Nat} {o : Oper} (hj : j < l.size) (h0 : on l j = false) (ho : ops[j]? = some o) (h : ∀ d ∈ edges md o, on l d = true) : j ∈ Region.ready md ops l :=
 mem_ready.2 ⟨by rw [un_on hj]; exact h0, o, ho, fun e he hb => h e.on (mem_edges.2 ⟨e, he, hb, rfl⟩)⟩
theorem ready_to {l : Array Bool} {j : Nat} (hs : l.size = ops.size) (h : j ∈ Region.ready md ops l) : j < l.size ∧ on l j = false ∧ ∃ o, ops[j]? = some o ∧ ∀ d ∈ edges md o, on l d = true := by
 obtain ⟨h0, o, ho, h1⟩ := mem_ready.1 h
 have hj : j < l.size := by rw [hs]; exact (Array.getElem?_eq_some_iff.1 ho).1
 rw [un_on hj] at h0
 refine ⟨hj, h0, o, ho, fun d hd => ?_⟩
 obtain ⟨e, he, hb, rfl⟩ := mem_edges.1 hd
 exact h1 e he hb
theorem top_ready {l : Array Bool} (hs : l.size = ops.size) : ∀ (D : List Ev) (l' : Array Bool), topB md ops l' D = true → (∀ j, on l' j = true → on l j = true) → (∀ e ∈ D, ∀ j ∈ e.ix, on l j = on l e.i) → (∃ e ∈ D, on l e.i = false) → ∃ j, j ∈ Region.ready md ops l
 | [], _, _, _, _, h => by obtain ⟨_, h, _⟩ := h; cases h
 | e :: r, l', hT, hl, hb, h => by
  rw [topB, Bool.and_eq_true] at hT
  obtain ⟨h1, h2⟩ := hT
  cases ho : ops[e.i]? with
  | none => rw [ho] at h1; cases h1
  | some o =>
   rw [ho] at h1
   cases hc : on l e.i with
   | false => exact ⟨e.i, ready_of (by rw [hs]; exact (Array.getElem?_eq_some_iff.1 ho).1) hc ho fun d hd => hl d (List.all_eq_true.1 h1 d hd)⟩
   | true =>
    refine top_ready hs r _ h2 (fun j hj => ?_) (fun f hf => hb f (List.mem_cons_of_mem _ hf)) ?_
    ·rw [on_setAll, Bool.or_eq_true, Bool.and_eq_true, decide_eq_true_eq] at hj
     rcases hj with hj | hj
     ·exact hl j hj
     ·rw [hb e List.mem_cons_self j hj.1]; exact hc
    ·obtain ⟨f, hf, h'⟩ := h
     rcases List.mem_cons.1 hf with rfl | hf
     ·rw [hc] at h'; cases h'
     ·exact ⟨f, hf, h'⟩
/-- What is taken at once behind an event. -/
theorem pures_run (hsel : Region.noSelect ops = true) (hQ : ∀ c t v a w, Q (.panic c) (a.put t v) w → Q (.panic c) a w) {fuel : Nat} {w : World} :
  ∀ (ps : List (Nat × Tmp)) (vs : List Value) (pre : List Nat) (l lm : Array Bool) (a : Act) (x : Nat → Value) (L : List (Nat × Tmp)) (b : Act), l.size = ops.size → lm.size = ops.size → (∀ j, on lm j = true → on l j = true) → psB md ops pre lm ps = true → (∀ p ∈ ps, on l p.1 = false) → nodupB (ps.map (·.1)) = true →
   YAll P ops ps vs a → a = putAll b (L.map fun s => (s.2, x s.1)) → (∀ p ∈ ps, p ∈ L) → nodupB (L.map (·.1)) = true → nodupB (L.map (·.2)) = true →
   wpAnyLast P md ops Q S [] fuel (setAll (ps.map (·.1)) l) (putAll b (L.map fun s => (s.2, updL x ps vs s.1))) w → wpAnyLast P md ops Q S [] (ps.length + fuel) l a w
 | [], vs, _, l, _, a, x, L, b, _, _, _, _, _, _, hy, ha, _, _, _, h => by
  have : updL x [] vs = x := by cases vs <;> rfl
  rw [this] at h
  rw [ha]
  simpa [setAll] using h
 | (p, t) :: r, [], _, _, _, _, _, _, _, _, _, _, _, _, _, hy, _, _, _, _, _ => by simp [YAll] at hy
 | (p, t) :: r, v :: vs, pre, l, lm, a, x, L, b, hs, hsm, hlm, hB, hun, hnd, hy, ha, hL, n1, n2, h => by
  simp only [psB, Bool.and_eq_true] at hB
  obtain ⟨⟨h1, h2⟩, h3⟩ := hB
  obtain ⟨⟨o, ho, hyo⟩, hy⟩ := hy
  rw [ho] at h1
  simp only [Bool.and_eq_true, beq_iff_eq] at h1
  obtain ⟨⟨hd, he⟩, _⟩ := h1
  have hn := nodupB_cons hnd
  have hp : p < l.size := by rw [hs]; exact (Array.getElem?_eq_some_iff.1 ho).1
  rw [List.length_cons, show r.length + 1 + fuel = (r.length + fuel) + 1 by omega]
  refine wpAnyLast_any ho (Region.noSelect_spec hsel) (fun c a w => hQ c o.dst v a w) _ l a w (fun j oj hj hne hu hno => ?_) (ready_of hp (hun _ List.mem_cons_self) ho fun d hd => hlm d (List.all_eq_true.1 he d hd)) hyo ?_
  ·refine Region.free_spec ho h2 j oj hj hne ?_ hno
   have hjl : j < ops.size := (Array.getElem?_eq_some_iff.1 hj).1
   rw [un_on (by rw [hs]; exact hjl)] at hu
   rw [un_on (by rw [hsm]; exact hjl)]
   cases c : on lm j with
   | false => rfl
   | true => rw [hlm j c] at hu; cases hu
  ·rw [hd]
   refine pures_run hsel hQ r vs (p :: pre) _ (lm.setIfInBounds p true) _ (upd x p v) L b (by simpa using hs) (by simpa using hsm) (fun j hj => ?_) h3 (fun q hq => ?_) hn.2 hy ?_ (fun q hq => hL q (List.mem_cons_of_mem _ hq)) n1 n2 ?_
   ·rw [on_set] at hj ⊢
    simp only [Bool.or_eq_true, Bool.and_eq_true, decide_eq_true_eq] at hj ⊢
    rcases hj with hj | hj
    ·exact .inl (hlm j hj)
    ·exact .inr ⟨hj.1, hj.1 ▸ hp⟩
   ·rw [on_set, hun q (List.mem_cons_of_mem _ hq)]
    have : p ≠ q.1 := fun e => hn.1 (List.mem_map.2 ⟨q, hq, e.symm⟩)
    simp [this]
   ·rw [ha, st_put x p t v L b (hL _ List.mem_cons_self) n1 n2]
   ·simpa [setAll, updL] using h
theorem ps_edge : ∀ (ps : List (Nat × Tmp)) (pre : List Nat) (l : Array Bool), psB md ops pre l ps = true → ∀ q ∈ ps, ∀ o, ops[q.1]? = some o → ∃ d ∈ edges md o, d ∈ pre ∨ d ∈ ps.map (·.1)
 | (p, t) :: r, pre, l, hB, q, hq, o, ho => by
  simp only [psB, Bool.and_eq_true] at hB
  obtain ⟨⟨h1, _⟩, h3⟩ := hB
  rcases List.mem_cons.1 hq with rfl | hq
  ·rw [ho] at h1
   simp only [Bool.and_eq_true, List.any_eq_true, List.contains_iff_mem] at h1
   obtain ⟨d, hd, hp⟩ := h1.2
   exact ⟨d, hd, .inl hp⟩
  ·obtain ⟨d, hd, h⟩ := ps_edge r (p :: pre) _ h3 q hq o ho
   refine ⟨d, hd, ?_⟩
   rcases h with h | h
   ·rcases List.mem_cons.1 h with rfl | h
    ·exact .inr List.mem_cons_self
    ·exact .inl h
   ·exact .inr (List.mem_cons_of_mem _ h)
theorem pairs_of {lo hi : Nat → Nat} : ∀ {D : List Ev}, nodupB (ixs D) = true → (∀ e ∈ D, ∀ f ∈ D, e.i ≠ f.i → hi e.i ≤ lo f.i ∨ hi f.i ≤ lo e.i) → Pairs lo hi D
 | [], _, _ => trivial
 | e :: r, hn, h => by
  obtain ⟨_, n2, n3⟩ := nodupB_app (show nodupB (e.ix ++ ixs r) = true from hn)
  exact ⟨AllE_of fun f hf => h e List.mem_cons_self f (List.mem_cons_of_mem _ hf) fun he => n3 e.i List.mem_cons_self (he ▸ mem_ixs List.mem_cons_self hf), pairs_of n2 fun f hf g hg => h f (List.mem_cons_of_mem _ hf) g (List.mem_cons_of_mem _ hg)⟩
theorem updL_ix {e : Ev} (x : Nat → Value) (v : Value) (vs : List Value) (hl : vs.length = e.ps.length) (hn : nodupB e.ix = true) : e.ix.map (updL (upd x e.i v) e.ps vs) = v :: vs := by
 have n := nodupB_cons (show nodupB (e.i :: e.ps.map (·.1)) = true from hn)
 rw [Ev.ix, List.map_cons, updL_map e.ps vs _ hl n.2, updL_out e.i e.ps vs _ n.1]
 simp [upd]
theorem yall_len : ∀ (ps : List (Nat × Tmp)) (vs : List Value) (a : Act), YAll P ops ps vs a → vs.length = ps.length
 | [], [], _, _ => rfl
 | [], _ :: _, _, h => by simp [YAll] at h
 | _ :: _, [], _, h => by simp [YAll] at h
 | (_, _) :: r, _ :: vs, a, h => by simp only [List.length_cons]; rw [yall_len r vs _ h.2]
theorem web_run {l0 l1 : Array Bool} {a0 : Act} {w0 : World} {D : List Ev} {fuel : Nat} (hB : webB md ops l0 l1 D = true) (hQ : ∀ c t v a w, Q (.panic c) (a.put t v) w → Q (.panic c) a w)
  (hst : ∀ w w', S w → Below w.heap.size w w' → S w') (hF : ∀ e ∈ D, Stb e) (hstep : ∀ e ∈ D, WebStep P ops Q D a0 w0 S e)
  (hend : ∀ x w lo hi, Below w0.heap.size w0 w → S w → AllE (EvF x w0 w lo hi) D → Pairs lo hi D → wpAnyLast P md ops Q S [] fuel l1 (stA D a0 x) w) :
  ∀ (n : Nat) (l : Array Bool) (x : Nat → Value) (w : World) (lo hi : Nat → Nat), l.size = ops.size → (∀ e ∈ D, ∀ j ∈ e.ix, on l j = on l e.i) → (∀ j, j ∉ ixs D → on l j = on l0 j) → Below w0.heap.size w0 w → S w →
   (∀ e ∈ D, on l e.i = true → EvF x w0 w lo hi e) → (∀ e ∈ D, ∀ f ∈ D, e.i ≠ f.i → on l e.i = true → on l f.i = true → hi e.i ≤ lo f.i ∨ hi f.i ≤ lo e.i) → (∀ e ∈ D, on l e.i = true → ∀ d ∈ e.ds, on l d = true) → rem l D = n → wpAnyLast P md ops Q S [] (n + fuel) l (stA D a0 x) w := by
 intro n
 have hB' := hB
 simp only [webB, Bool.and_eq_true, beq_iff_eq] at hB'
 obtain ⟨⟨⟨⟨⟨⟨⟨⟨b1, b2⟩, b3⟩, b4⟩, b5⟩, b6⟩, b7⟩, b8⟩, b9⟩ := hB'
 rw [List.all_eq_true] at b5 b6
 induction n using Nat.strongRecOn with
 | ind n ih =>
  intro l x w lo hi hs hb hc hw hS hf hp hdd hn
  have l0on : ∀ j, on l0 j = true → on l j = true := fun j hj => by
   by_cases c : j ∈ ixs D
   ·have := b5 j c
    rw [hj] at this
    simp at this
   ·rw [hc j c]; exact hj
  by_cases hz : n = 0
  ·subst hz
   have all := rem_zero hn
   have hl : l = l1 := by
    rw [← b9]
    refine Array.ext (by rw [setAll_size, hs, b2]) fun j h1 h2 => ?_
    have e1 : l[j] = on l j := by unfold on; simp [h1]
    have e2 : (setAll (ixs D) l0)[j] = on (setAll (ixs D) l0) j := by unfold on; simp [h2]
    rw [e1, e2, on_setAll]
    by_cases c : j ∈ ixs D
    ·obtain ⟨e, he, hj⟩ := of_ixs c
     rw [hb e he j hj, all e he]
     simp [c, b2, ← hs, h1]
    ·rw [hc j c]; simp [c]
   subst hl
   rw [Nat.zero_add]
   exact hend x w lo hi hw hS (AllE_of fun e he => hf e he (all e he)) (pairs_of b3 fun e he f hf' h => hp e he f hf' h (all e he) (all f hf'))
  ·obtain ⟨u, hu, hu0⟩ := rem_pos (by rw [hn]; exact hz)
   obtain ⟨m, rfl⟩ : ∃ m, n = m + 1 := ⟨n - 1, by omega⟩
   rw [show m + 1 + fuel = (m + fuel) + 1 by omega]
   refine ⟨fun h => ?_, fun i hi' => ?_⟩
   ·obtain ⟨j, hj⟩ := top_ready (md := md) hs D l0 b7 l0on hb ⟨u, hu, hu0⟩
    rw [h] at hj
    cases hj
   ·obtain ⟨hil, hi0, o, ho, hed⟩ := ready_to hs hi'
    have key : ∃ e ∈ D, e.i = i := by
     by_cases c : i ∈ ixs D
     ·obtain ⟨e, he, hj⟩ := of_ixs c
      rcases List.mem_cons.1 (show i ∈ e.i :: e.ps.map (·.1) from hj) with rfl | hj'
      ·exact ⟨e, he, rfl⟩
      ·exfalso
       have h0 : on l e.i = false := by rw [← hb e he i hj]; exact hi0
       have hev := b6 e he
       unfold evB at hev
       cases hoe : ops[e.i]? with
       | none => rw [hoe] at hev; cases hev
       | some oe =>
        rw [hoe] at hev
        simp only [Bool.and_eq_true] at hev
        obtain ⟨q, hq, rfl⟩ := List.mem_map.1 hj'
        obtain ⟨d, hd, h⟩ := ps_edge e.ps _ _ hev.2 q hq o ho
        have hde : d ∈ e.ix := by
         rcases h with h | h
         ·rw [List.mem_singleton] at h; rw [h]; exact List.mem_cons_self
         ·exact List.mem_cons_of_mem _ h
        have := hed d hd
        rw [hb e he d hde, h0] at this
        cases this
     ·exfalso
      unfold restB at b8
      have := List.all_eq_true.1 b8 i (List.mem_range.2 (by rw [← hs]; exact hil))
      rw [← hc i c, hi0, ho] at this
      simp only [Bool.false_or, Bool.or_eq_true, List.contains_iff_mem, c, false_or, List.all_eq_true] at this
      have := hed u.i (this u hu)
      rw [hu0] at this
      cases this
    obtain ⟨e, he, rfl⟩ := key
    have hev := b6 e he
    unfold evB at hev
    rw [ho] at hev
    simp only [Bool.and_eq_true, beq_iff_eq, List.all_eq_true, List.contains_iff_mem] at hev
    obtain ⟨⟨hd, hds⟩, hps⟩ := hev
    obtain ⟨o', ho', hrun⟩ := hstep e he x w lo hi _ hw hS rfl (AllE_of fun f hf' hfd => (hf f hf' (hed f.i (hds f.i hfd))).1)
    obtain rfl : o = o' := Option.some.inj (ho.symm.trans ho')
    refine wpOp_step ho fun K' hK => ?_
    rw [hd]
    refine hrun K' fun v vs w' hbw hFe hy => ?_
    refine hK _ _ ⟨fun _ _ => hst w w' hS hbw, ?_⟩
    have hvl := yall_len _ _ _ hy
    have nix := ix_nodup b3 he
    have nps := (nodupB_cons (show nodupB (e.i :: e.ps.map (·.1)) = true from nix))
    have hoff : ∀ j ∈ e.ix, on l j = false := fun j hj => by rw [hb e he j hj]; exact hi0
    have hrem : rem l D = e.ix.length + rem (setAll e.ix l) D := rem_step b3 he hi0 (by rw [on_setAll]; simp [Ev.ix, hil]) fun f hf' hne => by
     rw [on_setAll]
     have : f.i ∉ e.ix := fun h => hne (by rw [ixs_apart b3 hf' he List.mem_cons_self h])
     simp [this]
    have hlen : e.ix.length = e.ps.length + 1 := by simp [Ev.ix]
    rw [show m + fuel = e.ps.length + (rem (setAll e.ix l) D + fuel) by omega]
    have sl1 : nodupB ((slots D).map (·.1)) = true := by rw [slots_ixs]; exact b3
    have st1 : (stA D a0 x).put (some e.t) v = putAll a0 ((slots D).map fun s => (s.2, upd x e.i v s.1)) := st_put x e.i e.t v _ a0 (mem_slots List.mem_cons_self he) sl1 b4
    refine pures_run (lm := (setAll (edges md o) l0).setIfInBounds e.i true) (x := upd x e.i v) b1 hQ e.ps vs [e.i] _ _ (slots D) a0 (by simpa using hs) (by simp [setAll_size, b2]) (fun j hj => ?_) hps (fun q hq => ?_) nps.2 hy st1 (fun q hq => mem_slots (List.mem_cons_of_mem _ hq) he) sl1 b4 ?_
    ·rw [on_set, Bool.or_eq_true, Bool.and_eq_true, decide_eq_true_eq] at hj ⊢
     rcases hj with hj | hj
     ·rw [on_setAll, Bool.or_eq_true, Bool.and_eq_true, decide_eq_true_eq] at hj
      rcases hj with hj | hj
      ·exact .inl (l0on j hj)
      ·exact .inl (hed j hj.1)
     ·exact .inr ⟨hj.1, by rw [← hj.1]; simpa using hil⟩
    ·rw [on_set, hoff q.1 (List.mem_cons_of_mem _ (List.mem_map_of_mem hq))]
     have : e.i ≠ q.1 := fun h => nps.1 (List.mem_map.2 ⟨q, hq, h.symm⟩)
     simp [this]
    ·have hmap : ∀ f ∈ D, f.i ≠ e.i → f.ix.map (updL (upd x e.i v) e.ps vs) = f.ix.map x := fun f hf' hne => by
      refine List.map_congr_left fun j hj => ?_
      have hje : j ∉ e.ix := fun h => hne (by rw [ixs_apart b3 hf' he hj h])
      have h2 : j ∉ e.ps.map (·.1) := fun h => hje (List.mem_cons_of_mem _ h)
      have h3 : j ≠ e.i := fun h => hje (by rw [h]; exact List.mem_cons_self)
      rw [updL_out j _ _ _ h2]
      simp [upd, h3]
     have hsz := hbw.size
     refine ih _ (by omega) (setAll e.ix l) (updL (upd x e.i v) e.ps vs) w' (updN lo e.i w.heap.size) (updN hi e.i w'.heap.size) (by rw [setAll_size]; exact hs) (fun f hf' j hj => ?_) (fun j hj => ?_) (hw.trans (hbw.mono hw.size)) (hst w w' hS hbw) (fun f hf' hon => ?_) (fun f hf' g hg hne h1 h2 => ?_) (fun f hf' hon d hdf => ?_) rfl
     ·rw [on_setAll, on_setAll, hb f hf' j hj]
      by_cases c : f.i ∈ e.ix
      ·obtain rfl := ixs_apart b3 hf' he List.mem_cons_self c
       have hjl : j < l.size := by have := b5 j (mem_ixs hj hf'); rw [Bool.and_eq_true, decide_eq_true_eq] at this; rw [hs]; exact this.1
       simp [hj, c, hil, hjl]
      ·have : j ∉ e.ix := fun h => c (by rw [← ixs_apart b3 hf' he hj h]; exact List.mem_cons_self)
       simp [c, this]
     ·rw [on_setAll, hc j hj]
      have : j ∉ e.ix := fun h => hj (mem_ixs h he)
      simp [this]
     ·by_cases c : f.i = e.i
      ·obtain rfl := ixs_apart b3 hf' he List.mem_cons_self (by rw [c]; exact List.mem_cons_self)
       unfold EvF
       rw [updL_ix x v vs hvl nix]
       refine ⟨hFe, ?_⟩
       simp only [updN, if_true]
       exact ⟨hw.size, hsz, Nat.le_refl _⟩
      ·rw [on_setAll] at hon
       have : f.i ∉ e.ix := fun h => c (by rw [ixs_apart b3 hf' he List.mem_cons_self h])
       simp only [this, decide_false, Bool.false_and, Bool.or_false] at hon
       obtain ⟨g1, g2, g3, g4⟩ := hf f hf' hon
       unfold EvF
       rw [hmap f hf' c]
       refine ⟨(hF f hf').2 _ _ lo hi _ _ (fun j hj => ?_) ((hF f hf').1 _ _ _ _ _ g1 hbw), ?_⟩
       ·have hje : j ≠ e.i := by
         rcases hj with rfl | hj
         ·exact c
         ·intro h
          have := hdd f hf' hon j hj
          rw [h, hi0] at this
          cases this
        exact ⟨if_neg hje, if_neg hje⟩
       ·simp only [updN, if_neg c]
        exact ⟨g2, g3, Nat.le_trans g4 hsz⟩
     ·have bnd : ∀ f ∈ D, f.i ≠ e.i → on (setAll e.ix l) f.i = true → on l f.i = true := fun f hf' hne h => by
       rw [on_setAll] at h
       have : f.i ∉ e.ix := fun h => hne (by rw [ixs_apart b3 hf' he List.mem_cons_self h])
       simpa only [this, decide_false, Bool.false_and, Bool.or_false] using h
      by_cases c1 : f.i = e.i
      ·by_cases c2 : g.i = e.i
       ·exact absurd (c1.trans c2.symm) hne
       ·simp only [updN, if_pos c1, if_neg c2]
        exact .inr (hf g hg (bnd g hg c2 h2)).2.2.2
      ·by_cases c2 : g.i = e.i
       ·simp only [updN, if_neg c1, if_pos c2]
        exact .inl (hf f hf' (bnd f hf' c1 h1)).2.2.2
       ·simp only [updN, if_neg c1, if_neg c2]
        exact hp f hf' g hg hne (bnd f hf' c1 h1) (bnd g hg c2 h2)
     ·rw [on_setAll]
      by_cases c : f.i = e.i
      ·obtain rfl := ixs_apart b3 hf' he List.mem_cons_self (by rw [c]; exact List.mem_cons_self)
       rw [hed d (hds d hdf)]; simp
      ·rw [on_setAll] at hon
       have : f.i ∉ e.ix := fun h => c (by rw [ixs_apart b3 hf' he List.mem_cons_self h])
       simp only [this, decide_false, Bool.false_and, Bool.or_false] at hon
       rw [hdd f hf' hon d hdf]; simp
/-- THE RULE: 'fuel' counts the events' operations and what follows. -/
theorem web_ {l0 : Array Bool} {a : Act} {w0 : World} {fuel0 : Nat} (l1 : Array Bool) (D : List Ev) (fuel : Nat) (hB : webB md ops l0 l1 D = true) (hn : fuel0 = need D + fuel) (hQ : ∀ c t v a w, Q (.panic c) (a.put t v) w → Q (.panic c) a w)
  (hS : S w0) (hst : ∀ w w', S w → Below w.heap.size w w' → S w') (hF : AllE Stb D) (hstep : AllE (WebStep P ops Q D a w0 S) D)
  (hend : ∀ x w lo hi, Below w0.heap.size w0 w → S w → AllE (EvF x w0 w lo hi) D → Pairs lo hi D → wpAnyLast P md ops Q S [] fuel l1 (stA D a x) w) : wpAnyLast P md ops Q S [] fuel0 l0 a w0 := by
 subst hn
 have hB' := hB
 simp only [webB, Bool.and_eq_true, beq_iff_eq] at hB'
 obtain ⟨⟨⟨⟨⟨⟨⟨⟨b1, b2⟩, b3⟩, b4⟩, b5⟩, b6⟩, b7⟩, b8⟩, b9⟩ := hB'
 rw [List.all_eq_true] at b5
 have off : ∀ e ∈ D, ∀ j ∈ e.ix, on l0 j = false := fun e he j hj => by have := b5 j (mem_ixs hj he); simpa using (by simpa using this : _ ∧ _).2
 have hr := rem_none (l := l0) fun e he => off e he e.i List.mem_cons_self
 obtain ⟨x0, ha⟩ := st_self D a b3
 have := web_run hB hQ hst (AllE_mem hF) (AllE_mem hstep) hend _ l0 x0 w0 (fun _ => 0) (fun _ => 0) b2 (fun e he j hj => by rw [off e he j hj, off e he e.i List.mem_cons_self]) (fun _ _ => rfl) (Below.refl _ _) hS (fun e he h => by rw [off e he e.i List.mem_cons_self] at h; cases h) (fun e he _ _ _ h => by rw [off e he e.i List.mem_cons_self] at h; cases h) (fun e he h => by rw [off e he e.i List.mem_cons_self] at h; cases h) hr
 rw [ha] at this
 exact this
end
/-- A row of digits that outlasts all but what touches the blocks of ok. -/
abbrev VS (w : World) (ok : Nat → Prop) (v : Value) (xs : List Int) : Prop := Kd.V (Kd.int .i64) 3 w 0 ok v xs
abbrev ow (lo hi : Nat → Nat) (i : Nat) : Nat → Prop := fun k => lo i ≤ k ∧ k < hi i
abbrev Ft := List Value → World → (Nat → Nat) → (Nat → Nat) → Prop
def E0 (c : List Value) : Ft := fun vs _ _ _ => vs = c
def E1 (i : Nat) (f : Value → List Value) (xs : List Int) : Ft := fun vs w lo hi => ∃ v, vs = f v ∧ VS w (ow lo hi i) v xs
def E2 (i : Nat) (f : Value → Value → List Value) (xs ys : List Int) : Ft := fun vs w lo hi => ∃ v u, vs = f v u ∧ VS w (ow lo hi i) v xs ∧ VS w (ow lo hi i) u ys
def D2 (i d : Nat) (f : Value → Value → List Value) (xs ys : List Int) : Ft := fun vs w lo hi => ∃ v u, vs = f v u ∧ VS w (fun k => ow lo hi d k ∨ ow lo hi i k) v xs ∧ VS w (fun k => ow lo hi d k ∨ ow lo hi i k) u ys
def EB (i : Nat) (cs : Array Value) (ty : TypeId) : Ft := fun vs w lo hi => ∃ g, vs = [.pointer (some ⟨g, 0, none⟩)] ∧ w.heap[g]? = some (.cells cs ty (0, 0)) ∧ lo i ≤ g ∧ g < hi i
section
variable {i d : Nat} {t : Tmp} {ps : List (Nat × Tmp)} {ds : List Nat}
theorem oE0 (c : List Value) : Stb ⟨i, t, ps, ds, E0 c⟩ := ⟨fun _ _ _ _ _ h _ => h, fun _ _ _ _ _ _ _ h => h⟩
theorem oE1 (f : Value → List Value) (xs : List Int) : Stb ⟨i, t, ps, ds, E1 i f xs⟩ := ⟨fun _ _ _ _ _ ⟨v, h, k⟩ hb => ⟨v, h, Kd.V_below k hb⟩, fun _ _ _ _ _ _ hj ⟨v, h, k⟩ => ⟨v, h, by unfold ow; rw [(hj i (.inl rfl)).1, (hj i (.inl rfl)).2]; exact k⟩⟩
theorem oE2 (f : Value → Value → List Value) (xs ys : List Int) : Stb ⟨i, t, ps, ds, E2 i f xs ys⟩ := ⟨fun _ _ _ _ _ ⟨v, u, h, k, m⟩ hb => ⟨v, u, h, Kd.V_below k hb, Kd.V_below m hb⟩, fun _ _ _ _ _ _ hj ⟨v, u, h, k, m⟩ => ⟨v, u, h, by unfold ow; rw [(hj i (.inl rfl)).1, (hj i (.inl rfl)).2]; exact ⟨k, m⟩⟩⟩
theorem oD2 (f : Value → Value → List Value) (xs ys : List Int) (hd : d ∈ ds) : Stb ⟨i, t, ps, ds, D2 i d f xs ys⟩ := ⟨fun _ _ _ _ _ ⟨v, u, h, k, m⟩ hb => ⟨v, u, h, Kd.V_below k hb, Kd.V_below m hb⟩, fun _ _ _ _ _ _ hj ⟨v, u, h, k, m⟩ => ⟨v, u, h, by unfold ow; rw [(hj i (.inl rfl)).1, (hj i (.inl rfl)).2, (hj d (.inr hd)).1, (hj d (.inr hd)).2]; exact ⟨k, m⟩⟩⟩
theorem oEB (cs : Array Value) (ty : TypeId) : Stb ⟨i, t, ps, ds, EB i cs ty⟩ := ⟨fun _ _ _ _ _ ⟨g, h, k, m⟩ hb => ⟨g, h, blk_below k hb, m⟩, fun _ _ _ _ _ _ hj ⟨g, h, k, m⟩ => ⟨g, h, k, by rw [(hj i (.inl rfl)).1, (hj i (.inl rfl)).2]; exact m⟩⟩
end
theorem V_bnd {α : Type} {d : Kd α} {e base : Nat} {ok : Nat → Prop} {w : World} {v : Value} {xs : List α} (h : Kd.V d e w base ok v xs) : Kd.V d e w base (fun k => ok k ∧ k < w.heap.size) v xs := Kd.V_map h (fun _ hf => Kd.F_bound hf)
theorem kW {w w' : World} {b : Nat} {v : Value} {xs : List Int} (h : Kd.V (Kd.int .i64) 3 w' b (fun k => w.heap.size ≤ k) v xs) : VS w' (fun k => w.heap.size ≤ k ∧ k < w'.heap.size) v xs := V_bnd h
theorem kD {w w' : World} {b : Nat} {p : Nat → Prop} {v : Value} {xs : List Int} (h : Kd.V (Kd.int .i64) 3 w' b (fun k => p k ∨ w.heap.size ≤ k) v xs) : VS w' (fun k => p k ∨ (w.heap.size ≤ k ∧ k < w'.heap.size)) v xs := Kd.V_mono (V_bnd h) fun k hk => hk.1.imp id fun h1 => ⟨h1, hk.2⟩
theorem kO {α : Type} {d : Kd α} {e base : Nat} {ok : Nat → Prop} {w w' : World} {v : Value} {xs : List α} (h : Aside0 (Kd.V d e w base ok v xs)) (hb : Below w.heap.size w w') : Kd.V d e w' base (fun k => ok k ∧ k < w.heap.size) v xs := Kd.V_below (V_bnd h.out) hb
theorem cB {w w' : World} {p : Addr} {v : Value} (h : w.cell? p = some v) (hb : Below w.heap.size w w') : w'.cell? p = some v := by
 refine (hb.cell ?_).trans h
 apply Nat.lt_of_not_le
 intro hn
 unfold World.cell? at h
 rw [Array.getElem?_eq_none hn] at h
 cases h
theorem vca.{u} : type_of% @List.cons_append.{u} := @List.cons_append
theorem vna.{u} : type_of% @List.nil_append.{u} := @List.nil_append
class CExt (w w1 : World) : Prop where out : ∀ {α : Type} (d : Kd α) (A : Option Addr) (n : Nat) (xs : List α), Kd.C d w A n xs → Kd.C d w1 A n xs
instance (w : World) : CExt w w := ⟨fun _ _ _ _ h => h⟩
instance (w w1 : World) (n : Nat) [x : CExt w w1] : CExt w (w1.drewN n) := ⟨fun d A m xs h => Kd.C_drewN (x.out d A m xs h) n⟩
instance (w w1 : World) [x : CExt w w1] : CExt w w1.drew := ⟨fun d A m xs h => Kd.C_drew (x.out d A m xs h)⟩
instance (w w1 : World) (o : Obj) [x : CExt w w1] : CExt w (w1.alloc o) := ⟨fun d A m xs h => Kd.C_alloc (x.out d A m xs h) o⟩
theorem kQ {w w1 : World} {α : Type} {d : Kd α} {A : Option Addr} {n : Nat} {xs : List α} (h : Kd.C d w A n xs) [x : CExt w w1] : Kd.C d w1 A n xs := x.out d A n xs h
section
variable {P : Program} {ops : Array Oper} {Q : Exit → Act → World → Prop} {a : Act} {w : World}
/-- 'goesL_' and 'goes_', what is always shown alike shown by itself. -/
theorem gL {rest : List Oper} {oi : Oper} (n : Tmp) {f : FuncId} {fn : Func} {as : Array Operand} {ts : Array TypeId} (hf : P.funcs[f]? = some fn) (args : Array Value) (h : Calls P f args w fun e w' => ∃ v, e = .returned v ∧ wpList P ops Q rest (a.put (some n) v) w')
  (hd : oi.dst = some n := by rfl) (hg : oi.guard = none := by rfl) (hname : (fn.name == "runtime.NumGoroutine") = false := by kernel_rfl) (hb : fn.body.isSome = true := by rfl)
  (hop : oi.op = .call { callee := .value (.func f), args := as, argTypes := ts } := by rfl) (hargs : as.map a.eval = args := by (try simp only [zm, zc, zn]); first | done | rfl | (simp only [zd, zt]; rfl)) : wpList P ops Q (oi :: rest) a w :=
 goesL_ (some n) hd hg hf hname hb args hop hargs h
theorem gS {oi : Oper} {N : Option Tmp} {K : Act → World → Prop} {f : FuncId} {fn : Func} {as : Array Operand} {ts : Array TypeId} (hf : P.funcs[f]? = some fn) (args : Array Value) (h : Calls P f args w fun e w' => ∃ v, e = .returned v ∧ K (a.put N v) w')
  (hname : (fn.name == "runtime.NumGoroutine") = false := by kernel_rfl) (hb : fn.body.isSome = true := by rfl) (hw : Region.wanted oi (yielded ops a.tmps) = true := by rfl) (hN : oi.dst = N := by rfl)
  (hop : oi.op = .call { callee := .value (.func f), args := as, argTypes := ts } := by rfl) (hargs : as.map a.eval = args := by (try simp only [zm, zc, zn]); first | done | rfl | (simp only [zd, zt]; rfl)) : if Region.wanted oi (yielded ops a.tmps) = true then Oper.wp P oi a w K Q else K (a.put N undef) w :=
 goes_ hf hname hb args hw hN hop hargs h
end
end Go.Proofs.Ytpjbniihdndlmab.H
