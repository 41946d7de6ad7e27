/- What a walk carries from world to world, found by instances: blocks, what lies below, rows. -/
import Derived.Test.YtpjbniihdndlmabWdsMore
namespace Go.Proofs.Ytpjbniihdndlmab.H
open Go.RowKit Go.Proofs.YtpjbniihdndlmabW.PrintWords Go.Proofs.YtpjbniihdndlmabW.PrintLast Go.Proofs.YtpjbniihdndlmabW.PrintMore
/-- What the one holds as block g the other holds. -/
class Ext (g : Nat) (w w1 : World) : Prop where out : ∀ o : Obj, w.heap[g]? = some o → w1.heap[g]? = some o
instance (g : Nat) (w : World) : Ext g w w := ⟨fun _ h => h⟩
instance (g : Nat) (w w1 : World) (n : Nat) [e : Ext g w w1] : Ext g w (w1.drewN n) := ⟨fun o h => blk_drewN (e.out o h) n⟩
instance (g : Nat) (w w1 : World) [e : Ext g w w1] : Ext g w w1.drew := ⟨fun o h => blk_drew (e.out o h)⟩
instance (g : Nat) (w w1 : World) (x : Obj) [e : Ext g w w1] : Ext g w (w1.alloc x) := ⟨fun o h => blk_alloc (e.out o h) x⟩
instance (g g' j : Nat) (w w1 : World) (v : Value) [e : Ext g w w1] [k : Aside0 (g ≠ g')] : Ext g w (w1.setCell ⟨g', j, none⟩ v) := ⟨fun o h => (Below.heap_setCell w1 ⟨g', j, none⟩ v g k.out).trans (e.out o h)⟩
theorem kx {w w1 : World} {g : Nat} {o : Obj} (h : Aside0 (w.heap[g]? = some o)) [e : Ext g w w1] : w1.heap[g]? = some o := e.out o h.out
theorem kb {w w1 w2 : World} {g : Nat} {o : Obj} (h : Aside0 (w.heap[g]? = some o)) [Ext g w w1] (hb : Below w1.heap.size w1 w2) : Aside0 (w2.heap[g]? = some o) := ⟨blk_below (kx h) hb⟩
theorem kN {w w1 : World} {g g' : Nat} {o : Obj} (h : Aside0 (w.heap[g]? = some o)) [Ext g w w1] (hg : g' = w1.heap.size) : Aside0 (g ≠ g') := ⟨by rw [hg]; exact Nat.ne_of_lt (blk_lt (o := o) (kx h))⟩
theorem kM {w w1 : World} {g g' : Nat} {o : Obj} (h : Aside0 (w.heap[g]? = some o)) [Ext g w w1] (hg : g' = w1.heap.size) : Aside0 (g' ≠ g) := ⟨by rw [hg]; exact Nat.ne_of_gt (blk_lt (o := o) (kx h))⟩
theorem kc {w : World} {g : Nat} {ty : TypeId} {cs : Array Value} {v : Value} (h : Aside0 (w.heap[g]? = some (.cells cs ty (0, 0)))) (i : Nat) (hv : cs[i]? = some v := by rfl) : w.cell? ⟨g, i, none⟩ = some v := (blk_cell h.out i).trans hv
abbrev T : Bool := true
abbrev O : Bool := false
/-- What lies below a world's old size in the one lies there in the other. -/
class BExt (w a b : World) : Prop where out : Below w.heap.size w a → Below w.heap.size w b
instance (w a : World) : BExt w a a := ⟨fun h => h⟩
instance (w a b : World) (n : Nat) [e : BExt w a b] : BExt w a (b.drewN n) := ⟨fun h => pw_below_drewN (e.out h) n⟩
instance (w a b : World) [e : BExt w a b] : BExt w a b.drew := ⟨fun h => below_drew1 (e.out h)⟩
instance (w a b : World) (x : Obj) [e : BExt w a b] : BExt w a (b.alloc x) := ⟨fun h => below_alloc (e.out h) x⟩
instance (w a b : World) (g j : Nat) (v : Value) [e : BExt w a b] [k : Aside0 (w.heap.size ≤ g)] : BExt w a (b.setCell ⟨g, j, none⟩ v) := ⟨fun h => below_set (e.out h) k.out⟩
theorem ky {w a b : World} (h : Aside0 (Below w.heap.size w a)) [e : BExt w a b] : Below w.heap.size w b := e.out h.out
theorem kB {w a b c : World} (h : Aside0 (Below w.heap.size w a)) [BExt w a b] (hb : Below b.heap.size b c) : Aside0 (Below w.heap.size w c) := ⟨below_step (ky h) hb⟩
theorem kS {w a b : World} {g : Nat} (h : Aside0 (Below w.heap.size w a)) [BExt w a b] (hg : g = b.heap.size) : Aside0 (w.heap.size ≤ g) := ⟨by rw [hg]; exact below_size (ky h)⟩
/-- Rows. -/
class VExt (w w1 : World) : Prop where out : ∀ {α : Type} (d : Kd α) (e base : Nat) (ok : Nat → Prop) (v : Value) (xs : List α), Kd.V d e w base ok v xs → Kd.V d e w1 base ok v xs
instance (w : World) : VExt w w := ⟨fun _ _ _ _ _ _ h => h⟩
instance (w w1 : World) (n : Nat) [x : VExt w w1] : VExt w (w1.drewN n) := ⟨fun d e b ok v xs h => Kd.V_drewN (x.out d e b ok v xs h) n⟩
instance (w w1 : World) [x : VExt w w1] : VExt w w1.drew := ⟨fun d e b ok v xs h => Kd.V_drew (x.out d e b ok v xs h)⟩
instance (w w1 : World) (o : Obj) [x : VExt w w1] : VExt w (w1.alloc o) := ⟨fun d e b ok v xs h => Kd.V_alloc (x.out d e b ok v xs h) o⟩
theorem kv {w w1 : World} {α : Type} {d : Kd α} {e base : Nat} {ok : Nat → Prop} {v : Value} {xs : List α} (h : Aside0 (Kd.V d e w base ok v xs)) [x : VExt w w1] : Kd.V d e w1 base ok v xs := x.out d e base ok v xs h.out
theorem kV {w w1 w2 : World} {α : Type} {d : Kd α} {e base : Nat} {ok : Nat → Prop} {v : Value} {xs : List α} (h : Aside0 (Kd.V d e w base ok v xs)) [VExt w w1] (hb : Below w1.heap.size w1 w2) : Aside0 (Kd.V d e w2 base ok v xs) := ⟨Kd.V_below (kv h) hb⟩
class RExt (w w1 : World) : Prop where out : ∀ {α : Type} (d : Kd α) (e base : Nat) (ok : Nat → Prop) (v : Value) (xs : List α), Kd.R d e w base ok v xs → Kd.R d e w1 base ok v xs
instance (w : World) : RExt w w := ⟨fun _ _ _ _ _ _ h => h⟩
instance (w w1 : World) (n : Nat) [x : RExt w w1] : RExt w (w1.drewN n) := ⟨fun d e b ok v xs h => Kd.R_drewN (x.out d e b ok v xs h) n⟩
instance (w w1 : World) [x : RExt w w1] : RExt w w1.drew := ⟨fun d e b ok v xs h => Kd.R_drew (x.out d e b ok v xs h)⟩
instance (w w1 : World) (o : Obj) [x : RExt w w1] : RExt w (w1.alloc o) := ⟨fun d e b ok v xs h => Kd.R_alloc (x.out d e b ok v xs h) o⟩
theorem kr {w w1 : World} {α : Type} {d : Kd α} {e base : Nat} {ok : Nat → Prop} {v : Value} {xs : List α} (h : Aside0 (Kd.R d e w base ok v xs)) [x : RExt w w1] : Kd.R d e w1 base ok v xs := x.out d e base ok v xs h.out
theorem kR {w w1 w2 : World} {α : Type} {d : Kd α} {e base : Nat} {ok : Nat → Prop} {v : Value} {xs : List α} (h : Aside0 (Kd.R d e w base ok v xs)) [RExt w w1] (hb : Below w1.heap.size w1 w2) : Aside0 (Kd.R d e w2 base ok v xs) := ⟨Kd.R_below (kr h) hb⟩
theorem A0 {p : Prop} (h : p) : Aside0 p := ⟨h⟩
theorem s1.{u} : type_of% @List.setIfInBounds_toArray.{u} := @List.setIfInBounds_toArray
theorem s2.{u} : type_of% @List.set_cons_zero.{u} := @List.set_cons_zero
theorem s3.{u} : type_of% @List.set_cons_succ.{u} := @List.set_cons_succ
theorem u2 {a0 a1 q : Prop} (h : (a0 ∧ a1) ∧ q) : a0 ∧ a1 ∧ q := ⟨h.1.1, h.1.2, h.2⟩
theorem u3 {a0 a1 a2 q : Prop} (h : (a0 ∧ a1 ∧ a2) ∧ q) : a0 ∧ a1 ∧ a2 ∧ q := ⟨h.1.1, h.1.2.1, h.1.2.2, h.2⟩
theorem u4 {a0 a1 a2 a3 q : Prop} (h : (a0 ∧ a1 ∧ a2 ∧ a3) ∧ q) : a0 ∧ a1 ∧ a2 ∧ a3 ∧ q := ⟨h.1.1, h.1.2.1, h.1.2.2.1, h.1.2.2.2, h.2⟩
theorem u5 {a0 a1 a2 a3 a4 q : Prop} (h : (a0 ∧ a1 ∧ a2 ∧ a3 ∧ a4) ∧ q) : a0 ∧ a1 ∧ a2 ∧ a3 ∧ a4 ∧ q := ⟨h.1.1, h.1.2.1, h.1.2.2.1, h.1.2.2.2.1, h.1.2.2.2.2, h.2⟩
theorem u6 {a0 a1 a2 a3 a4 a5 q : Prop} (h : (a0 ∧ a1 ∧ a2 ∧ a3 ∧ a4 ∧ a5) ∧ q) : a0 ∧ a1 ∧ a2 ∧ a3 ∧ a4 ∧ a5 ∧ q := ⟨h.1.1, h.1.2.1, h.1.2.2.1, h.1.2.2.2.1, h.1.2.2.2.2.1, h.1.2.2.2.2.2, h.2⟩
theorem u7 {a0 a1 a2 a3 a4 a5 a6 q : Prop} (h : (a0 ∧ a1 ∧ a2 ∧ a3 ∧ a4 ∧ a5 ∧ a6) ∧ q) : a0 ∧ a1 ∧ a2 ∧ a3 ∧ a4 ∧ a5 ∧ a6 ∧ q := ⟨h.1.1, h.1.2.1, h.1.2.2.1, h.1.2.2.2.1, h.1.2.2.2.2.1, h.1.2.2.2.2.2.1, h.1.2.2.2.2.2.2, h.2⟩
theorem u8 {a0 a1 a2 a3 a4 a5 a6 a7 q : Prop} (h : (a0 ∧ a1 ∧ a2 ∧ a3 ∧ a4 ∧ a5 ∧ a6 ∧ a7) ∧ q) : a0 ∧ a1 ∧ a2 ∧ a3 ∧ a4 ∧ a5 ∧ a6 ∧ a7 ∧ q := ⟨h.1.1, h.1.2.1, h.1.2.2.1, h.1.2.2.2.1, h.1.2.2.2.2.1, h.1.2.2.2.2.2.1, h.1.2.2.2.2.2.2.1, h.1.2.2.2.2.2.2.2, h.2⟩
theorem u9 {a0 a1 a2 a3 a4 a5 a6 a7 a8 q : Prop} (h : (a0 ∧ a1 ∧ a2 ∧ a3 ∧ a4 ∧ a5 ∧ a6 ∧ a7 ∧ a8) ∧ q) : a0 ∧ a1 ∧ a2 ∧ a3 ∧ a4 ∧ a5 ∧ a6 ∧ a7 ∧ a8 ∧ q := ⟨h.1.1, h.1.2.1, h.1.2.2.1, h.1.2.2.2.1, h.1.2.2.2.2.1, h.1.2.2.2.2.2.1, h.1.2.2.2.2.2.2.1, h.1.2.2.2.2.2.2.2.1, h.1.2.2.2.2.2.2.2.2, h.2⟩
theorem u10 {a0 a1 a2 a3 a4 a5 a6 a7 a8 a9 q : Prop} (h : (a0 ∧ a1 ∧ a2 ∧ a3 ∧ a4 ∧ a5 ∧ a6 ∧ a7 ∧ a8 ∧ a9) ∧ q) : a0 ∧ a1 ∧ a2 ∧ a3 ∧ a4 ∧ a5 ∧ a6 ∧ a7 ∧ a8 ∧ a9 ∧ q := ⟨h.1.1, h.1.2.1, h.1.2.2.1, h.1.2.2.2.1, h.1.2.2.2.2.1, h.1.2.2.2.2.2.1, h.1.2.2.2.2.2.2.1, h.1.2.2.2.2.2.2.2.1, h.1.2.2.2.2.2.2.2.2.1, h.1.2.2.2.2.2.2.2.2.2, h.2⟩
theorem u11 {a0 a1 a2 a3 a4 a5 a6 a7 a8 a9 a10 q : Prop} (h : (a0 ∧ a1 ∧ a2 ∧ a3 ∧ a4 ∧ a5 ∧ a6 ∧ a7 ∧ a8 ∧ a9 ∧ a10) ∧ q) : a0 ∧ a1 ∧ a2 ∧ a3 ∧ a4 ∧ a5 ∧ a6 ∧ a7 ∧ a8 ∧ a9 ∧ a10 ∧ q := ⟨h.1.1, h.1.2.1, h.1.2.2.1, h.1.2.2.2.1, h.1.2.2.2.2.1, h.1.2.2.2.2.2.1, h.1.2.2.2.2.2.2.1, h.1.2.2.2.2.2.2.2.1, h.1.2.2.2.2.2.2.2.2.1, h.1.2.2.2.2.2.2.2.2.2.1, h.1.2.2.2.2.2.2.2.2.2.2, h.2⟩
theorem u12 {a0 a1 a2 a3 a4 a5 a6 a7 a8 a9 a10 a11 q : Prop} (h : (a0 ∧ a1 ∧ a2 ∧ a3 ∧ a4 ∧ a5 ∧ a6 ∧ a7 ∧ a8 ∧ a9 ∧ a10 ∧ a11) ∧ q) : a0 ∧ a1 ∧ a2 ∧ a3 ∧ a4 ∧ a5 ∧ a6 ∧ a7 ∧ a8 ∧ a9 ∧ a10 ∧ a11 ∧ q := ⟨h.1.1, h.1.2.1, h.1.2.2.1, h.1.2.2.2.1, h.1.2.2.2.2.1, h.1.2.2.2.2.2.1, h.1.2.2.2.2.2.2.1, h.1.2.2.2.2.2.2.2.1, h.1.2.2.2.2.2.2.2.2.1, h.1.2.2.2.2.2.2.2.2.2.1, h.1.2.2.2.2.2.2.2.2.2.2.1, h.1.2.2.2.2.2.2.2.2.2.2.2, h.2⟩
theorem kc2 {w : World} {g : Nat} {ty : TypeId} {a b : Value} (h : Aside0 (w.heap[g]? = some (.cells #[a, b] ty (0, 0)))) : w.cell? ⟨g, 0, none⟩ = some a ∧ w.cell? ⟨g, 1, none⟩ = some b := ⟨kc h 0, kc h 1⟩
theorem kc3 {w : World} {g : Nat} {ty : TypeId} {a b c : Value} (h : Aside0 (w.heap[g]? = some (.cells #[a, b, c] ty (0, 0)))) : w.cell? ⟨g, 0, none⟩ = some a ∧ w.cell? ⟨g, 1, none⟩ = some b ∧ w.cell? ⟨g, 2, none⟩ = some c := ⟨kc h 0, kc h 1, kc h 2⟩
theorem kc4 {w : World} {g : Nat} {ty : TypeId} {a b c d : Value} (h : Aside0 (w.heap[g]? = some (.cells #[a, b, c, d] ty (0, 0)))) : w.cell? ⟨g, 0, none⟩ = some a ∧ w.cell? ⟨g, 1, none⟩ = some b ∧ w.cell? ⟨g, 2, none⟩ = some c ∧ w.cell? ⟨g, 3, none⟩ = some d := ⟨kc h 0, kc h 1, kc h 2, kc h 3⟩
theorem kf2 {w : World} {g : Nat} {ty : TypeId} {cs : Array Value} (h : Aside0 (w.heap[g]? = some (.cells cs ty (0, 0)))) : w.frozen? ⟨g, 0, none⟩ = false ∧ w.frozen? ⟨g, 1, none⟩ = false := ⟨blk_frozen h.out 0, blk_frozen h.out 1⟩
theorem kf3 {w : World} {g : Nat} {ty : TypeId} {cs : Array Value} (h : Aside0 (w.heap[g]? = some (.cells cs ty (0, 0)))) : w.frozen? ⟨g, 0, none⟩ = false ∧ w.frozen? ⟨g, 1, none⟩ = false ∧ w.frozen? ⟨g, 2, none⟩ = false := ⟨blk_frozen h.out 0, blk_frozen h.out 1, blk_frozen h.out 2⟩
theorem kf4 {w : World} {g : Nat} {ty : TypeId} {cs : Array Value} (h : Aside0 (w.heap[g]? = some (.cells cs ty (0, 0)))) : w.frozen? ⟨g, 0, none⟩ = false ∧ w.frozen? ⟨g, 1, none⟩ = false ∧ w.frozen? ⟨g, 2, none⟩ = false ∧ w.frozen? ⟨g, 3, none⟩ = false := ⟨blk_frozen h.out 0, blk_frozen h.out 1, blk_frozen h.out 2, blk_frozen h.out 3⟩
theorem kF {w w1 : World} {g : Nat} {o : Obj} (h : Aside0 (w.heap[g]? = some o)) [Ext g w w1] (k : Nat) (hk : w1.heap.size ≤ k) : k ≠ g := Kd.freshB (g := g) (o := o) (kx h) k hk
theorem ko {w a b : World} (h : Aside0 (Below w.heap.size w a)) [BExt w a b] : w.heap.size ≤ b.heap.size := below_size (ky h)
theorem kE {w w1 w2 : World} {α : Type} {d : Kd α} {e base : Nat} {ok : Nat → Prop} {v : Value} {xs : List α} (h : Aside0 (Kd.V d e w base ok v xs)) [VExt w w1] (g : Nat) (hg : g = w1.heap.size) (hb : Below w1.heap.size w1 w2) : Aside0 (Kd.V d e w2 base (fun k => ok k ∧ k ≠ g) v xs) := ⟨Kd.V_below (Kd.V_elderB (kv h) g (Nat.le_of_eq hg.symm)) hb⟩
theorem zm.{u, v} : type_of% @List.map_toArray.{u, v} := @List.map_toArray
theorem zc.{u, v} : type_of% @List.map_cons.{u, v} := @List.map_cons
theorem zn.{u, v} : type_of% @List.map_nil.{u, v} := @List.map_nil
theorem zd.{u} : type_of% @List.length_drop.{u} := @List.length_drop
theorem zt.{u} : type_of% @List.length_take.{u} := @List.length_take
theorem zr : type_of% @blk_drewN := @blk_drewN
theorem zw : type_of% @blk_drew := @blk_drew
theorem za : type_of% @blk_alloc := @blk_alloc
section
variable {P : Program} {ops : Array Oper} {rest : List Oper} {a : Act} {Q : Exit → Act → World → Prop} {w : World}
/-- A call of what a slot holds, where that is a function without outer variables. -/
theorem gate_cv {o : Oper} {t : Tmp} {f : FuncId} {as : Array Operand} {ts : Array TypeId} (_ho : o.op = .call { callee := .value (.tmp t), args := as, argTypes := ts }) (_hv : a.eval (.tmp t) = .func (.func f) #[] #[]) (h : wpList P ops Q (o :: rest) a w) : wpList P ops Q (o :: rest) a w := h
theorem goesLv {oi : Oper} (N : Option Tmp) (hd : oi.dst = N) (hg : oi.guard = none) {t : Tmp} {f : FuncId} (hv : a.eval (.tmp t) = .func (.func f) #[] #[]) {fn : Func} {as : Array Operand} {ts : Array TypeId} (hf : P.funcs[f]? = some fn) (hname : (fn.name == "runtime.NumGoroutine") = false) (hb : fn.body.isSome = true) (args : Array Value)
 (hop : oi.op = .call { callee := .value (.tmp t), args := as, argTypes := ts }) (hargs : as.map a.eval = args)
 (h : Calls P f args w fun e w' => ∃ v, e = .returned v ∧ wpList P ops Q rest (a.put N v) w') : wpList P ops Q (oi :: rest) a w := by
 refine wpList_plain hg fun K hK => ?_
 have he := enters_ hf hname hb args w
 have hrun : (execOp a.eval oi).run P w = .ok (.enter f args) w := by
  unfold execOp
  simp [hop, resolve, Deferred.ofValue, invoke, hv, hargs, he]
 unfold Oper.wp
 rw [hrun, Oper.upon_enter]
 refine h.mono fun e w'' hh => ?_
 obtain ⟨v, rfl, hk⟩ := hh
 subst hd
 exact hK _ _ hk
end
end Go.Proofs.Ytpjbniihdndlmab.H
