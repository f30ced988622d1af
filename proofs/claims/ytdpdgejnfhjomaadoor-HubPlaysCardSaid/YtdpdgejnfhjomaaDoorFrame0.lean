/- What is proved: rules for told frames and blocks (each step of a function, as a rule over what its slots hold); no condition. Used by the laws of this seat. -/
import Derived.Tactics
import Derived.RangeFuncLeaves
import Derived.RangeFuncOwn
import Derived.TacticsIn
import Derived.OrdersIn
import Derived.Orders
import Derived.Below
import Derived.Laws.AppendOwn
import Derived.Deep.MidRow
import Derived.KernelRfl
import Derived.Laws.BytesArg
import Derived.Laws.Entries
import Derived.WalkSpells
import Derived.Laws.StructEq
import Derived.Laws.MakeOwn
set_option linter.unusedVariables false
set_option linter.unusedSimpArgs false
namespace Go.Vc
open Go
inductive PV where
 | v (x : Value)
 | u8 (b : UInt8)
 | u32 (b : UInt32)
 | u64 (b : UInt64)
 | str (l : List UInt8)
 | bs (l : List UInt8)
 | sl (n s : Nat) (f : Nat -> PV)
 | pp (x : PV)
def PV.Rep (U : Addr -> Prop) (w : World) : PV -> Value -> Prop
 | .v x, u => u = x
 | .u8 b, u => u = .int .u8 (b.toNat : Int)
 | .u32 b, u => u = .int .u32 (b.toNat : Int)
 | .u64 b, u => u = .int .u64 (b.toNat : Int)
 | .str l, u => u = .string ⟨l.toArray⟩
 | .bs l, u => l.length <= maxLen /\ ∃ A c, u = Value.slice A l.length c /\ l.length <= c /\
   ∀ j, j < l.length -> ∃ a, A = some a /\ ¬ U (a.add j) /\ w.cell? (a.add j) = some (.int .u8 ((l.getD j 0).toNat : Int))
 | .sl n s f, u => n <= maxLen /\ ∃ A c, u = Value.slice A n c /\ n <= c /\
   ∀ j, j < n * s -> ∃ a y, A = some a /\ ¬ U (a.add j) /\ w.cell? (a.add j) = some y /\ (f j).Rep U w y
 | .pp x, u => ∃ a y, u = .pointer (some a) /\ ¬ U a /\ w.cell? a = some y /\ x.Rep U w y
inductive CV where
 | p (x : PV)
 | ptr (t off : Nat)
inductive BV where
 | dead
 | p (x : PV)
 | own (t off n : Nat)
 | ptr (t off : Nat)
 | rp (m : Nat) (f : Nat -> PV)
 | agg (n : Nat) (f : Nat -> PV)
 | clo (fn : FuncId) (caps : List CV)
 | mv (fn : FuncId) (t off : Nat)
 | tup (n : Nat) (f : Nat -> BV)
 | ag (n : Nat) (f : Nat -> BV)
inductive OC where
 | bs (l : List UInt8)
 | rows (f : Nat -> PV)
 | cells (l : List BV)
structure OB where
 E : TypeId
 s : Nat
 n : Nat
 whole : Bool
 c : OC
def OC.get : OC -> Nat -> BV
 | .bs l, j => .p (.u8 (l.getD j 0))
 | .rows f, j => .p (f j)
 | .cells l, j => l.getD j .dead
def OB.wf (ob : OB) : Prop :=
 match ob.c with
 | .bs l => ob.s = 1 /\ l.length = ob.n
 | .cells l => l.length = ob.n
 | .rows _ => True
abbrev Hp := List (Nat × OB)
def Hp.get : Hp -> Nat -> Option OB
 | [], _ => none
 | (t, ob) :: r, k => if t = k then some ob else Hp.get r k
structure Lc where
 b : Nat
 o : Nat
 re : Bool
abbrev Loc := Nat -> Lc
def OB.cov (ob : OB) (b : Lc) (a : Addr) : Prop := b.re = true /\ a.block = b.b /\ (ob.whole = true ∨ (b.o <= a.off /\ a.off < b.o + ob.n))
def Owns (β : Loc) (O : Hp) (a : Addr) : Prop := ∃ t ob, Hp.get O t = some ob /\ ob.cov (β t) a
def Un (N : Addr -> Prop) (β : Loc) (O : Hp) (a : Addr) : Prop := N a ∨ Owns β O a
def CV.Rep (U : Addr -> Prop) (β : Loc) (O : Hp) (w : World) : CV -> Value -> Prop
 | .p x, u => x.Rep U w u
 | .ptr t off, u => ∃ ob, Hp.get O t = some ob /\ (β t).re = true /\ off <= ob.n /\ u = .pointer (some ⟨(β t).b, (β t).o + off, none⟩)
def BV.Rep (U : Addr -> Prop) (β : Loc) (O : Hp) (w : World) : BV -> Value -> Prop
 | .dead, _ => True
 | .p x, u => x.Rep U w u
 | .own t off n, u => n <= maxLen /\
   ((∃ ob c E sz, Hp.get O t = some ob /\ (β t).re = true /\ u = .slice (some ⟨(β t).b, (β t).o + off, none⟩) n c /\ n <= c /\ off + n * ob.s <= ob.n /\
     w.shape? (β t).b = some (E, sz) /\ (β t).o + off + c * ob.s <= sz) ∨
    (n = 0 /\ ∃ A, u = .slice A 0 0))
 | .ptr t off, u => ∃ ob, Hp.get O t = some ob /\ (β t).re = true /\ off <= ob.n /\ u = .pointer (some ⟨(β t).b, (β t).o + off, none⟩)
 | .rp m f, u => ∃ a, u = .pointer (some a) /\ ∀ j, j < m -> ¬ U (a.add j) /\ ∃ y, w.cell? (a.add j) = some y /\ (f j).Rep U w y
 | .agg n f, u => ∃ cs : Array Value, u = .agg cs /\ cs.size = n /\ ∀ j, j < n -> ∃ y, cs[j]? = some y /\ (f j).Rep U w y
 | .clo fn caps, u => ∃ vs : Array Value, u = .func (.func fn) #[] vs /\ vs.size = caps.length /\ ∀ (i : Nat) (c : CV), caps[i]? = some c -> ∃ y, vs[i]? = some y /\ c.Rep U β O w y
 | .mv fn t off, u => ∃ ob, Hp.get O t = some ob /\ (β t).re = true /\ off <= ob.n /\ u = .func (.func fn) #[.pointer (some ⟨(β t).b, (β t).o + off, none⟩)] #[]
 | .tup n f, u => ∃ vs : Array Value, u = .tuple vs /\ vs.size = n /\ ∀ j, j < n -> ∃ y, vs[j]? = some y /\ (f j).Rep U β O w y
 | .ag n f, u => ∃ vs : Array Value, u = .agg vs /\ vs.size = n /\ ∀ j, j < n -> ∃ y, vs[j]? = some y /\ (f j).Rep U β O w y
def Stab (U U' : Addr -> Prop) (w w' : World) : Prop := ∀ a y, ¬ U a -> w.cell? a = some y -> ¬ U' a /\ w'.cell? a = some y
theorem Stab.refl (U : Addr -> Prop) (w : World) : Stab U U w w := fun _ _ h k => ⟨h, k⟩
theorem Stab.trans {U U' U'' : Addr -> Prop} {w w' w'' : World} (h : Stab U U' w w') (k : Stab U' U'' w' w'') : Stab U U'' w w'' :=
 fun a y hu hc => let ⟨h1, h2⟩ := h a y hu hc; k a y h1 h2
theorem PV.Rep.stab {U U' : Addr -> Prop} {w w' : World} (hS : Stab U U' w w') : ∀ (x : PV) (u : Value), x.Rep U w u -> x.Rep U' w' u
 | .v _, _, h => h
 | .u8 _, _, h => h
 | .u32 _, _, h => h
 | .u64 _, _, h => h
 | .str _, _, h => h
 | .bs l, u, h => by
  obtain ⟨hn, A, c, rfl, hc, hcells⟩ := h
  refine ⟨hn, A, c, rfl, hc, fun j hj => ?_⟩
  obtain ⟨a, hA, hU, hy⟩ := hcells j hj
  obtain ⟨h1, h2⟩ := hS _ _ hU hy
  exact ⟨a, hA, h1, h2⟩
 | .sl n s f, u, h => by
  obtain ⟨hn, A, c, rfl, hc, hcells⟩ := h
  refine ⟨hn, A, c, rfl, hc, fun j hj => ?_⟩
  obtain ⟨a, y, hA, hU, hy, hr⟩ := hcells j hj
  obtain ⟨h1, h2⟩ := hS _ _ hU hy
  exact ⟨a, y, hA, h1, h2, PV.Rep.stab hS (f j) y hr⟩
 | .pp x, u, h => by
  obtain ⟨a, y, rfl, hU, hy, hr⟩ := h
  obtain ⟨h1, h2⟩ := hS _ _ hU hy
  exact ⟨a, y, rfl, h1, h2, PV.Rep.stab hS x y hr⟩
def KeepsTag (β : Loc) (O : Hp) (w : World) (β' : Loc) (O' : Hp) (w' : World) (t : Nat) : Prop :=
 ∀ ob, Hp.get O t = some ob -> β' t = β t /\ ∃ ob', Hp.get O' t = some ob' /\ ob'.s = ob.s /\ ob.n <= ob'.n /\
  ∀ E sz, w.shape? (β t).b = some (E, sz) -> ∃ E' sz', w'.shape? (β t).b = some (E', sz') /\ sz <= sz'
def CV.uses : CV -> Nat -> Prop
 | .ptr t' _, t => t' = t
 | .p _, _ => False
def BV.uses : BV -> Nat -> Prop
 | .own t' _ _, t => t' = t
 | .ptr t' _, t => t' = t
 | .clo _ caps, t => ∃ c, c ∈ caps /\ c.uses t
 | .mv _ t' _, t => t' = t
 | .tup n f, t => ∃ j, j < n /\ (f j).uses t
 | .ag n f, t => ∃ j, j < n /\ (f j).uses t
 | _, _ => False
theorem CV.Rep.tr {U U' : Addr -> Prop} {β β' : Loc} {O O' : Hp} {w w' : World} (hS : Stab U U' w w') :
  ∀ (x : CV) (u : Value), (∀ t, x.uses t -> KeepsTag β O w β' O' w' t) -> x.Rep U β O w u -> x.Rep U' β' O' w' u
 | .p x, u, _, h => PV.Rep.stab hS x u h
 | .ptr t off, u, hk, h => by
  obtain ⟨ob, hob, hre, hoff, rfl⟩ := h
  obtain ⟨hβ, ob', hob', _, hn, _⟩ := hk t rfl ob hob
  exact ⟨ob', hob', by rw [hβ]; exact hre, Nat.le_trans hoff hn, by rw [hβ]⟩
theorem BV.Rep.tr {U U' : Addr -> Prop} {β β' : Loc} {O O' : Hp} {w w' : World} (hS : Stab U U' w w') :
  ∀ (x : BV) (u : Value), (∀ t, x.uses t -> KeepsTag β O w β' O' w' t) -> x.Rep U β O w u -> x.Rep U' β' O' w' u
 | .dead, _, _, _ => trivial
 | .p x, u, _, h => PV.Rep.stab hS x u h
 | .own t off n, u, hk, h => by
  obtain ⟨hn, h⟩ := h
  refine ⟨hn, ?_⟩
  rcases h with ⟨ob, c, E, sz, hob, hre, rfl, hc, hfit, hsh, hcap⟩ | h
  ·obtain ⟨hβ, ob', hob', hs, hn', hshape⟩ := hk t rfl ob hob
   obtain ⟨E', sz', h1, h2⟩ := hshape E sz hsh
   refine .inl ⟨ob', c, E', sz', hob', by rw [hβ]; exact hre, by rw [hβ], hc, ?_, by rw [hβ]; exact h1, ?_⟩
   ·rw [hs]; omega
   ·rw [hs, hβ]; omega
  ·exact .inr h
 | .ptr t off, u, hk, h => by
  obtain ⟨ob, hob, hre, hoff, rfl⟩ := h
  obtain ⟨hβ, ob', hob', _, hn, _⟩ := hk t rfl ob hob
  exact ⟨ob', hob', by rw [hβ]; exact hre, Nat.le_trans hoff hn, by rw [hβ]⟩
 | .rp m f, u, _, h => by
  obtain ⟨a, rfl, hc⟩ := h
  refine ⟨a, rfl, fun j hj => ?_⟩
  obtain ⟨hU, y, hy, hr⟩ := hc j hj
  obtain ⟨h1, h2⟩ := hS _ _ hU hy
  exact ⟨h1, y, h2, PV.Rep.stab hS _ _ hr⟩
 | .agg n f, u, _, h => by
  obtain ⟨cs, rfl, hs, hc⟩ := h
  refine ⟨cs, rfl, hs, fun j hj => ?_⟩
  obtain ⟨y, hy, hr⟩ := hc j hj
  exact ⟨y, hy, PV.Rep.stab hS _ _ hr⟩
 | .clo fn caps, u, hk, h => by
  obtain ⟨vs, rfl, hs, hc⟩ := h
  refine ⟨vs, rfl, hs, fun i c hi => ?_⟩
  obtain ⟨y, hy, hr⟩ := hc i c hi
  exact ⟨y, hy, CV.Rep.tr hS c y (fun t ht => hk t ⟨c, List.mem_of_getElem? hi, ht⟩) hr⟩
 | .mv fn t off, u, hk, h => by
  obtain ⟨ob, hob, hre, hoff, rfl⟩ := h
  obtain ⟨hβ, ob', hob', _, hn, _⟩ := hk t rfl ob hob
  exact ⟨ob', hob', by rw [hβ]; exact hre, Nat.le_trans hoff hn, by rw [hβ]⟩
 | .tup n f, u, hk, h => by
  obtain ⟨vs, rfl, hs, hc⟩ := h
  refine ⟨vs, rfl, hs, fun j hj => ?_⟩
  obtain ⟨y, hy, hr⟩ := hc j hj
  exact ⟨y, hy, BV.Rep.tr hS (f j) y (fun t ht => hk t ⟨j, hj, ht⟩) hr⟩
 | .ag n f, u, hk, h => by
  obtain ⟨vs, rfl, hs, hc⟩ := h
  refine ⟨vs, rfl, hs, fun j hj => ?_⟩
  obtain ⟨y, hy, hr⟩ := hc j hj
  exact ⟨y, hy, BV.Rep.tr hS (f j) y (fun t ht => hk t ⟨j, hj, ht⟩) hr⟩
def NoFr (cs : Array Value) (fr : Nat × Nat) : Prop := fr.1 = fr.2 ∨ cs.size <= fr.1
theorem NoFr.spec {cs : Array Value} {fr : Nat × Nat} (h : NoFr cs fr) : ∀ i, i < cs.size -> ¬ (fr.1 <= i /\ i < fr.2) := by
 intro i hi; rcases h with h | h <;> omega
structure Mem (N : Addr -> Prop) (ng : Nat) (β : Loc) (O : Hp) (w : World) : Prop where
 wf : ∀ t ob, Hp.get O t = some ob -> ob.wf
 pos : ∀ t ob, Hp.get O t = some ob -> ob.whole = true ∨ 0 < ob.n ∨ (β t).re = false
 obj0 : ∀ t ob, Hp.get O t = some ob -> (β t).re = false -> ob.n = 0
 obj : ∀ t ob, Hp.get O t = some ob -> (β t).re = true -> ∃ (cs : Array Value) (fr : Nat × Nat), w.heap[(β t).b]? = some (.cells cs ob.E fr) /\ NoFr cs fr /\ (β t).o + ob.n <= cs.size /\ ng <= (β t).b /\
  ∀ j, j < ob.n -> ∃ u, cs[(β t).o + j]? = some u /\ (ob.c.get j).Rep (Un N β O) β O w u
 disj : ∀ t ob t' ob', Hp.get O t = some ob -> Hp.get O t' = some ob' -> t ≠ t' -> ∀ a, ob.cov (β t) a -> ¬ ob'.cov (β t') a
 notN : ∀ t ob, Hp.get O t = some ob -> ∀ a, ob.cov (β t) a -> ¬ N a
theorem Mem.lt {N : Addr -> Prop} {ng : Nat} {β : Loc} {O : Hp} {w : World} (h : Mem N ng β O w) {t : Nat} {ob : OB} (ht : Hp.get O t = some ob) (hre : (β t).re = true) : (β t).b < w.heap.size := by
 obtain ⟨cs, fr, hh, _⟩ := h.obj t ob ht hre
 exact (Array.getElem?_eq_some_iff.1 hh).1
theorem Mem.nil (N : Addr -> Prop) (ng : Nat) (β : Loc) (w : World) : Mem N ng β [] w :=
 ⟨fun _ _ h => by simp [Hp.get] at h, fun _ _ h => by simp [Hp.get] at h, fun _ _ h => by simp [Hp.get] at h, fun _ _ h => by simp [Hp.get] at h, fun _ _ _ _ h => by simp [Hp.get] at h, fun _ _ h => by simp [Hp.get] at h⟩
theorem shape_of_cells {w : World} {b : Nat} {cs : Array Value} {E : TypeId} {fr : Nat × Nat} (h : w.heap[b]? = some (.cells cs E fr)) : w.shape? b = some (E, cs.size) := by
 simp [World.shape?, h]
def Loc.set (β : Loc) (t : Nat) (b : Lc) : Loc := fun k => if k = t then b else β k
@[simp] theorem Loc.set_same (β : Loc) (t : Nat) (b : Lc) : β.set t b t = b := by simp [Loc.set]
theorem Loc.set_other (β : Loc) {t k : Nat} (b : Lc) (h : k ≠ t) : β.set t b k = β k := by simp [Loc.set, h]
theorem Hp.get_cons_same (t : Nat) (ob : OB) (O : Hp) : Hp.get ((t, ob) :: O) t = some ob := by simp [Hp.get]
theorem Hp.get_cons_other {t k : Nat} (ob : OB) (O : Hp) (h : t ≠ k) : Hp.get ((t, ob) :: O) k = Hp.get O k := by simp [Hp.get, h]
theorem Mem.real {N : Addr -> Prop} {ng : Nat} {β : Loc} {O : Hp} {w : World} (h : Mem N ng β O w) {t : Nat} {ob : OB} (ht : Hp.get O t = some ob) {j : Nat} (hj : j < ob.n) : (β t).re = true := by
 cases hr : (β t).re with
 | true => rfl
 | false => have := h.obj0 t ob ht hr; omega
theorem Mem.cell {N : Addr -> Prop} {ng : Nat} {β : Loc} {O : Hp} {w : World} (h : Mem N ng β O w) {t : Nat} {ob : OB} (ht : Hp.get O t = some ob) {j : Nat} (hj : j < ob.n) :
  ∃ u, w.cell? ⟨(β t).b, (β t).o + j, none⟩ = some u /\ w.frozen? ⟨(β t).b, (β t).o + j, none⟩ = false /\ (ob.c.get j).Rep (Un N β O) β O w u := by
 obtain ⟨cs, fr, hh, hfr, hsz, _, hc⟩ := h.obj t ob ht (h.real ht hj)
 obtain ⟨u, hu, hr⟩ := hc j hj
 refine ⟨u, by simp [World.cell?, hh, hu], ?_, hr⟩
 have := hfr.spec ((β t).o + j) (by omega)
 simp only [World.frozen?, hh]
 rw [Bool.and_eq_false_iff]
 by_cases h1 : fr.1 <= (β t).o + j
 ·exact .inr (by simp; omega)
 ·exact .inl (by simp; omega)
structure Keep (D : Addr -> Prop) (w w' : World) : Prop where
 os : w'.os = w.os
 tape : w'.tape = w.tape
 output : w'.output = w.output
 size : w.heap.size <= w'.heap.size
 same : ∀ k, k < w.heap.size -> (∀ i, ¬ D ⟨k, i, none⟩) -> w'.heap[k]? = w.heap[k]?
 part : ∀ (k : Nat) (cs : Array Value) (E : TypeId) (fr : Nat × Nat), w.heap[k]? = some (.cells cs E fr) -> (∃ i, ¬ D ⟨k, i, none⟩) ->
  ∃ cs' : Array Value, w'.heap[k]? = some (.cells cs' E fr) /\ cs'.size = cs.size /\ ∀ i, ¬ D ⟨k, i, none⟩ -> cs'[i]? = cs[i]?
 shp : ∀ (k E sz : Nat), w.shape? k = some (E, sz) -> ∃ E' sz', w'.shape? k = some (E', sz') /\ sz <= sz'
theorem Keep.refl (D : Addr -> Prop) (w : World) : Keep D w w :=
 ⟨rfl, rfl, rfl, Nat.le_refl _, fun _ _ _ => rfl, fun _ cs _ _ h _ => ⟨cs, h, rfl, fun _ _ => rfl⟩, fun _ E sz h => ⟨E, sz, h, Nat.le_refl _⟩⟩
theorem Keep.then {D D' : Addr -> Prop} {w0 w w' : World} (h : Keep D w0 w) (k : Keep D' w w') (hd : ∀ a, D' a -> D a ∨ w0.heap.size <= a.block) : Keep D w0 w' := by
 have hnd : ∀ b i, b < w0.heap.size -> ¬ D ⟨b, i, none⟩ -> ¬ D' ⟨b, i, none⟩ := fun b i hb hn hd' => by
  rcases hd _ hd' with h1 | h1
  ·exact hn h1
  ·exact absurd h1 (by simp; omega)
 refine ⟨k.os.trans h.os, k.tape.trans h.tape, k.output.trans h.output, Nat.le_trans h.size k.size, fun b hb hn => ?_, fun b cs E fr hh hx => ?_, fun b E sz hs => ?_⟩
 ·exact (k.same b (Nat.lt_of_lt_of_le hb h.size) (fun i => hnd b i hb (hn i))).trans (h.same b hb hn)
 ·have hb : b < w0.heap.size := (Array.getElem?_eq_some_iff.1 hh).1
  obtain ⟨i0, hi0⟩ := hx
  obtain ⟨c1, h1, h2, h3⟩ := h.part b cs E fr hh ⟨i0, hi0⟩
  obtain ⟨c2, k1, k2, k3⟩ := k.part b c1 E fr h1 ⟨i0, hnd b i0 hb hi0⟩
  exact ⟨c2, k1, k2.trans h2, fun i hi => (k3 i (hnd b i hb hi)).trans (h3 i hi)⟩
 ·obtain ⟨E1, s1, h1, h2⟩ := h.shp b E sz hs
  obtain ⟨E2, s2, h3, h4⟩ := k.shp b E1 s1 h1
  exact ⟨E2, s2, h3, Nat.le_trans h2 h4⟩
theorem Keep.mono {D D' : Addr -> Prop} {w w' : World} (h : Keep D w w') (hd : ∀ a, D a -> D' a) : Keep D' w w' :=
 ⟨h.os, h.tape, h.output, h.size, fun k hk hn => h.same k hk (fun i hi => hn i (hd _ hi)), fun k cs E fr hh ⟨i0, hi0⟩ =>
  let ⟨c, h1, h2, h3⟩ := h.part k cs E fr hh ⟨i0, fun hx => hi0 (hd _ hx)⟩; ⟨c, h1, h2, fun i hi => h3 i (fun hx => hi (hd _ hx))⟩, h.shp⟩
theorem Keep.alloc (D : Addr -> Prop) (w : World) (o : Obj) : Keep D w (w.alloc o) :=
 ⟨rfl, rfl, rfl, by simp, fun k hk _ => RowKit.Below.heap_alloc w o k hk, fun k cs E fr hh _ =>
  ⟨cs, (RowKit.Below.heap_alloc w o k (Array.getElem?_eq_some_iff.1 hh).1).trans hh, rfl, fun _ _ => rfl⟩, fun k E sz hs => ⟨E, sz, by
   have hlt : k < w.heap.size := by
    rcases Nat.lt_or_ge k w.heap.size with hb | hb
    ·exact hb
    ·simp [World.shape?, Array.getElem?_eq_none hb] at hs
   simp only [World.shape?] at hs ⊢
   rw [RowKit.Below.heap_alloc w _ _ hlt]
   exact hs, Nat.le_refl _⟩⟩
theorem Keep.drew (D : Addr -> Prop) (w : World) : Keep D w w.drew :=
 ⟨rfl, rfl, rfl, Nat.le_refl _, fun _ _ _ => rfl, fun _ cs _ _ h _ => ⟨cs, h, rfl, fun _ _ => rfl⟩, fun _ E sz h => ⟨E, sz, h, Nat.le_refl _⟩⟩
theorem heap_setCell_same {w : World} {b i : Nat} {v : Value} {cs : Array Value} {E : TypeId} {fr : Nat × Nat} (h : w.heap[b]? = some (.cells cs E fr)) :
  (w.setCell ⟨b, i, none⟩ v).heap[b]? = some (.cells (cs.setIfInBounds i v) E fr) := by
 simp only [World.setCell, Array.getElem?_modify, if_true, h, Option.map_some]
 rfl
theorem Keep.setCell (w : World) (b i : Nat) (v : Value) : Keep (fun a => a = ⟨b, i, none⟩) w (w.setCell ⟨b, i, none⟩ v) := by
 refine ⟨rfl, rfl, rfl, by simp [World.setCell], fun k hk hn => ?_, fun k cs E fr hh _ => ?_, fun k E sz hs => ⟨E, sz, ?_, Nat.le_refl _⟩⟩
 ·exact RowKit.Below.heap_setCell w _ _ k (fun e => hn i (by rw [e]))
 ·by_cases hk : k = b
  ·subst hk
   exact ⟨_, heap_setCell_same hh, by simp, fun j hj => by
    have hne : i ≠ j := fun e => hj (by rw [e])
    simp [Array.getElem?_setIfInBounds_ne hne]⟩
  ·exact ⟨cs, (RowKit.Below.heap_setCell w _ _ k hk).trans hh, rfl, fun _ _ => rfl⟩
 ·by_cases hk : k = b
  ·subst hk
   simp only [World.shape?] at hs ⊢
   split at hs
   ·rename_i cs E1 fr hb
    rw [heap_setCell_same hb]
    simpa using hs
   ·cases hs
  ·simp only [World.shape?] at hs ⊢
   rw [RowKit.Below.heap_setCell w _ _ k hk]
   exact hs
theorem Keep.below {w w' : World} (h : Keep (fun _ => False) w w') : RowKit.Below w.heap.size w w' :=
 ⟨h.os, h.tape, h.output, h.size, fun k hk => h.same k hk (fun _ h => h)⟩
theorem Keep.cell {D : Addr -> Prop} {w w' : World} (h : Keep D w w') {a : Addr} {y : Value} (hc : w.cell? a = some y) (hd : ¬ D a) : w'.cell? a = some y := by
 unfold World.cell? at hc
 split at hc
 ·rename_i cs E fr hb
  have hs : a.spot.isSome = false := by cases hs : a.spot.isSome with
   | false => rfl
   | true => simp [hs] at hc
  have hsn : a.spot = none := by simpa using hs
  have ha : a = ⟨a.block, a.off, none⟩ := by cases a; simp_all
  obtain ⟨c, h1, _, h3⟩ := h.part _ cs E fr hb ⟨a.off, by rw [<- ha]; exact hd⟩
  rw [hs] at hc
  simp only [Bool.false_eq_true, if_false] at hc
  unfold World.cell?
  rw [h1]
  simp only [hs, Bool.false_eq_true, if_false]
  rw [h3 a.off (by rw [<- ha]; exact hd)]
  exact hc
 ·simp at hc
def Hp.set : Hp -> Nat -> OB -> Hp
 | [], _, _ => []
 | (t, ob) :: r, k, x => if t = k then (t, x) :: r else (t, ob) :: Hp.set r k x
theorem Hp.get_set_same {O : Hp} {t : Nat} {ob : OB} (x : OB) (h : Hp.get O t = some ob) : Hp.get (Hp.set O t x) t = some x := by
 induction O with
 | nil => simp [Hp.get] at h
 | cons p r ih =>
  obtain ⟨k, o⟩ := p
  by_cases hk : k = t
  ·simp [Hp.set, hk, Hp.get]
  ·simp only [Hp.get, hk, if_false] at h
   simp [Hp.set, hk, Hp.get, ih h]
theorem Hp.get_set_other {O : Hp} {t k : Nat} (x : OB) (h : k ≠ t) : Hp.get (Hp.set O t x) k = Hp.get O k := by
 induction O with
 | nil => simp [Hp.set]
 | cons p r ih =>
  obtain ⟨j, o⟩ := p
  by_cases hj : j = t
  ·subst hj
   simp only [Hp.set, if_true, Hp.get, if_neg (Ne.symm h)]
  ·by_cases hjk : j = k
   ·subst hjk
    simp [Hp.set, hj, Hp.get]
   ·simp [Hp.set, hj, Hp.get, hjk, ih]
def CV.usesB : CV -> Nat -> Bool
 | .ptr t' _, t => t' == t
 | .p _, _ => false
def BV.kill (t : Nat) : BV -> BV
 | .own t' off n => if t' = t then .dead else .own t' off n
 | .ptr t' off => if t' = t then .dead else .ptr t' off
 | .mv fn t' off => if t' = t then .dead else .mv fn t' off
 | .clo fn caps => if caps.any (·.usesB t) then .dead else .clo fn caps
 | .tup _ _ => .dead
 | .ag _ _ => .dead
 | x => x
theorem BV.kill_uses (t : Nat) (x : BV) : ¬ (x.kill t).uses t := by
 cases x with
 | own t' off n => simp only [BV.kill]; split <;> simp_all [BV.uses]
 | ptr t' off => simp only [BV.kill]; split <;> simp_all [BV.uses]
 | mv fn t' off => simp only [BV.kill]; split <;> simp_all [BV.uses]
 | clo fn caps =>
  simp only [BV.kill]
  split
  ·simp [BV.uses]
  ·rename_i h
   simp only [BV.uses]
   rintro ⟨c, hc, hu⟩
   apply h
   rw [List.any_eq_true]
   refine ⟨c, hc, ?_⟩
   cases c <;> simp_all [CV.uses, CV.usesB]
 | _ => simp [BV.kill, BV.uses]
theorem BV.kill_rep {U : Addr -> Prop} {β : Loc} {O : Hp} {w : World} (t : Nat) {x : BV} {u : Value} (h : x.Rep U β O w u) : (x.kill t).Rep U β O w u := by
 cases x with
 | own t' off n => simp only [BV.kill]; split <;> first | exact h | simp [BV.Rep]
 | ptr t' off => simp only [BV.kill]; split <;> first | exact h | simp [BV.Rep]
 | mv fn t' off => simp only [BV.kill]; split <;> first | exact h | simp [BV.Rep]
 | clo fn caps => simp only [BV.kill]; split <;> first | exact h | simp [BV.Rep]
 | tup n f => simp [BV.kill, BV.Rep]
 | ag n f => simp [BV.kill, BV.Rep]
 | _ => simpa [BV.kill] using h
def OC.kill (t : Nat) : OC -> OC
 | .bs l => .bs l
 | .rows f => .rows f
 | .cells l => .cells (l.map (BV.kill t))
theorem OC.get_kill (t : Nat) (c : OC) (j : Nat) : (c.kill t).get j = (c.get j).kill t := by
 cases c with
 | bs l => simp [OC.kill, OC.get, BV.kill]
 | rows f => simp [OC.kill, OC.get, BV.kill]
 | cells l =>
  simp only [OC.kill, OC.get, List.getD_eq_getElem?_getD, List.getElem?_map]
  cases l[j]? <;> simp [BV.kill]
def OB.kill (t : Nat) (ob : OB) : OB := { ob with c := ob.c.kill t }
theorem OB.wf_kill {ob : OB} (t : Nat) (h : ob.wf) : (ob.kill t).wf := by
 obtain ⟨E, s, n, wh, c⟩ := ob
 cases c <;> simp_all [OB.kill, OC.kill, OB.wf]
def Hp.kill (t : Nat) : Hp -> Hp
 | [] => []
 | (k, ob) :: r => if k = t then Hp.kill t r else (k, ob.kill t) :: Hp.kill t r
theorem Hp.get_kill_same (t : Nat) (O : Hp) : Hp.get (Hp.kill t O) t = none := by
 induction O with
 | nil => rfl
 | cons p r ih =>
  obtain ⟨k, ob⟩ := p
  by_cases hk : k = t
  ·simp [Hp.kill, hk, ih]
  ·simp [Hp.kill, hk, Hp.get, ih]
theorem Hp.get_kill_other {t k : Nat} (O : Hp) (h : k ≠ t) : Hp.get (Hp.kill t O) k = (Hp.get O k).map (OB.kill t) := by
 induction O with
 | nil => rfl
 | cons p r ih =>
  obtain ⟨j, ob⟩ := p
  by_cases hj : j = t
  ·have hjk : j ≠ k := fun e => h (e ▸ hj)
   simp only [Hp.kill, hj, if_true, Hp.get]
   rw [ih, if_neg (fun e => hjk (hj.trans e))]
  ·by_cases hjk : j = k
   ·subst hjk
    simp [Hp.kill, hj, Hp.get]
   ·simp [Hp.kill, hj, Hp.get, hjk, ih]
theorem Hp.get_kill_some {t k : Nat} {O : Hp} {ob : OB} (h : Hp.get (Hp.kill t O) k = some ob) : k ≠ t /\ ∃ ob0, Hp.get O k = some ob0 /\ ob = ob0.kill t := by
 by_cases hk : k = t
 ·subst hk; rw [Hp.get_kill_same] at h; cases h
 ·rw [Hp.get_kill_other O hk] at h
  obtain ⟨o, h1, h2⟩ := Option.map_eq_some_iff.1 h
  exact ⟨hk, o, h1, h2.symm⟩
inductive TyD where
 | int (k : IntKind)
 | bool
 | string
 | slice (e : TypeId)
 | array (n : Nat) (e : TypeId)
 | struct (fs : List (Nat × TypeId))     -- each field's offset and type
 | pointer (e : TypeId)
 | func
 | float (k : FloatKind)
 | complex (k : FloatKind)
structure Ty where
 d : TyD
 size : Nat
 bytes : Nat
 zero : Option (Nat -> Value)   -- the zero value's cells
inductive GV where
 | v (x : Value)
 | u8 (b : UInt8)
 | u32 (b : UInt32)
 | u64 (b : UInt64)
def GV.pv : GV -> PV
 | .v x => .v x
 | .u8 b => .u8 b
 | .u32 b => .u32 b
 | .u64 b => .u64 b
def GV.val : GV -> Value
 | .v x => x
 | .u8 b => .int .u8 (b.toNat : Int)
 | .u32 b => .int .u32 (b.toNat : Int)
 | .u64 b => .int .u64 (b.toNat : Int)
theorem GV.rep (U : Addr -> Prop) (w : World) (x : GV) : x.pv.Rep U w x.val := by cases x <;> rfl
structure Lp where
 pc : Code
 ps : Array Tmp
 as : Code
 bd : Code
 nt : Nat
structure Ctx where
 P : Program
 nt : Nat
 ty : TypeId -> Option Ty
 gl : Nat -> Option (Nat × (Nat -> GV))
 pins : List Nat
 /-- what is told of the frames beneath (their slots) -/
 x : List (List (Nat × BV))
 /-- r: this is the body of that loop over an iterator; it: this is an iterator, l: its loop's row, lp: that loop -/
 r : Option Nat
 it : Bool
 l : Nat
 lp : Lp
 /-- the elements' cells in the blocks that stay -/
 ss : Nat -> Nat
abbrev cx (P : Program) (nt : Nat) (ty : TypeId -> Option Ty) (gl : Nat -> Option (Nat × (Nat -> GV))) (pins : List Nat) : Ctx := ⟨P, nt, ty, gl, pins, [], none, false, 0, ⟨.skip, #[], .skip, .skip, 0⟩, fun _ => 1⟩
structure Env where
 c : Ctx
 ng : Nat
 N : Addr -> Prop
 D : Addr -> Prop
 w0 : World
 β0 : Loc
 ext : List (Nat -> Value)
 lrec : LoopState -> Option Code -> Loop
 rows : List (Nat × Obj)
structure Env.OK (E : Env) : Prop where
 ngs : E.ng <= E.w0.heap.size
 Nlt : ∀ a, E.N a -> a.block < E.w0.heap.size
 gl : ∀ g m f, E.c.gl g = some (m, f) -> ∀ j, j < m -> E.w0.cell? ⟨g, j, none⟩ = some (f j).val /\ ¬ E.N ⟨g, j, none⟩ /\ ¬ E.D ⟨g, j, none⟩ /\ g < E.ng
 rows : ∀ p, p ∈ E.rows -> p.2.isCells = false /\ (E.w0.heap.size <= p.1 ∨ ∀ a : Addr, a.block = p.1 -> E.D a)
structure Core (E : Env) (β : Loc) (O : Hp) (w : World) : Prop where
 ok : E.OK
 mem : Mem E.N E.ng β O w
 keep : Keep E.D E.w0 w
 dom : ∀ t ob, Hp.get O t = some ob -> ∀ a, ob.cov (β t) a -> E.D a ∨ E.w0.heap.size <= a.block
 pins : ∀ t, t ∈ E.c.pins -> β t = E.β0 t
 rows : ∀ p, p ∈ E.rows -> w.heap[p.1]? = some p.2
theorem rows_keep {E : Env} {w w' : World} {D' : Addr -> Prop} (hok : E.OK) (hr : ∀ p, p ∈ E.rows -> w.heap[p.1]? = some p.2) (k : Keep D' w w') (hD : ∀ a, D' a -> ∃ cs e fr, w.heap[a.block]? = some (.cells cs e fr)) : ∀ p, p ∈ E.rows -> w'.heap[p.1]? = some p.2 := by
 intro p hp
 have h1 := hr p hp
 have hlt := (Array.getElem?_eq_some_iff.1 h1).1
 rw [k.same p.1 hlt (fun i hd => ?_)]
 ·exact h1
 ·obtain ⟨cs, e, fr, hc⟩ := hD _ hd
  have e1 : p.2 = .cells cs e fr := Option.some.inj (h1.symm.trans hc)
  have e2 := (hok.rows p hp).1
  rw [e1] at e2
  simp [Obj.isCells] at e2
theorem Core.cov_cells {E : Env} {β : Loc} {O : Hp} {w : World} (h : Core E β O w) {t : Nat} {ob : OB} {a : Addr} (ht : Hp.get O t = some ob) (hc : ob.cov (β t) a) : ∃ cs e fr, w.heap[a.block]? = some (.cells cs e fr) := by
 obtain ⟨cs, fr, h1, _⟩ := h.mem.obj t ob ht hc.1
 exact ⟨cs, ob.E, fr, by rw [hc.2.1]; exact h1⟩
structure Goes (E : Env) (β : Loc) (O : Hp) (w : World) (β' : Loc) (O' : Hp) (w' : World) (K : Nat -> Prop) : Prop where
 core : Core E β' O' w'
 stab : Stab (Un E.N β O) (Un E.N β' O') w w'
 tags : ∀ t, K t -> KeepsTag β O w β' O' w' t
theorem Un.of_lt {E : Env} {β : Loc} {O : Hp} {w : World} (h : Core E β O w) {a : Addr} (ha : Un E.N β O a) : a.block < w.heap.size := by
 rcases ha with ha | ⟨t, ob, ht, hc⟩
 ·exact Nat.lt_of_lt_of_le (h.ok.Nlt a ha) h.keep.size
 ·rw [hc.2.1]; exact h.mem.lt ht hc.1
theorem shape_lt {w : World} {b : Nat} {x : TypeId × Nat} (h : w.shape? b = some x) : b < w.heap.size := by
 rcases Nat.lt_or_ge b w.heap.size with hb | hb
 ·exact hb
 ·simp [World.shape?, Array.getElem?_eq_none hb] at h
theorem Core.alloc {E : Env} {β : Loc} {O : Hp} {w : World} (h : Core E β O w) (ob : OB) (cs : Array Value) (t : Nat) (ht : Hp.get O t = none) (hp : t ∉ E.c.pins) (hwh : ob.whole = true) (hwf : ob.wf)
  (hn : ob.n <= cs.size) (hc : ∀ j, j < ob.n -> ∃ u, cs[j]? = some u /\ (ob.c.get j).Rep (Un E.N β O) β O w u) :
  Goes E β O w (β.set t ⟨w.heap.size, 0, true⟩) ((t, ob) :: O) (w.alloc (.cells cs ob.E)) (fun _ => True) := by
 have hsz := h.keep.size
 have hng := h.ok.ngs
 have hne : ∀ k o, Hp.get O k = some o -> k ≠ t := fun k o hk e => by subst e; rw [ht] at hk; cases hk
 have hcov : ∀ a, ob.cov ((β.set t ⟨w.heap.size, 0, true⟩) t) a -> a.block = w.heap.size := fun a ha => by simpa using ha.2.1
 have htags : ∀ k, KeepsTag β O w (β.set t ⟨w.heap.size, 0, true⟩) ((t, ob) :: O) (w.alloc (.cells cs ob.E)) k := by
  intro k o hk
  have hkt := hne k o hk
  refine ⟨Loc.set_other β _ hkt, o, by rw [Hp.get_cons_other _ _ (Ne.symm hkt)]; exact hk, rfl, Nat.le_refl _, fun E0 sz hs => ⟨E0, sz, ?_, Nat.le_refl _⟩⟩
  have hlt : (β k).b < w.heap.size := shape_lt hs
  simp only [World.shape?] at hs ⊢
  rw [RowKit.Below.heap_alloc w _ _ hlt]
  exact hs
 have hstab : Stab (Un E.N β O) (Un E.N (β.set t ⟨w.heap.size, 0, true⟩) ((t, ob) :: O)) w (w.alloc (.cells cs ob.E)) := by
  intro a y hU hy
  have hlt := World.block_lt_of_cell? w a hy
  refine ⟨?_, (World.cell?_alloc_lt w _ a hlt).trans hy⟩
  rintro (hN | ⟨k, o, hk, hcv⟩)
  ·exact hU (.inl hN)
  ·by_cases hkt : k = t
   ·subst hkt
    rw [Hp.get_cons_same] at hk
    cases hk
    have := hcov a hcv
    omega
   ·rw [Hp.get_cons_other _ _ (Ne.symm hkt)] at hk
    rw [Loc.set_other β _ hkt] at hcv
    exact hU (.inr ⟨k, o, hk, hcv⟩)
 refine ⟨⟨h.ok, ⟨?_, ?_, ?_, ?_, ?_, ?_⟩, h.keep.then (Keep.alloc (fun _ => False) w _) (fun _ h => h.elim), ?_, ?_, rows_keep h.ok h.rows (Keep.alloc (fun _ => False) w _) (fun _ h => h.elim)⟩, hstab, fun k _ => htags k⟩
 ·intro k o hk
  by_cases hkt : k = t
  ·subst hkt; rw [Hp.get_cons_same] at hk; cases hk; exact hwf
  ·rw [Hp.get_cons_other _ _ (Ne.symm hkt)] at hk
   exact h.mem.wf k o hk
 ·intro k o hk
  by_cases hkt : k = t
  ·subst hkt; rw [Hp.get_cons_same] at hk; cases hk; exact .inl hwh
  ·rw [Hp.get_cons_other _ _ (Ne.symm hkt)] at hk
   rw [Loc.set_other β _ hkt]
   exact h.mem.pos k o hk
 ·intro k o hk hre
  by_cases hkt : k = t
  ·subst hkt; simp at hre
  ·rw [Hp.get_cons_other _ _ (Ne.symm hkt)] at hk
   rw [Loc.set_other β _ hkt] at hre
   exact h.mem.obj0 k o hk hre
 ·intro k o hk hre
  by_cases hkt : k = t
  ·subst hkt
   rw [Hp.get_cons_same] at hk
   cases hk
   refine ⟨cs, (0, 0), by simp only [Loc.set_same]; exact heap_alloc_new w _, .inl rfl, by simpa using hn, by simp; omega, fun j hj => ?_⟩
   obtain ⟨u, hu, hr⟩ := hc j hj
   exact ⟨u, by simpa using hu, BV.Rep.tr hstab _ _ (fun k _ => htags k) hr⟩
  ·rw [Hp.get_cons_other _ _ (Ne.symm hkt)] at hk
   rw [Loc.set_other β _ hkt] at hre
   obtain ⟨c, fr, h1, hfr, h2, h3, h4⟩ := h.mem.obj k o hk hre
   rw [Loc.set_other β _ hkt]
   refine ⟨c, fr, (RowKit.Below.heap_alloc w _ _ (h.mem.lt hk hre)).trans h1, hfr, h2, h3, fun j hj => ?_⟩
   obtain ⟨u, hu, hr⟩ := h4 j hj
   exact ⟨u, hu, BV.Rep.tr hstab _ _ (fun k _ => htags k) hr⟩
 ·intro k o k' o' hk hk' hkk a ha ha'
  by_cases hkt : k = t
  ·subst hkt
   rw [Hp.get_cons_same] at hk
   cases hk
   rw [Hp.get_cons_other _ _ hkk] at hk'
   rw [Loc.set_other β _ (Ne.symm hkk)] at ha'
   have h1 := hcov a ha
   have h2 := h.mem.lt hk' ha'.1
   have h3 := ha'.2.1
   omega
  ·rw [Hp.get_cons_other _ _ (Ne.symm hkt)] at hk
   rw [Loc.set_other β _ hkt] at ha
   by_cases hkt' : k' = t
   ·subst hkt'
    rw [Hp.get_cons_same] at hk'
    cases hk'
    have h1 := hcov a ha'
    have h2 := h.mem.lt hk ha.1
    have h3 := ha.2.1
    omega
   ·rw [Hp.get_cons_other _ _ (Ne.symm hkt')] at hk'
    rw [Loc.set_other β _ hkt'] at ha'
    exact h.mem.disj k o k' o' hk hk' hkk a ha ha'
 ·intro k o hk a ha hN
  by_cases hkt : k = t
  ·subst hkt
   rw [Hp.get_cons_same] at hk
   cases hk
   have h1 := hcov a ha
   have h2 := h.ok.Nlt a hN
   omega
  ·rw [Hp.get_cons_other _ _ (Ne.symm hkt)] at hk
   rw [Loc.set_other β _ hkt] at ha
   exact h.mem.notN k o hk a ha hN
 ·intro k o hk a ha
  by_cases hkt : k = t
  ·subst hkt
   rw [Hp.get_cons_same] at hk
   cases hk
   have h1 := hcov a ha
   exact .inr (by omega)
  ·rw [Hp.get_cons_other _ _ (Ne.symm hkt)] at hk
   rw [Loc.set_other β _ hkt] at ha
   exact h.dom k o hk a ha
 ·intro k hk
  rw [Loc.set_other β _ (fun e => hp (by rw [<- e]; exact hk))]
  exact h.pins k hk
theorem KeepsTag.trans {β β' β'' : Loc} {O O' O'' : Hp} {w w' w'' : World} {t : Nat} (h : KeepsTag β O w β' O' w' t) (k : KeepsTag β' O' w' β'' O'' w'' t) : KeepsTag β O w β'' O'' w'' t := by
 intro ob hob
 obtain ⟨h1, ob1, h2, h3, h4, h5⟩ := h ob hob
 obtain ⟨k1, ob2, k2, k3, k4, k5⟩ := k ob1 h2
 refine ⟨k1.trans h1, ob2, k2, k3.trans h3, Nat.le_trans h4 k4, fun E sz hs => ?_⟩
 obtain ⟨E1, sz1, h6, h7⟩ := h5 E sz hs
 rw [<- h1] at h6
 obtain ⟨E2, sz2, k6, k7⟩ := k5 E1 sz1 h6
 rw [h1] at k6
 exact ⟨E2, sz2, k6, Nat.le_trans h7 k7⟩
theorem Goes.trans {E : Env} {β β' β'' : Loc} {O O' O'' : Hp} {w w' w'' : World} {K K' : Nat -> Prop} (h : Goes E β O w β' O' w' K) (k : Goes E β' O' w' β'' O'' w'' K') : Goes E β O w β'' O'' w'' (fun t => K t /\ K' t) :=
 ⟨k.core, h.stab.trans k.stab, fun t ht => (h.tags t ht.1).trans (k.tags t ht.2)⟩
theorem Goes.weaken {E : Env} {β β' : Loc} {O O' : Hp} {w w' : World} {K K' : Nat -> Prop} (h : Goes E β O w β' O' w' K) (hk : ∀ t, K' t -> K t) : Goes E β O w β' O' w' K' :=
 ⟨h.core, h.stab, fun t ht => h.tags t (hk t ht)⟩
theorem Goes.rep {E : Env} {β β' : Loc} {O O' : Hp} {w w' : World} {K : Nat -> Prop} (h : Goes E β O w β' O' w' K) {x : BV} {u : Value} (hx : x.Rep (Un E.N β O) β O w u) (hk : ∀ t, x.uses t -> K t) : x.Rep (Un E.N β' O') β' O' w' u :=
 BV.Rep.tr h.stab x u (fun t ht => h.tags t (hk t ht)) hx
theorem Core.drew {E : Env} {β : Loc} {O : Hp} {w : World} (h : Core E β O w) : Goes E β O w β O w.drew (fun _ => True) := by
 have hstab : Stab (Un E.N β O) (Un E.N β O) w w.drew := fun a y hU hy => ⟨hU, hy⟩
 have htags : ∀ k, KeepsTag β O w β O w.drew k := fun k o hk => ⟨rfl, o, hk, rfl, Nat.le_refl _, fun E sz hs => ⟨E, sz, hs, Nat.le_refl _⟩⟩
 refine ⟨⟨h.ok, ⟨h.mem.wf, h.mem.pos, h.mem.obj0, fun t ob ht hre => ?_, h.mem.disj, h.mem.notN⟩, h.keep.then (Keep.drew (fun _ => False) w) (fun _ h => h.elim), h.dom, h.pins, rows_keep h.ok h.rows (Keep.drew (fun _ => False) w) (fun _ h => h.elim)⟩, hstab, fun k _ => htags k⟩
 obtain ⟨cs, fr, h1, hfr, h2, h3, h4⟩ := h.mem.obj t ob ht hre
 exact ⟨cs, fr, h1, hfr, h2, h3, fun j hj => let ⟨u, hu, hr⟩ := h4 j hj; ⟨u, hu, BV.Rep.tr hstab _ _ (fun k _ => htags k) hr⟩⟩
theorem Core.store {E : Env} {β : Loc} {O : Hp} {w : World} (h : Core E β O w) {t : Nat} {ob : OB} (ht : Hp.get O t = some ob) {off : Nat} (hoff : off < ob.n) (c' : OC) (v : Value) (x : BV)
  (hx : x.Rep (Un E.N β O) β O w v) (hc' : ∀ j, j < ob.n -> c'.get j = if j = off then x else ob.c.get j) (hwf : OB.wf { ob with c := c' }) :
  Goes E β O w β (Hp.set O t { ob with c := c' }) (w.setCell ⟨(β t).b, (β t).o + off, none⟩ v) (fun _ => True) := by
 have hreal := h.mem.real ht hoff
 have hget : ∀ k o, Hp.get (Hp.set O t { ob with c := c' }) k = some o -> (k = t /\ o = { ob with c := c' }) ∨ (k ≠ t /\ Hp.get O k = some o) := by
  intro k o hk
  by_cases hkt : k = t
  ·subst hkt; rw [Hp.get_set_same _ ht] at hk; cases hk; exact .inl ⟨rfl, rfl⟩
  ·rw [Hp.get_set_other _ hkt] at hk; exact .inr ⟨hkt, hk⟩
 have hback : ∀ k o, Hp.get (Hp.set O t { ob with c := c' }) k = some o -> ∃ o', Hp.get O k = some o' /\ o'.s = o.s /\ o'.n = o.n /\ o'.E = o.E /\ ∀ b a, o.cov b a ↔ o'.cov b a := by
  intro k o hk
  rcases hget k o hk with ⟨rfl, rfl⟩ | ⟨_, hk⟩
  ·exact ⟨ob, ht, rfl, rfl, rfl, fun _ _ => Iff.rfl⟩
  ·exact ⟨o, hk, rfl, rfl, rfl, fun _ _ => Iff.rfl⟩
 have hown : ∀ a, Owns β (Hp.set O t { ob with c := c' }) a -> Owns β O a := by
  rintro a ⟨k, o, hk, hc⟩
  obtain ⟨o', h1, _, _, _, h2⟩ := hback k o hk
  exact ⟨k, o', h1, (h2 _ _).1 hc⟩
 have hmine : Owns β O ⟨(β t).b, (β t).o + off, none⟩ := ⟨t, ob, ht, hreal, rfl, .inr ⟨by simp, by simp; omega⟩⟩
 have hstab : Stab (Un E.N β O) (Un E.N β (Hp.set O t { ob with c := c' })) w (w.setCell ⟨(β t).b, (β t).o + off, none⟩ v) := by
  intro a y hU hy
  refine ⟨fun hx => hU (hx.imp id (hown a)), ?_⟩
  rw [World.cell?_setCell_other]
  ·exact hy
  ·rintro rfl; exact hU (.inr hmine)
 have htags : ∀ k, KeepsTag β O w β (Hp.set O t { ob with c := c' }) (w.setCell ⟨(β t).b, (β t).o + off, none⟩ v) k := by
  intro k o hk
  have hsh : ∀ E0 sz, w.shape? (β k).b = some (E0, sz) -> ∃ E' sz', (w.setCell ⟨(β t).b, (β t).o + off, none⟩ v).shape? (β k).b = some (E', sz') /\ sz <= sz' := by
   intro E0 sz hs
   by_cases hb : (β k).b = (β t).b
   ·obtain ⟨cs, fr, h1, _⟩ := h.mem.obj t ob ht hreal
    rw [hb, shape_of_cells h1] at hs
    cases hs
    rw [hb]
    exact ⟨_, _, shape_of_cells (heap_setCell_same h1), by simp⟩
   ·refine ⟨E0, sz, ?_, Nat.le_refl _⟩
    simp only [World.shape?] at hs ⊢
    rw [RowKit.Below.heap_setCell w _ _ _ hb]
    exact hs
  by_cases hkt : k = t
  ·subst hkt
   rw [ht] at hk; cases hk
   exact ⟨rfl, _, Hp.get_set_same _ ht, rfl, Nat.le_refl _, hsh⟩
  ·exact ⟨rfl, o, by rw [Hp.get_set_other _ hkt]; exact hk, rfl, Nat.le_refl _, hsh⟩
 refine ⟨⟨h.ok, ⟨?_, ?_, ?_, ?_, ?_, ?_⟩, ?_, ?_, h.pins, rows_keep h.ok h.rows (Keep.setCell w _ _ v) (fun a ha => by subst ha; obtain ⟨cs, fr, h1, _⟩ := h.mem.obj t ob ht (h.mem.real ht hoff); exact ⟨cs, ob.E, fr, h1⟩)⟩, hstab, fun k _ => htags k⟩
 ·intro k o hk
  rcases hget k o hk with ⟨rfl, rfl⟩ | ⟨_, hk⟩
  ·exact hwf
  ·exact h.mem.wf k o hk
 ·intro k o hk
  rcases hget k o hk with ⟨rfl, rfl⟩ | ⟨_, hk⟩
  ·exact h.mem.pos k ob ht
  ·exact h.mem.pos k o hk
 ·intro k o hk hre
  obtain ⟨o', h1, _, h2, _⟩ := hback k o hk
  rw [<- h2]; exact h.mem.obj0 k o' h1 hre
 ·intro k o hk hre
  rcases hget k o hk with ⟨rfl, rfl⟩ | ⟨hkt, hk0⟩
  ·obtain ⟨cs, fr, h1, hfr, h2, h3, h4⟩ := h.mem.obj k ob ht hre
   refine ⟨cs.setIfInBounds ((β k).o + off) v, fr, heap_setCell_same h1, hfr.imp id (fun h => by simpa using h), by simpa using h2, h3, fun j hj => ?_⟩
   rw [hc' j hj]
   by_cases hjo : j = off
   ·subst hjo
    refine ⟨v, by rw [Array.getElem?_setIfInBounds]; simp only [if_true]; rw [if_pos (by omega)], ?_⟩
    rw [if_pos rfl]
    exact BV.Rep.tr hstab _ _ (fun k _ => htags k) hx
   ·obtain ⟨u, hu, hr⟩ := h4 j hj
    refine ⟨u, ?_, ?_⟩
    ·rw [Array.getElem?_setIfInBounds_ne (by omega)]; exact hu
    ·rw [if_neg hjo]; exact BV.Rep.tr hstab _ _ (fun k _ => htags k) hr
  ·obtain ⟨cs, fr, h1, hfr, h2, h3, h4⟩ := h.mem.obj k o hk0 hre
   by_cases hb : (β k).b = (β t).b
   ·rw [hb] at h1 ⊢
    refine ⟨_, fr, heap_setCell_same h1, hfr.imp id (fun h => by simpa using h), by simpa using h2, by rw [<- hb]; exact h3, fun j hj => ?_⟩
    obtain ⟨u, hu, hr⟩ := h4 j hj
    refine ⟨u, ?_, BV.Rep.tr hstab _ _ (fun k _ => htags k) hr⟩
    have hne : (β t).o + off ≠ (β k).o + j := by
     intro he
     refine h.mem.disj k o t ob hk0 ht hkt ⟨(β t).b, (β t).o + off, none⟩ ⟨hre, hb.symm, .inr ⟨by simp; omega, by simp; omega⟩⟩ ⟨hreal, rfl, .inr ⟨by simp, by simp; omega⟩⟩
    rw [Array.getElem?_setIfInBounds_ne hne]; exact hu
   ·refine ⟨cs, fr, (RowKit.Below.heap_setCell w _ _ _ hb).trans h1, hfr, h2, h3, fun j hj => ?_⟩
    obtain ⟨u, hu, hr⟩ := h4 j hj
    exact ⟨u, hu, BV.Rep.tr hstab _ _ (fun k _ => htags k) hr⟩
 ·intro k o k' o' hk hk' hkk a ha ha'
  obtain ⟨o1, h1, _, _, _, h2⟩ := hback k o hk
  obtain ⟨o1', h1', _, _, _, h2'⟩ := hback k' o' hk'
  exact h.mem.disj k o1 k' o1' h1 h1' hkk a ((h2 _ _).1 ha) ((h2' _ _).1 ha')
 ·intro k o hk a ha
  obtain ⟨o1, h1, _, _, _, h2⟩ := hback k o hk
  exact h.mem.notN k o1 h1 a ((h2 _ _).1 ha)
 ·refine h.keep.then (Keep.setCell w _ _ v) ?_
  rintro a rfl
  exact h.dom t ob ht _ ⟨hreal, rfl, .inr ⟨by simp, by simp; omega⟩⟩
 ·intro k o hk a ha
  obtain ⟨o1, h1, _, _, _, h2⟩ := hback k o hk
  exact h.dom k o1 h1 a ((h2 _ _).1 ha)
theorem Core.kill {E : Env} {β : Loc} {O : Hp} {w : World} (h : Core E β O w) (t : Nat) : Goes E β O w β (Hp.kill t O) w (fun k => k ≠ t) := by
 have hcov : ∀ (o : OB) b a, (o.kill t).cov b a ↔ o.cov b a := fun _ _ _ => Iff.rfl
 have hown : ∀ a, Owns β (Hp.kill t O) a -> Owns β O a := by
  rintro a ⟨k, o, hk, hc⟩
  obtain ⟨_, o0, h1, rfl⟩ := Hp.get_kill_some hk
  exact ⟨k, o0, h1, hc⟩
 have hstab : Stab (Un E.N β O) (Un E.N β (Hp.kill t O)) w w := fun a y hU hy => ⟨fun hx => hU (hx.imp id (hown a)), hy⟩
 have htags : ∀ k, k ≠ t -> KeepsTag β O w β (Hp.kill t O) w k := by
  intro k hkt o hk
  exact ⟨rfl, o.kill t, by rw [Hp.get_kill_other O hkt, hk]; rfl, rfl, Nat.le_refl _, fun E sz hs => ⟨E, sz, hs, Nat.le_refl _⟩⟩
 refine ⟨⟨h.ok, ⟨?_, ?_, ?_, ?_, ?_, ?_⟩, h.keep, ?_, h.pins, h.rows⟩, hstab, htags⟩
 ·intro k o hk
  obtain ⟨_, o0, h1, rfl⟩ := Hp.get_kill_some hk
  exact OB.wf_kill t (h.mem.wf k o0 h1)
 ·intro k o hk
  obtain ⟨_, o0, h1, rfl⟩ := Hp.get_kill_some hk
  exact h.mem.pos k o0 h1
 ·intro k o hk hre
  obtain ⟨hkt, o0, h1, rfl⟩ := Hp.get_kill_some hk
  exact h.mem.obj0 k o0 h1 hre
 ·intro k o hk hre
  obtain ⟨hkt, o0, h1, rfl⟩ := Hp.get_kill_some hk
  obtain ⟨cs, fr, h2, hfr, h3, h4, h5⟩ := h.mem.obj k o0 h1 hre
  refine ⟨cs, fr, h2, hfr, h3, h4, fun j hj => ?_⟩
  obtain ⟨u, hu, hr⟩ := h5 j hj
  refine ⟨u, hu, ?_⟩
  show ((o0.c.kill t).get j).Rep _ _ _ _ _
  rw [OC.get_kill]
  exact BV.Rep.tr hstab _ _ (fun k hk => htags k (fun e => BV.kill_uses t _ (e ▸ hk))) (BV.kill_rep t hr)
 ·intro k o k' o' hk hk' hkk a ha ha'
  obtain ⟨_, o0, h1, rfl⟩ := Hp.get_kill_some hk
  obtain ⟨_, o0', h1', rfl⟩ := Hp.get_kill_some hk'
  exact h.mem.disj k o0 k' o0' h1 h1' hkk a ha ha'
 ·intro k o hk a ha
  obtain ⟨_, o0, h1, rfl⟩ := Hp.get_kill_some hk
  exact h.mem.notN k o0 h1 a ha
 ·intro k o hk a ha
  obtain ⟨_, o0, h1, rfl⟩ := Hp.get_kill_some hk
  exact h.dom k o0 h1 a ha
theorem Core.kill_un {E : Env} {β : Loc} {O : Hp} {w : World} (h : Core E β O w) {t : Nat} {ob : OB} (ht : Hp.get O t = some ob) {j : Nat} (hj : j < ob.n) :
  ¬ Un E.N β (Hp.kill t O) ⟨(β t).b, (β t).o + j, none⟩ := by
 rintro (hN | ⟨k, o, hk, hcv⟩)
 ·exact h.mem.notN t ob ht _ ⟨h.mem.real ht hj, rfl, .inr ⟨by simp, by simp; omega⟩⟩ hN
 ·obtain ⟨hkt, o0, h1, rfl⟩ := Hp.get_kill_some hk
  exact h.mem.disj k o0 t ob h1 ht hkt _ hcv ⟨h.mem.real ht hj, rfl, .inr ⟨by simp, by simp; omega⟩⟩
theorem Core.own_cells {E : Env} {β : Loc} {O : Hp} {w : World} (h : Core E β O w) {t : Nat} {ob : OB} (ht : Hp.get O t = some ob) {off n : Nat} {u : Value}
  (hu : (BV.own t off n).Rep (Un E.N β O) β O w u) : n <= maxLen /\ ∃ A c, u = .slice A n c /\ n <= c /\
   ∀ j, j < n * ob.s -> ∃ a y, A = some a /\ a.add j = ⟨(β t).b, (β t).o + (off + j), none⟩ /\ off + j < ob.n /\ w.cell? (a.add j) = some y /\ (ob.c.get (off + j)).Rep (Un E.N β O) β O w y := by
 obtain ⟨hn, hu⟩ := hu
 refine ⟨hn, ?_⟩
 rcases hu with ⟨ob', c, E0, sz, hob, _, rfl, hcap, hfit, _, _⟩ | ⟨rfl, A, rfl⟩
 ·rw [ht] at hob; cases hob
  refine ⟨_, c, rfl, hcap, fun j hj => ?_⟩
  obtain ⟨y, hy, _, hr⟩ := h.mem.cell ht (j := off + j) (by omega)
  have e : (⟨(β t).b, (β t).o + off, none⟩ : Addr).add j = ⟨(β t).b, (β t).o + (off + j), none⟩ := by rw [Addr.add_mid, Nat.add_assoc]
  exact ⟨_, y, rfl, e, by omega, by rw [e]; exact hy, hr⟩
 ·exact ⟨A, 0, rfl, Nat.le_refl _, fun j hj => by omega⟩
theorem kill_stab {N : Addr -> Prop} {β : Loc} {O : Hp} {w : World} (t : Nat) : Stab (Un N β O) (Un N β (Hp.kill t O)) w w :=
 fun _ _ hU hy => ⟨fun hx => hU (hx.imp id (fun ⟨k, o, hk, hcv⟩ => let ⟨_, o0, h1, e⟩ := Hp.get_kill_some hk; ⟨k, o0, h1, by subst e; exact hcv⟩)), hy⟩
theorem Core.freed {E : Env} {β : Loc} {O : Hp} {w : World} (h : Core E β O w) {t : Nat} {ob : OB} (ht : Hp.get O t = some ob) {off n : Nat} {u : Value} {f : Nat -> PV} (hc : ob.c = .rows f)
  (hu : (BV.own t off n).Rep (Un E.N β O) β O w u) : (PV.sl n ob.s (fun j => f (off + j))).Rep (Un E.N β (Hp.kill t O)) w u := by
 obtain ⟨hn, A, c, rfl, hcap, hcells⟩ := h.own_cells ht hu
 refine ⟨hn, A, c, rfl, hcap, fun j hj => ?_⟩
 obtain ⟨a, y, hA, he, hlt, hy, hr⟩ := hcells j hj
 rw [hc] at hr
 exact ⟨a, y, hA, by rw [he]; exact h.kill_un ht hlt, hy, PV.Rep.stab (kill_stab t) _ _ hr⟩
theorem Core.freed_bs {E : Env} {β : Loc} {O : Hp} {w : World} (h : Core E β O w) {t : Nat} {ob : OB} (ht : Hp.get O t = some ob) {off n : Nat} {u : Value} {l : List UInt8} (hc : ob.c = .bs l)
  (hu : (BV.own t off n).Rep (Un E.N β O) β O w u) : (PV.bs ((l.drop off).take n)).Rep (Un E.N β (Hp.kill t O)) w u := by
 have hw := h.mem.wf t ob ht
 rw [OB.wf, hc] at hw
 obtain ⟨hs, hl⟩ := hw
 have hfit : off + n <= l.length ∨ n = 0 := by
  rcases hu.2 with ⟨ob', _, _, _, hob, _, _, _, hf, _⟩ | ⟨h0, _⟩
  ·rw [ht] at hob; cases hob; rw [hs] at hf; exact .inl (by omega)
  ·exact .inr h0
 obtain ⟨hn, A, c, rfl, hcap, hcells⟩ := h.own_cells ht hu
 have hlen : ((l.drop off).take n).length = n := by simp; omega
 refine ⟨by rw [hlen]; exact hn, A, c, by rw [hlen], by rw [hlen]; exact hcap, fun j hj => ?_⟩
 rw [hlen] at hj
 obtain ⟨a, y, hA, he, hlt, hy, hr⟩ := hcells j (by rw [hs]; omega)
 rw [hc] at hr
 have hr' : y = .int .u8 ((l.getD (off + j) 0).toNat : Int) := hr
 refine ⟨a, hA, by rw [he]; exact h.kill_un ht hlt, ?_⟩
 rw [hy, hr']
 congr 4
 simp [List.getD_eq_getElem?_getD, List.getElem?_drop, hj]
structure Turn (T : Nat -> Prop) (w w' : World) : Prop where
 os : w'.os = w.os
 tape : w'.tape = w.tape
 output : w'.output = w.output
 size : w.heap.size <= w'.heap.size
 same : ∀ k, k < w.heap.size -> ¬ T k -> w'.heap[k]? = w.heap[k]?
 rows : ∀ k, T k -> ∀ cs e fr, w.heap[k]? ≠ some (.cells cs e fr)
theorem Turn.cells {T : Nat -> Prop} {w w' : World} (h : Turn T w w') {k : Nat} {cs : Array Value} {e : TypeId} {fr : Nat × Nat} (hk : w.heap[k]? = some (.cells cs e fr)) : w'.heap[k]? = some (.cells cs e fr) :=
 (h.same k (Array.getElem?_eq_some_iff.1 hk).1 fun ht => h.rows k ht cs e fr hk).trans hk
theorem Turn.cell {T : Nat -> Prop} {w w' : World} (h : Turn T w w') {a : Addr} {y : Value} (hc : w.cell? a = some y) : w'.cell? a = some y := by
 have : w'.heap[a.block]? = w.heap[a.block]? := by
  unfold World.cell? at hc
  cases ho : w.heap[a.block]? with
  | none => simp [ho] at hc
  | some o =>
   cases o <;> first
    | exact h.cells ho
    | (simp [ho] at hc; done)
 unfold World.cell? at hc ⊢
 rw [this]; exact hc
theorem Turn.shape {T : Nat -> Prop} {w w' : World} (h : Turn T w w') {k E sz : Nat} (hs : w.shape? k = some (E, sz)) : w'.shape? k = some (E, sz) := by
 unfold World.shape? at hs ⊢
 cases ho : w.heap[k]? with
 | none => simp [ho] at hs
 | some o =>
  cases o <;> first
   | (rw [h.cells ho]; rw [ho] at hs; exact hs)
   | (simp [ho] at hs; done)
theorem Turn.stab {T : Nat -> Prop} {w w' : World} (h : Turn T w w') (U : Addr -> Prop) : Stab U U w w' := fun _ _ hU hy => ⟨hU, h.cell hy⟩
theorem Turn.tag {T : Nat -> Prop} {w w' : World} (h : Turn T w w') (β : Loc) (O : Hp) (t : Nat) : KeepsTag β O w β O w' t :=
 fun ob ht => ⟨rfl, ob, ht, rfl, Nat.le_refl _, fun E sz hs => ⟨E, sz, h.shape hs, Nat.le_refl _⟩⟩
theorem Turn.keep {T : Nat -> Prop} {w w' : World} (h : Turn T w w') : Keep (fun a => T a.block) w w' :=
 ⟨h.os, h.tape, h.output, h.size, fun k hk hn => h.same k hk (hn 0), fun _ cs _ _ hh _ => ⟨cs, h.cells hh, rfl, fun _ _ => rfl⟩, fun _ E sz hs => ⟨E, sz, h.shape hs, Nat.le_refl _⟩⟩
theorem Turn.put {w : World} {l : Nat} {o : Obj} (o' : Obj) (hl : w.heap[l]? = some o) (ho : o.isCells = false) : Turn (· = l) w (w.putObj l o') :=
 ⟨rfl, rfl, rfl, by simp [World.putObj], fun k _ hk => World.putObj_heap_other hk, fun k hk cs e fr hc => by
  subst hk
  rw [hl] at hc
  cases hc
  simp [Obj.isCells] at ho⟩
theorem Core.turn {E : Env} {β : Loc} {O : Hp} {w w' : World} (h : Core E β O w) {T : Nat -> Prop} (ht : Turn T w w') (hT : ∀ k, T k -> E.w0.heap.size <= k ∨ ∀ a : Addr, a.block = k -> E.D a) (rs : List (Nat × Obj))
  (hrs : ∀ p, p ∈ rs -> w'.heap[p.1]? = some p.2 /\ p.2.isCells = false /\ (E.w0.heap.size <= p.1 ∨ ∀ a : Addr, a.block = p.1 -> E.D a)) : Core { E with rows := rs } β O w' := by
 have hst := ht.stab (Un E.N β O)
 refine ⟨⟨h.ok.ngs, h.ok.Nlt, h.ok.gl, fun p hp => (hrs p hp).2⟩, ⟨h.mem.wf, h.mem.pos, h.mem.obj0, fun t ob htt hre => ?_, h.mem.disj, h.mem.notN⟩, h.keep.then ht.keep ?_, h.dom, h.pins, fun p hp => (hrs p hp).1⟩
 ·obtain ⟨cs, fr, h1, hfr, h2, h3, h4⟩ := h.mem.obj t ob htt hre
  exact ⟨cs, fr, ht.cells h1, hfr, h2, h3, fun j hj => let ⟨u, hu, hr⟩ := h4 j hj; ⟨u, hu, BV.Rep.tr hst _ _ (fun k _ => ht.tag β O k) hr⟩⟩
 ·intro a hk
  rcases hT _ hk with h1 | h1
  ·exact .inr h1
  ·exact .inl (h1 a rfl)
def cst : Value -> PV
 | .int .u8 c => if 0 <= c /\ c < 256 then .u8 (UInt8.ofNat c.toNat) else .v (.int .u8 c)
 | .int .u32 c => if 0 <= c /\ c < 4294967296 then .u32 (UInt32.ofNat c.toNat) else .v (.int .u32 c)
 | .int .u64 c => if 0 <= c /\ c < 18446744073709551616 then .u64 (UInt64.ofNat c.toNat) else .v (.int .u64 c)
 | .string s => .str s.data.toList
 | v => .v v
theorem cst_rep (U : Addr -> Prop) (w : World) (v : Value) : (cst v).Rep U w v := by
 unfold cst
 split
 ·split
  ·rename_i c h
   simp only [PV.Rep, UInt8.toNat_ofNat']
   congr 1
   omega
  ·rfl
 ·split
  ·rename_i c h
   simp only [PV.Rep, UInt32.toNat_ofNat']
   congr 1
   omega
  ·rfl
 ·split
  ·rename_i c h
   simp only [PV.Rep, UInt64.toNat_ofNat']
   congr 1
   omega
  ·rfl
 ·simp [PV.Rep]
 ·rfl
def PV.toI : PV -> Option Int
 | .v (.int _ n) => some n
 | .u8 b => some b.toNat
 | .u32 b => some b.toNat
 | .u64 b => some b.toNat
 | _ => none
theorem PV.toI_rep {U : Addr -> Prop} {w : World} {x : PV} {u : Value} {n : Int} (h : x.toI = some n) (hx : x.Rep U w u) : ∃ k, u = .int k n := by
 unfold PV.toI at h
 split at h
 ·cases h; exact ⟨_, hx⟩
 ·cases h; exact ⟨_, hx⟩
 ·cases h; exact ⟨_, hx⟩
 ·cases h; exact ⟨_, hx⟩
 ·cases h
theorem wrap_i64 {n : Int} (h0 : -9223372036854775808 <= n) (h1 : n <= 9223372036854775807) : IntKind.i64.wrap n = n := by
 simp [IntKind.wrap, IntKind.bits, IntKind.signed]
 split <;> omega
theorem wrap_u8 (n : Int) : IntKind.u8.wrap n = n % 256 := by
 simp [IntKind.wrap, IntKind.bits, IntKind.signed]
theorem ofInt_u8 (a : UInt8) : BitVec.ofInt IntKind.u8.bits (a.toNat : Int) = a.toBitVec := by
 simp [IntKind.bits, BitVec.ofInt_natCast]
theorem lt_u8 (a : UInt8) : (a.toNat : Int) < 256 := by have := a.toNat_lt; omega
theorem mod_u8 (a : UInt8) : (a.toNat : Int) % 256 = a.toNat := Int.emod_eq_of_lt (by omega) (lt_u8 a)
def u8Bin (op : BinOp) (a b : UInt8) : Option PV :=
 match op with
 | .add => some (.u8 (a + b))
 | .sub => some (.u8 (a - b))
 | .mul => some (.u8 (a * b))
 | .and => some (.u8 (a &&& b))
 | .or => some (.u8 (a ||| b))
 | .xor => some (.u8 (a ^^^ b))
 | .andNot => some (.u8 (a &&& ~~~ b))
 | .eql => some (.v (.bool (decide (a = b))))
 | .neq => some (.v (.bool (!decide (a = b))))
 | .lss => some (.v (.bool (decide (a < b))))
 | .leq => some (.v (.bool (decide (a <= b))))
 | .gtr => some (.v (.bool (decide (b < a))))
 | .geq => some (.v (.bool (decide (b <= a))))
 | _ => none
theorem u8Bin_run {P : Program} (T : TypeId) {op : BinOp} {a b : UInt8} {r : PV} (h : u8Bin op a b = some r) (U : Addr -> Prop) (w : World) :
  ∃ u, (binOp op T (.int .u8 (a.toNat : Int)) (.int .u8 (b.toNat : Int))).run P w = .ok u w /\ r.Rep U w u := by
 have ha := a.toNat_lt
 have hb := b.toNat_lt
 cases op <;> simp only [u8Bin, Option.some.injEq, reduceCtorEq] at h <;> subst h <;> refine ⟨_, rfl, ?_⟩
 ·simp only [PV.Rep, wrap_u8, UInt8.toNat_add]; congr 1
 ·simp only [PV.Rep, wrap_u8, UInt8.toNat_sub]; congr 1; omega
 ·simp only [PV.Rep, wrap_u8, UInt8.toNat_mul]; congr 1
 ·simp only [PV.Rep, wrap_u8, ofInt_u8]; congr 1; exact mod_u8 _
 ·simp only [PV.Rep, wrap_u8, ofInt_u8]; congr 1; exact mod_u8 _
 ·simp only [PV.Rep, wrap_u8, ofInt_u8]; congr 1; exact mod_u8 _
 ·simp only [PV.Rep, wrap_u8, ofInt_u8]; congr 1; exact mod_u8 _
 ·simp only [PV.Rep]; congr 1
  rw [Bool.eq_iff_iff]; simp only [beq_iff_eq, decide_eq_true_eq, Int.natCast_inj, <- UInt8.toNat_inj]
 ·simp only [PV.Rep]; congr 1
  rw [Bool.eq_iff_iff]; simp only [bne_iff_ne, ne_eq, Bool.not_eq_true', decide_eq_false_iff_not, Int.natCast_inj, <- UInt8.toNat_inj]
 ·simp only [PV.Rep]; congr 1
  rw [Bool.eq_iff_iff]; simp only [decide_eq_true_eq, Int.ofNat_lt, UInt8.lt_iff_toNat_lt]
 ·simp only [PV.Rep]; congr 1
  rw [Bool.eq_iff_iff]; simp only [decide_eq_true_eq, Int.ofNat_le, UInt8.le_iff_toNat_le]
 ·simp only [PV.Rep]; congr 1
  rw [Bool.eq_iff_iff]; simp only [decide_eq_true_eq, gt_iff_lt, Int.ofNat_lt, UInt8.lt_iff_toNat_lt]
 ·simp only [PV.Rep]; congr 1
  rw [Bool.eq_iff_iff]; simp only [decide_eq_true_eq, ge_iff_le, Int.ofNat_le, UInt8.le_iff_toNat_le]
def u8Shl (a : UInt8) (n : Nat) : UInt8 := UInt8.ofNat (a.toNat * 2 ^ n)
def u8Shr (a : UInt8) (n : Nat) : UInt8 := UInt8.ofNat (a.toNat / 2 ^ n)
theorem wrap_u32 (n : Int) : IntKind.u32.wrap n = n % 4294967296 := by
 simp [IntKind.wrap, IntKind.bits, IntKind.signed]
theorem ofInt_u32 (a : UInt32) : BitVec.ofInt IntKind.u32.bits (a.toNat : Int) = a.toBitVec := by
 simp [IntKind.bits, BitVec.ofInt_natCast]
theorem lt_u32 (a : UInt32) : (a.toNat : Int) < 4294967296 := by have := a.toNat_lt; omega
theorem mod_u32 (a : UInt32) : (a.toNat : Int) % 4294967296 = a.toNat := Int.emod_eq_of_lt (by omega) (lt_u32 a)
def u32Bin (op : BinOp) (a b : UInt32) : Option PV :=
 match op with
 | .add => some (.u32 (a + b))
 | .sub => some (.u32 (a - b))
 | .mul => some (.u32 (a * b))
 | .and => some (.u32 (a &&& b))
 | .or => some (.u32 (a ||| b))
 | .xor => some (.u32 (a ^^^ b))
 | .andNot => some (.u32 (a &&& ~~~ b))
 | .eql => some (.v (.bool (decide (a = b))))
 | .neq => some (.v (.bool (!decide (a = b))))
 | .lss => some (.v (.bool (decide (a < b))))
 | .leq => some (.v (.bool (decide (a <= b))))
 | .gtr => some (.v (.bool (decide (b < a))))
 | .geq => some (.v (.bool (decide (b <= a))))
 | _ => none
theorem u32Bin_run {P : Program} (T : TypeId) {op : BinOp} {a b : UInt32} {r : PV} (h : u32Bin op a b = some r) (U : Addr -> Prop) (w : World) :
  ∃ u, (binOp op T (.int .u32 (a.toNat : Int)) (.int .u32 (b.toNat : Int))).run P w = .ok u w /\ r.Rep U w u := by
 have ha := a.toNat_lt
 have hb := b.toNat_lt
 cases op <;> simp only [u32Bin, Option.some.injEq, reduceCtorEq] at h <;> subst h <;> refine ⟨_, rfl, ?_⟩
 ·simp only [PV.Rep, wrap_u32, UInt32.toNat_add]; congr 1
 ·simp only [PV.Rep, wrap_u32, UInt32.toNat_sub]; congr 1; omega
 ·simp only [PV.Rep, wrap_u32, UInt32.toNat_mul]; congr 1
 ·simp only [PV.Rep, wrap_u32, ofInt_u32]; congr 1; exact mod_u32 _
 ·simp only [PV.Rep, wrap_u32, ofInt_u32]; congr 1; exact mod_u32 _
 ·simp only [PV.Rep, wrap_u32, ofInt_u32]; congr 1; exact mod_u32 _
 ·simp only [PV.Rep, wrap_u32, ofInt_u32]; congr 1; exact mod_u32 _
 ·simp only [PV.Rep]; congr 1
  rw [Bool.eq_iff_iff]; simp only [beq_iff_eq, decide_eq_true_eq, Int.natCast_inj, <- UInt32.toNat_inj]
 ·simp only [PV.Rep]; congr 1
  rw [Bool.eq_iff_iff]; simp only [bne_iff_ne, ne_eq, Bool.not_eq_true', decide_eq_false_iff_not, Int.natCast_inj, <- UInt32.toNat_inj]
 ·simp only [PV.Rep]; congr 1
  rw [Bool.eq_iff_iff]; simp only [decide_eq_true_eq, Int.ofNat_lt, UInt32.lt_iff_toNat_lt]
 ·simp only [PV.Rep]; congr 1
  rw [Bool.eq_iff_iff]; simp only [decide_eq_true_eq, Int.ofNat_le, UInt32.le_iff_toNat_le]
 ·simp only [PV.Rep]; congr 1
  rw [Bool.eq_iff_iff]; simp only [decide_eq_true_eq, gt_iff_lt, Int.ofNat_lt, UInt32.lt_iff_toNat_lt]
 ·simp only [PV.Rep]; congr 1
  rw [Bool.eq_iff_iff]; simp only [decide_eq_true_eq, ge_iff_le, Int.ofNat_le, UInt32.le_iff_toNat_le]
def u32Shl (a : UInt32) (n : Nat) : UInt32 := UInt32.ofNat (a.toNat * 2 ^ n)
def u32Shr (a : UInt32) (n : Nat) : UInt32 := UInt32.ofNat (a.toNat / 2 ^ n)
theorem wrap_u64 (n : Int) : IntKind.u64.wrap n = n % 18446744073709551616 := by
 simp [IntKind.wrap, IntKind.bits, IntKind.signed]
theorem ofInt_u64 (a : UInt64) : BitVec.ofInt IntKind.u64.bits (a.toNat : Int) = a.toBitVec := by
 simp [IntKind.bits, BitVec.ofInt_natCast]
theorem lt_u64 (a : UInt64) : (a.toNat : Int) < 18446744073709551616 := by have := a.toNat_lt; omega
theorem mod_u64 (a : UInt64) : (a.toNat : Int) % 18446744073709551616 = a.toNat := Int.emod_eq_of_lt (by omega) (lt_u64 a)
def u64Bin (op : BinOp) (a b : UInt64) : Option PV :=
 match op with
 | .add => some (.u64 (a + b))
 | .sub => some (.u64 (a - b))
 | .mul => some (.u64 (a * b))
 | .and => some (.u64 (a &&& b))
 | .or => some (.u64 (a ||| b))
 | .xor => some (.u64 (a ^^^ b))
 | .andNot => some (.u64 (a &&& ~~~ b))
 | .eql => some (.v (.bool (decide (a = b))))
 | .neq => some (.v (.bool (!decide (a = b))))
 | .lss => some (.v (.bool (decide (a < b))))
 | .leq => some (.v (.bool (decide (a <= b))))
 | .gtr => some (.v (.bool (decide (b < a))))
 | .geq => some (.v (.bool (decide (b <= a))))
 | _ => none
theorem u64Bin_run {P : Program} (T : TypeId) {op : BinOp} {a b : UInt64} {r : PV} (h : u64Bin op a b = some r) (U : Addr -> Prop) (w : World) :
  ∃ u, (binOp op T (.int .u64 (a.toNat : Int)) (.int .u64 (b.toNat : Int))).run P w = .ok u w /\ r.Rep U w u := by
 have ha := a.toNat_lt
 have hb := b.toNat_lt
 cases op <;> simp only [u64Bin, Option.some.injEq, reduceCtorEq] at h <;> subst h <;> refine ⟨_, rfl, ?_⟩
 ·simp only [PV.Rep, wrap_u64, UInt64.toNat_add]; congr 1
 ·simp only [PV.Rep, wrap_u64, UInt64.toNat_sub]; congr 1; omega
 ·simp only [PV.Rep, wrap_u64, UInt64.toNat_mul]; congr 1
 ·simp only [PV.Rep, wrap_u64, ofInt_u64]; congr 1; exact mod_u64 _
 ·simp only [PV.Rep, wrap_u64, ofInt_u64]; congr 1; exact mod_u64 _
 ·simp only [PV.Rep, wrap_u64, ofInt_u64]; congr 1; exact mod_u64 _
 ·simp only [PV.Rep, wrap_u64, ofInt_u64]; congr 1; exact mod_u64 _
 ·simp only [PV.Rep]; congr 1
  rw [Bool.eq_iff_iff]; simp only [beq_iff_eq, decide_eq_true_eq, Int.natCast_inj, <- UInt64.toNat_inj]
 ·simp only [PV.Rep]; congr 1
  rw [Bool.eq_iff_iff]; simp only [bne_iff_ne, ne_eq, Bool.not_eq_true', decide_eq_false_iff_not, Int.natCast_inj, <- UInt64.toNat_inj]
 ·simp only [PV.Rep]; congr 1
  rw [Bool.eq_iff_iff]; simp only [decide_eq_true_eq, Int.ofNat_lt, UInt64.lt_iff_toNat_lt]
 ·simp only [PV.Rep]; congr 1
  rw [Bool.eq_iff_iff]; simp only [decide_eq_true_eq, Int.ofNat_le, UInt64.le_iff_toNat_le]
 ·simp only [PV.Rep]; congr 1
  rw [Bool.eq_iff_iff]; simp only [decide_eq_true_eq, gt_iff_lt, Int.ofNat_lt, UInt64.lt_iff_toNat_lt]
 ·simp only [PV.Rep]; congr 1
  rw [Bool.eq_iff_iff]; simp only [decide_eq_true_eq, ge_iff_le, Int.ofNat_le, UInt64.le_iff_toNat_le]
def u64Shl (a : UInt64) (n : Nat) : UInt64 := UInt64.ofNat (a.toNat * 2 ^ n)
def u64Shr (a : UInt64) (n : Nat) : UInt64 := UInt64.ofNat (a.toNat / 2 ^ n)
theorem toList_loop (b : ByteArray) : ∀ (k i : Nat) (r : List UInt8), b.size - i = k -> ByteArray.toList.loop b i r = r.reverse ++ b.data.toList.drop i := by
 intro k
 induction k with
 | zero =>
  intro i r h
  rw [ByteArray.toList.loop]
  have hs : b.data.toList.length = b.size := by rw [Array.length_toList]; rfl
  rw [if_neg (by omega), List.drop_of_length_le (by omega), List.append_nil]
 | succ k ih =>
  intro i r h
  rw [ByteArray.toList.loop]
  have hs : b.data.toList.length = b.size := by rw [Array.length_toList]; rfl
  rw [if_pos (by omega), ih _ _ (by omega), List.reverse_cons, List.append_assoc]
  congr 1
  rw [List.drop_eq_getElem_cons (i := i) (by omega)]
  simp only [List.singleton_append, List.cons.injEq, and_true]
  have hi : i < b.data.size := by have : b.data.size = b.size := rfl; omega
  show b.data[i]! = _
  rw [getElem!_pos b.data i hi, Array.getElem_toList]
theorem toList_mk (l : List UInt8) : (ByteArray.mk l.toArray).toList = l := by
 unfold ByteArray.toList
 rw [toList_loop _ _ 0 [] rfl]
 simp
def iShl (k : IntKind) (a : Int) (n : Nat) : Int := k.wrap (a * 2 ^ (min n k.bits))
def iShr (k : IntKind) (a : Int) (n : Nat) : Int := a / 2 ^ (min n k.bits)
def iAnd (k : IntKind) (a b : Int) : Int := k.wrap (BitVec.ofInt k.bits a &&& BitVec.ofInt k.bits b).toNat
def iOr (k : IntKind) (a b : Int) : Int := k.wrap (BitVec.ofInt k.bits a ||| BitVec.ofInt k.bits b).toNat
def iXor (k : IntKind) (a b : Int) : Int := k.wrap (BitVec.ofInt k.bits a ^^^ BitVec.ofInt k.bits b).toNat
def iAndNot (k : IntKind) (a b : Int) : Int := k.wrap (BitVec.ofInt k.bits a &&& ~~~ BitVec.ofInt k.bits b).toNat
def intBin (op : BinOp) (k : IntKind) (a b : Int) : Option (Prop × PV) :=
 match op with
 | .add => some (True, .v (.int k (k.wrap (a + b))))
 | .sub => some (True, .v (.int k (k.wrap (a - b))))
 | .mul => some (True, .v (.int k (k.wrap (a * b))))
 | .quo => some (b ≠ 0, .v (.int k (k.wrap (a.tdiv b))))
 | .rem => some (b ≠ 0, .v (.int k (a.tmod b)))
 | .and => some (True, .v (.int k (iAnd k a b)))
 | .or => some (True, .v (.int k (iOr k a b)))
 | .xor => some (True, .v (.int k (iXor k a b)))
 | .andNot => some (True, .v (.int k (iAndNot k a b)))
 | .eql => some (True, .v (.bool (decide (a = b))))
 | .neq => some (True, .v (.bool (!decide (a = b))))
 | .lss => some (True, .v (.bool (decide (a < b))))
 | .leq => some (True, .v (.bool (decide (a <= b))))
 | .gtr => some (True, .v (.bool (decide (b < a))))
 | .geq => some (True, .v (.bool (decide (b <= a))))
 | _ => none
theorem intBin_run {P : Program} (T : TypeId) {op : BinOp} {k : IntKind} {a b : Int} {vc : Prop} {r : PV} (h : intBin op k a b = some (vc, r)) (hvc : vc) (U : Addr -> Prop) (w : World) :
  ∃ u, (binOp op T (.int k a) (.int k b)).run P w = .ok u w /\ r.Rep U w u := by
 cases op <;> simp only [intBin, Option.some.injEq, Prod.mk.injEq, reduceCtorEq] at h <;> obtain ⟨rfl, rfl⟩ := h
 case neq =>
  refine ⟨.bool (a != b), by simp [binOp, Op.intCmp], ?_⟩
  simp only [PV.Rep]; congr 1
 case quo =>
  refine ⟨_, by simp only [binOp, ne_eq, not_true_eq_false, if_false, Op.intDiv, Sem.run_ite]; rw [if_neg hvc]; rfl, rfl⟩
 case rem =>
  refine ⟨_, by simp only [binOp, ne_eq, not_true_eq_false, if_false, Op.intDiv, Sem.run_ite]; rw [if_neg hvc]; rfl, rfl⟩
 all_goals
  refine ⟨_, by simp only [binOp, ne_eq, not_true_eq_false, if_false]; rfl, ?_⟩
  rfl
def shP (op : BinOp) (x : PV) (n : Int) : Option PV :=
 match op, x with
 | .shl, .u8 a => some (.u8 (u8Shl a n.toNat))
 | .shl, .u32 a => some (.u32 (u32Shl a n.toNat))
 | .shl, .u64 a => some (.u64 (u64Shl a n.toNat))
 | .shl, .v (.int k a) => some (.v (.int k (iShl k a n.toNat)))
 | .shr, .u8 a => some (.u8 (u8Shr a n.toNat))
 | .shr, .u32 a => some (.u32 (u32Shr a n.toNat))
 | .shr, .u64 a => some (.u64 (u64Shr a n.toNat))
 | .shr, .v (.int k a) => some (.v (.int k (iShr k a n.toNat)))
 | _, _ => none
theorem two_pow_min {b n : Nat} (h : b < n) : (2 : Nat) ^ n = 2 ^ b * 2 ^ (n - b) := by rw [<- Nat.pow_add]; congr 1; omega
theorem shl_mod (a n b : Nat) : (a * 2 ^ (min n b)) % 2 ^ b = (a * 2 ^ n) % 2 ^ b := by
 rcases Nat.lt_or_ge b n with h | h
 ·rw [Nat.min_eq_right (Nat.le_of_lt h), two_pow_min h, <- Nat.mul_assoc, Nat.mul_comm a (2 ^ b), Nat.mul_assoc, Nat.mul_mod_right, Nat.mul_mod_right]
 ·rw [Nat.min_eq_left h]
theorem shr_min (a n b : Nat) (h : a < 2 ^ b) : a / 2 ^ (min n b) = a / 2 ^ n := by
 rcases Nat.lt_or_ge b n with h' | h'
 ·rw [Nat.min_eq_right (Nat.le_of_lt h'), Nat.div_eq_of_lt h, Nat.div_eq_of_lt]
  exact Nat.lt_of_lt_of_le h (Nat.pow_le_pow_right (by omega) (Nat.le_of_lt h'))
 ·rw [Nat.min_eq_left h']
theorem shl_cast (a n b : Nat) : ((a : Int) * 2 ^ (min n b)) % ((2 ^ b : Nat) : Int) = (((a * 2 ^ n) % 2 ^ b : Nat) : Int) := by
 rw [<- shl_mod, Int.natCast_emod, Int.natCast_mul, Int.natCast_pow]; rfl
theorem shr_cast (a n b : Nat) (h : a < 2 ^ b) : (a : Int) / 2 ^ (min n b) = ((a / 2 ^ n : Nat) : Int) := by
 rw [<- shr_min a n b h, Int.natCast_ediv, Int.natCast_pow]; rfl
theorem run_shift_shl (P : Program) (w : World) (k yk : IntKind) (a n : Int) (h : 0 <= n) (T : TypeId) :
  (binOp .shl T (.int k a) (.int yk n)).run P w = .ok (.int k (k.wrap (a * 2 ^ (min n.toNat k.bits)))) w := by
 simp only [binOp, Op.shift, Sem.run_ite]
 rw [if_neg (by omega)]; rfl
theorem run_shift_shr (P : Program) (w : World) (k yk : IntKind) (a n : Int) (h : 0 <= n) (T : TypeId) :
  (binOp .shr T (.int k a) (.int yk n)).run P w = .ok (.int k (a / 2 ^ (min n.toNat k.bits))) w := by
 simp only [binOp, Op.shift, Sem.run_ite]
 rw [if_neg (by omega)]
 rw [<- Int.fdiv_eq_ediv_of_nonneg _ (Int.pow_nonneg (by omega))]; rfl
theorem shP_run {P : Program} (T : TypeId) {op : BinOp} {x : PV} {n : Int} {r : PV} (h : shP op x n = some r) (hn : 0 <= n) {yk : IntKind} {U : Addr -> Prop} {w : World} {u : Value} (hx : x.Rep U w u) :
  ∃ v, (binOp op T u (.int yk n)).run P w = .ok v w /\ r.Rep U w v := by
 unfold shP at h
 split at h <;> cases h
 ·obtain rfl := (show u = _ from hx)
  refine ⟨_, run_shift_shl P w _ yk _ n hn T, ?_⟩
  simp only [PV.Rep, u8Shl, wrap_u8, UInt8.toNat_ofNat']
  congr 1
  exact shl_cast _ n.toNat 8
 ·obtain rfl := (show u = _ from hx)
  refine ⟨_, run_shift_shl P w _ yk _ n hn T, ?_⟩
  simp only [PV.Rep, u32Shl, wrap_u32, UInt32.toNat_ofNat']
  congr 1
  exact shl_cast _ n.toNat 32
 ·obtain rfl := (show u = _ from hx)
  refine ⟨_, run_shift_shl P w _ yk _ n hn T, ?_⟩
  simp only [PV.Rep, u64Shl, wrap_u64, UInt64.toNat_ofNat']
  congr 1
  exact shl_cast _ n.toNat 64
 ·obtain rfl := (show u = _ from hx)
  exact ⟨_, run_shift_shl P w _ yk _ n hn T, rfl⟩
 ·obtain rfl := (show u = _ from hx)
  rename_i a
  refine ⟨_, run_shift_shr P w _ yk _ n hn T, ?_⟩
  have h1 := a.toNat_lt
  have h2 : a.toNat / 2 ^ n.toNat < 2 ^ 8 := Nat.lt_of_le_of_lt (Nat.div_le_self _ _) h1
  simp only [PV.Rep, u8Shr, UInt8.toNat_ofNat']
  congr 1
  rw [Nat.mod_eq_of_lt h2]
  exact shr_cast _ n.toNat 8 h1
 ·obtain rfl := (show u = _ from hx)
  rename_i a
  refine ⟨_, run_shift_shr P w _ yk _ n hn T, ?_⟩
  have h1 := a.toNat_lt
  have h2 : a.toNat / 2 ^ n.toNat < 2 ^ 32 := Nat.lt_of_le_of_lt (Nat.div_le_self _ _) h1
  simp only [PV.Rep, u32Shr, UInt32.toNat_ofNat']
  congr 1
  rw [Nat.mod_eq_of_lt h2]
  exact shr_cast _ n.toNat 32 h1
 ·obtain rfl := (show u = _ from hx)
  rename_i a
  refine ⟨_, run_shift_shr P w _ yk _ n hn T, ?_⟩
  have h1 := a.toNat_lt
  have h2 : a.toNat / 2 ^ n.toNat < 2 ^ 64 := Nat.lt_of_le_of_lt (Nat.div_le_self _ _) h1
  simp only [PV.Rep, u64Shr, UInt64.toNat_ofNat']
  congr 1
  rw [Nat.mod_eq_of_lt h2]
  exact shr_cast _ n.toNat 64 h1
 ·obtain rfl := (show u = _ from hx)
  exact ⟨_, run_shift_shr P w _ yk _ n hn T, rfl⟩
def strBin (op : BinOp) (a b : List UInt8) : Option (Prop × PV) :=
 match op with
 | .add => some (a.length + b.length <= maxLen, .str (a ++ b))
 | .eql => some (True, .v (.bool (decide (a = b))))
 | .neq => some (True, .v (.bool (!decide (a = b))))
 | _ => none
theorem beq_list (a b : List UInt8) : (a == b) = decide (a = b) := by rw [Bool.eq_iff_iff]; simp
theorem strBin_run {P : Program} (T : TypeId) {op : BinOp} {a b : List UInt8} {vc : Prop} {r : PV} (h : strBin op a b = some (vc, r)) (hvc : vc) (U : Addr -> Prop) (w : World) :
  ∃ u, (binOp op T (.string ⟨a.toArray⟩) (.string ⟨b.toArray⟩)).run P w = .ok u w /\ r.Rep U w u := by
 cases op <;> simp only [strBin, Option.some.injEq, Prod.mk.injEq, reduceCtorEq] at h <;> obtain ⟨rfl, rfl⟩ := h
 ·refine ⟨.string (⟨a.toArray⟩ ++ ⟨b.toArray⟩), ?_, ?_⟩
  ·simp only [binOp, Op.stringOp, Sem.run_ite]
   simp only [maxLen] at hvc
   have e : IntKind.i64.max = 9223372036854775807 := rfl
   rw [if_neg (by rw [e]; simp only [ByteArray.size, List.size_toArray]; omega)]
   rfl
  ·simp only [PV.Rep]
   congr 1
 ·refine ⟨_, rfl, ?_⟩
  simp only [PV.Rep, toList_mk, beq_list]
 ·refine ⟨_, rfl, ?_⟩
  simp only [PV.Rep, toList_mk, beq_list]
def u8B (op : BinOp) (a b : UInt8) : Option (Prop × PV) :=
 match op with
 | .quo => some (b ≠ 0, .u8 (a / b))
 | .rem => some (b ≠ 0, .u8 (a % b))
 | op => (u8Bin op a b).map fun r => (True, r)
theorem u8B_run {P : Program} (T : TypeId) {op : BinOp} {a b : UInt8} {vc : Prop} {r : PV} (h : u8B op a b = some (vc, r)) (hvc : vc) (U : Addr -> Prop) (w : World) :
  ∃ u, (binOp op T (.int .u8 (a.toNat : Int)) (.int .u8 (b.toNat : Int))).run P w = .ok u w /\ r.Rep U w u := by
 have hn : b ≠ 0 -> (b.toNat : Int) ≠ 0 := fun h e => h (UInt8.toNat_inj.1 (by simpa using e))
 have hel : ∀ op', (u8Bin op' a b).map (fun r => ((True : Prop), r)) = some (vc, r) -> ∃ u, (binOp op' T (.int .u8 (a.toNat : Int)) (.int .u8 (b.toNat : Int))).run P w = .ok u w /\ r.Rep U w u := by
  clear h
  intro op' h
  obtain ⟨r', h1, h2⟩ := Option.map_eq_some_iff.1 h
  cases h2
  exact u8Bin_run T h1 U w
 cases op
 case quo =>
  simp only [u8B, Option.some.injEq, Prod.mk.injEq] at h
  obtain ⟨rfl, rfl⟩ := h
  refine ⟨_, by simp only [binOp, ne_eq, not_true_eq_false, if_false, Op.intDiv, Sem.run_ite]; rw [if_neg (hn hvc)]; rfl, ?_⟩
  have e : ((a / b).toNat : Int) = (a.toNat : Int).tdiv (b.toNat : Int) := by rw [UInt8.toNat_div, Int.ofNat_tdiv]
  simp only [PV.Rep, wrap_u8]
  congr 1
  rw [<- e]
  exact mod_u8 _
 case rem =>
  simp only [u8B, Option.some.injEq, Prod.mk.injEq] at h
  obtain ⟨rfl, rfl⟩ := h
  refine ⟨_, by simp only [binOp, ne_eq, not_true_eq_false, if_false, Op.intDiv, Sem.run_ite]; rw [if_neg (hn hvc)]; rfl, ?_⟩
  simp only [PV.Rep]
  congr 1
 all_goals exact hel _ h
def u32B (op : BinOp) (a b : UInt32) : Option (Prop × PV) :=
 match op with
 | .quo => some (b ≠ 0, .u32 (a / b))
 | .rem => some (b ≠ 0, .u32 (a % b))
 | op => (u32Bin op a b).map fun r => (True, r)
theorem u32B_run {P : Program} (T : TypeId) {op : BinOp} {a b : UInt32} {vc : Prop} {r : PV} (h : u32B op a b = some (vc, r)) (hvc : vc) (U : Addr -> Prop) (w : World) :
  ∃ u, (binOp op T (.int .u32 (a.toNat : Int)) (.int .u32 (b.toNat : Int))).run P w = .ok u w /\ r.Rep U w u := by
 have hn : b ≠ 0 -> (b.toNat : Int) ≠ 0 := fun h e => h (UInt32.toNat_inj.1 (by simpa using e))
 have hel : ∀ op', (u32Bin op' a b).map (fun r => ((True : Prop), r)) = some (vc, r) -> ∃ u, (binOp op' T (.int .u32 (a.toNat : Int)) (.int .u32 (b.toNat : Int))).run P w = .ok u w /\ r.Rep U w u := by
  clear h
  intro op' h
  obtain ⟨r', h1, h2⟩ := Option.map_eq_some_iff.1 h
  cases h2
  exact u32Bin_run T h1 U w
 cases op
 case quo =>
  simp only [u32B, Option.some.injEq, Prod.mk.injEq] at h
  obtain ⟨rfl, rfl⟩ := h
  refine ⟨_, by simp only [binOp, ne_eq, not_true_eq_false, if_false, Op.intDiv, Sem.run_ite]; rw [if_neg (hn hvc)]; rfl, ?_⟩
  have e : ((a / b).toNat : Int) = (a.toNat : Int).tdiv (b.toNat : Int) := by rw [UInt32.toNat_div, Int.ofNat_tdiv]
  simp only [PV.Rep, wrap_u32]
  congr 1
  rw [<- e]
  exact mod_u32 _
 case rem =>
  simp only [u32B, Option.some.injEq, Prod.mk.injEq] at h
  obtain ⟨rfl, rfl⟩ := h
  refine ⟨_, by simp only [binOp, ne_eq, not_true_eq_false, if_false, Op.intDiv, Sem.run_ite]; rw [if_neg (hn hvc)]; rfl, ?_⟩
  simp only [PV.Rep]
  congr 1
 all_goals exact hel _ h
def u64B (op : BinOp) (a b : UInt64) : Option (Prop × PV) :=
 match op with
 | .quo => some (b ≠ 0, .u64 (a / b))
 | .rem => some (b ≠ 0, .u64 (a % b))
 | op => (u64Bin op a b).map fun r => (True, r)
theorem u64B_run {P : Program} (T : TypeId) {op : BinOp} {a b : UInt64} {vc : Prop} {r : PV} (h : u64B op a b = some (vc, r)) (hvc : vc) (U : Addr -> Prop) (w : World) :
  ∃ u, (binOp op T (.int .u64 (a.toNat : Int)) (.int .u64 (b.toNat : Int))).run P w = .ok u w /\ r.Rep U w u := by
 have hn : b ≠ 0 -> (b.toNat : Int) ≠ 0 := fun h e => h (UInt64.toNat_inj.1 (by simpa using e))
 have hel : ∀ op', (u64Bin op' a b).map (fun r => ((True : Prop), r)) = some (vc, r) -> ∃ u, (binOp op' T (.int .u64 (a.toNat : Int)) (.int .u64 (b.toNat : Int))).run P w = .ok u w /\ r.Rep U w u := by
  clear h
  intro op' h
  obtain ⟨r', h1, h2⟩ := Option.map_eq_some_iff.1 h
  cases h2
  exact u64Bin_run T h1 U w
 cases op
 case quo =>
  simp only [u64B, Option.some.injEq, Prod.mk.injEq] at h
  obtain ⟨rfl, rfl⟩ := h
  refine ⟨_, by simp only [binOp, ne_eq, not_true_eq_false, if_false, Op.intDiv, Sem.run_ite]; rw [if_neg (hn hvc)]; rfl, ?_⟩
  have e : ((a / b).toNat : Int) = (a.toNat : Int).tdiv (b.toNat : Int) := by rw [UInt64.toNat_div, Int.ofNat_tdiv]
  simp only [PV.Rep, wrap_u64]
  congr 1
  rw [<- e]
  exact mod_u64 _
 case rem =>
  simp only [u64B, Option.some.injEq, Prod.mk.injEq] at h
  obtain ⟨rfl, rfl⟩ := h
  refine ⟨_, by simp only [binOp, ne_eq, not_true_eq_false, if_false, Op.intDiv, Sem.run_ite]; rw [if_neg (hn hvc)]; rfl, ?_⟩
  simp only [PV.Rep]
  congr 1
 all_goals exact hel _ h
def fltCmp (op : BinOp) (c : Option Ordering) : Option Bool :=
 match op with
 | .eql => some (c == some .eq)
 | .neq => some (c != some .eq)
 | .lss => some (c == some .lt)
 | .leq => some (c == some .lt || c == some .eq)
 | .gtr => some (c == some .gt)
 | .geq => some (c == some .gt || c == some .eq)
 | _ => none
def fltBin (op : BinOp) (k : FloatKind) (a b : Nat) : Option (Prop × PV) :=
 match op with
 | .add => (k.format.add a b).map fun r => (True, .v (.float k r))
 | .sub => (k.format.sub a b).map fun r => (True, .v (.float k r))
 | .mul => (k.format.mul a b).map fun r => (True, .v (.float k r))
 | op => (fltCmp op (k.format.order a b)).map fun r => (True, .v (.bool r))
def cpxBin (op : BinOp) (k : FloatKind) (a b c d : Nat) : Option (Prop × PV) :=
 match op with
 | .add => match k.format.add a c, k.format.add b d with
  | some x, some y => some (True, .v (.complex k x y))
  | _, _ => none
 | .sub => match k.format.sub a c, k.format.sub b d with
  | some x, some y => some (True, .v (.complex k x y))
  | _, _ => none
 | .eql => some (True, .v (.bool ((k.format.order a c == some .eq) && (k.format.order b d == some .eq))))
 | .neq => some (True, .v (.bool !((k.format.order a c == some .eq) && (k.format.order b d == some .eq))))
 | _ => none
theorem fltBin_run {P : Program} (T : TypeId) {op : BinOp} {k : FloatKind} {a b : Nat} {vc : Prop} {r : PV} (h : fltBin op k a b = some (vc, r)) (U : Addr -> Prop) (w : World) :
  ∃ u, (binOp op T (.float k a) (.float k b)).run P w = .ok u w /\ r.Rep U w u := by
 cases op <;> simp only [fltBin, fltCmp, Option.map_some, Option.map_none, Option.some.injEq, Prod.mk.injEq, reduceCtorEq] at h
 case add => obtain ⟨x, h1, h2⟩ := Option.map_eq_some_iff.1 h; cases h2; exact ⟨_, by simp only [binOp, ne_eq, not_true_eq_false, if_false, Op.floatArith, h1]; rfl, rfl⟩
 case sub => obtain ⟨x, h1, h2⟩ := Option.map_eq_some_iff.1 h; cases h2; exact ⟨_, by simp only [binOp, ne_eq, not_true_eq_false, if_false, Op.floatArith, h1]; rfl, rfl⟩
 case mul => obtain ⟨x, h1, h2⟩ := Option.map_eq_some_iff.1 h; cases h2; exact ⟨_, by simp only [binOp, ne_eq, not_true_eq_false, if_false, Op.floatArith, h1]; rfl, rfl⟩
 all_goals
  obtain ⟨_, rfl⟩ := h
  exact ⟨_, by simp only [binOp, ne_eq, not_true_eq_false, if_false, Op.floatCmp]; rfl, rfl⟩
theorem cpxBin_run {P : Program} (T : TypeId) {op : BinOp} {k : FloatKind} {a b c d : Nat} {vc : Prop} {r : PV} (h : cpxBin op k a b c d = some (vc, r)) (U : Addr -> Prop) (w : World) :
  ∃ u, (binOp op T (.complex k a b) (.complex k c d)).run P w = .ok u w /\ r.Rep U w u := by
 cases op <;> simp only [cpxBin, Option.some.injEq, Prod.mk.injEq, reduceCtorEq] at h
 case add =>
  split at h
  ·rename_i x y h1 h2
   cases h
   exact ⟨_, by simp [binOp, Op.complexOp, Op.Complex.arith, Op.floatArith, h1, h2], rfl⟩
  ·cases h
 case sub =>
  split at h
  ·rename_i x y h1 h2
   cases h
   exact ⟨_, by simp [binOp, Op.complexOp, Op.Complex.arith, Op.floatArith, h1, h2], rfl⟩
  ·cases h
 case eql => obtain ⟨_, rfl⟩ := h; exact ⟨_, by simp [binOp, Op.complexOp, Op.Complex.cmp, Op.floatCmp, asBool], rfl⟩
 case neq => obtain ⟨_, rfl⟩ := h; exact ⟨_, by simp [binOp, Op.complexOp, Op.Complex.cmp, Op.floatCmp, asBool], rfl⟩
def binP (op : BinOp) (x y : PV) : Option (Prop × PV) :=
 match op with
 | .shl => match y.toI with
  | some n => (shP .shl x n).map fun r => (0 <= n, r)
  | none => none
 | .shr => match y.toI with
  | some n => (shP .shr x n).map fun r => (0 <= n, r)
  | none => none
 | op => match x, y with
  | .u8 a, .u8 b => u8B op a b
  | .u32 a, .u32 b => u32B op a b
  | .u64 a, .u64 b => u64B op a b
  | .v (.int k a), .v (.int k' b) => if k = k' then intBin op k a b else none
  | .str a, .str b => strBin op a b
  | .v (.float k a), .v (.float k' b) => if k = k' then fltBin op k a b else none
  | .v (.complex k a b), .v (.complex k' c d) => if k = k' then cpxBin op k a b c d else none
  | _, _ => none
theorem binP_run {P : Program} (T : TypeId) {op : BinOp} {x y : PV} {vc : Prop} {r : PV} (h : binP op x y = some (vc, r)) (hvc : vc) {U : Addr -> Prop} {w : World} {u v : Value} (hx : x.Rep U w u) (hy : y.Rep U w v) :
  ∃ z, (binOp op T u v).run P w = .ok z w /\ r.Rep U w z := by
 have hsh : ∀ op', (match y.toI with | some n => (shP op' x n).map fun r => ((0 <= n : Prop), r) | none => none) = some (vc, r) -> ∃ z, (binOp op' T u v).run P w = .ok z w /\ r.Rep U w z := by
  intro op' h
  cases hn : y.toI with
  | none => simp [hn] at h
  | some n =>
   simp only [hn] at h
   obtain ⟨r', h1, h2⟩ := Option.map_eq_some_iff.1 h
   cases h2
   obtain ⟨yk, rfl⟩ := PV.toI_rep hn hy
   exact shP_run T h1 hvc hx
 have hel : ∀ op', (match x, y with
  | .u8 a, .u8 b => u8B op' a b
  | .u32 a, .u32 b => u32B op' a b
  | .u64 a, .u64 b => u64B op' a b
  | .v (.int k a), .v (.int k' b) => if k = k' then intBin op' k a b else none
  | .str a, .str b => strBin op' a b
  | .v (.float k a), .v (.float k' b) => if k = k' then fltBin op' k a b else none
  | .v (.complex k a b), .v (.complex k' c d) => if k = k' then cpxBin op' k a b c d else none
  | _, _ => none) = some (vc, r) -> ∃ z, (binOp op' T u v).run P w = .ok z w /\ r.Rep U w z := by
  clear h hsh
  intro op' h
  split at h
  ·have e1 : u = _ := hx
   have e2 : v = _ := hy
   subst e1; subst e2
   exact u8B_run T h hvc U w
  ·have e1 : u = _ := hx
   have e2 : v = _ := hy
   subst e1; subst e2
   exact u32B_run T h hvc U w
  ·have e1 : u = _ := hx
   have e2 : v = _ := hy
   subst e1; subst e2
   exact u64B_run T h hvc U w
  ·split at h
   ·rename_i hk
    subst hk
    have e1 : u = _ := hx
    have e2 : v = _ := hy
    subst e1; subst e2
    exact intBin_run T h hvc U w
   ·cases h
  ·have e1 : u = _ := hx
   have e2 : v = _ := hy
   subst e1; subst e2
   exact strBin_run T h hvc U w
  ·split at h
   ·rename_i hk
    subst hk
    have e1 : u = _ := hx
    have e2 : v = _ := hy
    subst e1; subst e2
    exact fltBin_run T h U w
   ·cases h
  ·split at h
   ·rename_i hk
    subst hk
    have e1 : u = _ := hx
    have e2 : v = _ := hy
    subst e1; subst e2
    exact cpxBin_run T h U w
   ·cases h
  ·cases h
 cases op <;> first | exact hsh _ h | exact hel _ h
abbrev Fr := List (Nat × BV)
def Fr.get : Fr -> Nat -> BV
 | [], _ => .dead
 | (d, x) :: r, k => if d = k then x else Fr.get r k
def Fr.kill (t : Nat) : Fr -> Fr
 | [] => []
 | (d, x) :: r => (d, x.kill t) :: Fr.kill t r
theorem Fr.get_kill (t : Nat) (fr : Fr) (d : Nat) : Fr.get (Fr.kill t fr) d = (Fr.get fr d).kill t := by
 induction fr with
 | nil => rfl
 | cons p r ih => obtain ⟨k, x⟩ := p; by_cases h : k = d <;> simp [Fr.kill, Fr.get, h, ih]
def Fr.ev (C : Ctx) (fr : Fr) : Operand -> BV
 | .tmp t => Fr.get fr t
 | .const v => .p (cst v)
 | .global g => match C.gl g with
  | some (m, f) => .rp m (fun j => (f j).pv)
  | none => .dead
 | .func f => .clo f []
def TyOK (P : Program) (T : TypeId) (ty : Ty) : Prop :=
  (∃ i, P.info? T = some i /\ i.size = ty.size /\ i.bytes = ty.bytes /\ ∀ f, ty.zero = some f -> (∃ z, i.zero = some z /\ z.cells.toList = (List.range ty.size).map f) /\ ∀ j, j < ty.size -> (f j).oneCell' = true) /\
  (match ty.d with
   | .int k => P.underlying T = some (.int k)
   | .bool => P.underlying T = some .bool
   | .string => P.underlying T = some .string
   | .slice e => P.underlying T = some (.slice e)
   | .array n e => P.underlying T = some (.array n e)
   | .struct fs => ∃ gs : Array Field, P.underlying T = some (.struct gs) /\ gs.toList.map (fun f => (f.offset, f.type)) = fs
   | .pointer e => P.underlying T = some (.pointer e)
   | .func => ∃ a b c, P.underlying T = some (.func a b c)
   | .float k => P.underlying T = some (.float k)
   | .complex k => P.underlying T = some (.complex k))
def TyD.agg : TyD -> Bool
 | .array _ _ => true
 | .struct _ => true
 | _ => false
theorem TyOK.info {P : Program} {T : TypeId} {ty : Ty} (h : TyOK P T ty) : ∃ i, P.info? T = some i /\ i.size = ty.size /\ i.bytes = ty.bytes := let ⟨⟨i, h1, h2, h3, _⟩, _⟩ := h; ⟨i, h1, h2, h3⟩
theorem run_isAgg {P : Program} {T : TypeId} {ty : Ty} (h : TyOK P T ty) (w : World) : (isAgg T).run P w = .ok ty.d.agg w := by
 have h2 := h.2
 unfold isAgg
 rw [Sem.run_bind]
 revert h2
 cases ty.d <;> intro h2 <;> first
  | (rw [run_underlying h2]; rfl)
  | (obtain ⟨gs, h3, _⟩ := h2; rw [run_underlying h3]; rfl)
  | (obtain ⟨_, _, _, h3⟩ := h2; rw [run_underlying h3]; rfl)
theorem eq_loop {P : Program} {w : World} {step : Nat -> Sem Bool} {p : Nat -> Bool} : ∀ (l : List Nat), (∀ i, i ∈ l -> (step i).run P w = .ok (p i) w) ->
  (forIn (m := Sem) l ((none, ()) : Option Bool × PUnit) fun i _ => do
   if !(<- step i) then pure (ForInStep.done (some false, ())) else pure (ForInStep.yield (none, ()))).run P w = .ok (if l.all p then (none, ()) else (some false, ())) w
 | [], _ => by simp
 | a :: r, h => by
  have h1 := h a (by simp)
  have ih := eq_loop (P := P) (w := w) (step := step) (p := p) r (fun i hi => h i (by simp [hi]))
  rw [List.forIn_cons]
  simp only [Sem.run_bind, h1, Result.andThen_ok]
  cases hp : p a with
  | true => simp [hp]; simpa using ih
  | false => simp [hp]
theorem equal_arr {P : Program} {T e len : Nat} {k : IntKind} (d : Nat) (hT : P.underlying T = some (.array len e)) (he : P.underlying e = some (.int k)) {ty : Ty} (hty : TyOK P e ty) (hs : ty.size = 1) (hd : ty.d.agg = false) {xs ys : Array Value} {f g : Nat -> Int} {w : World}
  (hx : ∀ j, j < len -> xs[j]? = some (.int k (f j))) (hy : ∀ j, j < len -> ys[j]? = some (.int k (g j))) :
  (Op.equalIn (d + 2) T (.agg xs) (.agg ys)).run P w = .ok (decide (∀ j, j < len -> f j = g j)) w := by
 obtain ⟨inf, hi, his, _⟩ := hty.info
 have hpart : ∀ (cs : Array Value) (h : Nat -> Int), (∀ j, j < len -> cs[j]? = some (.int k (h j))) -> ∀ i, i < len -> (part e cs (i * 1)).run P w = .ok (.int k (h i)) w := by
  intro cs h hc i hi'
  simp [part, run_isAgg hty, hd, hc i hi']
 have hall : ((List.range' 0 len).all fun i => f i == g i) = decide (∀ j, j < len -> f j = g j) := by
  rw [Bool.eq_iff_iff]
  simp [List.all_eq_true, List.mem_range']
 have hl := eq_loop (P := P) (w := w) (step := fun i => do Op.equalIn (d + 1) e (<- part e xs (i * 1)) (<- part e ys (i * 1))) (p := fun i => f i == g i) (List.range' 0 len) (fun i hi => by
  have hi' : i < len := by simpa [List.mem_range'] using hi
  simp only [Sem.run_bind, hpart xs f hx i hi', hpart ys g hy i hi', Result.andThen_ok]
  exact run_equalIn_int w d e k k (f i) (g i) he)
 rw [hall] at hl
 rw [Op.equalIn]
 simp only [Sem.run_bind, run_underlying hT, Result.andThen_ok, sizeOf, typeInfo, run_program, hi, his, hs]
 simp only [Sem.run_pure, Result.andThen_ok, his, hs]
 simp only [Std.Legacy.Range.forIn_eq_forIn_range', Std.Legacy.Range.size, Nat.sub_zero, Nat.add_one_sub_one, Nat.div_one]
 have hl' := hl
 simp only [bind_assoc] at hl'
 rw [hl']
 simp only [Result.andThen_ok]
 by_cases hq : ∀ j, j < len -> f j = g j
 ·simp only [decide_eq_true hq, if_true]
  rfl
 ·simp only [decide_eq_false hq, Bool.false_eq_true, if_false]
  rfl
def Ctx.Good (C : Ctx) : Prop := ∀ T ty, C.ty T = some ty -> TyOK C.P T ty
def CV.XRep (E : Env) (U : Addr -> Prop) (w : World) : CV -> Value -> Prop
 | .p x, u => x.Rep U w u
 | .ptr t off, u => t ∈ E.c.pins /\ (E.β0 t).re = true /\ u = .pointer (some ⟨(E.β0 t).b, (E.β0 t).o + off, none⟩)
def BV.XRep (E : Env) (U : Addr -> Prop) (w : World) : BV -> Value -> Prop
 | .p x, u => x.Rep U w u
 | .ptr t off, u => t ∈ E.c.pins /\ (E.β0 t).re = true /\ u = .pointer (some ⟨(E.β0 t).b, (E.β0 t).o + off, none⟩)
 | .mv fn t off, u => t ∈ E.c.pins /\ (E.β0 t).re = true /\ u = .func (.func fn) #[.pointer (some ⟨(E.β0 t).b, (E.β0 t).o + off, none⟩)] #[]
 | .own t off n, u => n <= maxLen /\
   ((t ∈ E.c.pins /\ (E.β0 t).re = true /\ ∃ c T sz, u = .slice (some ⟨(E.β0 t).b, (E.β0 t).o + off, none⟩) n c /\ n <= c /\ E.w0.shape? (E.β0 t).b = some (T, sz) /\ (E.β0 t).o + off + c * E.c.ss t <= sz) ∨
    (n = 0 /\ ∃ A, u = .slice A 0 0))
 | .clo fn caps, u => ∃ vs : Array Value, u = .func (.func fn) #[] vs /\ vs.size = caps.length /\ ∀ (i : Nat) (c : CV), caps[i]? = some c -> ∃ y, vs[i]? = some y /\ c.XRep E U w y
 | _, _ => True
theorem CV.XRep.stab {E : Env} {U U' : Addr -> Prop} {w w' : World} (hS : Stab U U' w w') : ∀ (x : CV) (u : Value), x.XRep E U w u -> x.XRep E U' w' u
 | .p x, u, h => PV.Rep.stab hS x u h
 | .ptr _ _, _, h => h
theorem BV.XRep.stab {E : Env} {U U' : Addr -> Prop} {w w' : World} (hS : Stab U U' w w') : ∀ (x : BV) (u : Value), x.XRep E U w u -> x.XRep E U' w' u
 | .p x, u, h => PV.Rep.stab hS x u h
 | .ptr _ _, _, h => h
 | .clo _ _, _, h => let ⟨vs, h1, h2, h3⟩ := h; ⟨vs, h1, h2, fun i c hc => let ⟨y, hy, hr⟩ := h3 i c hc; ⟨y, hy, CV.XRep.stab hS c y hr⟩⟩
 | .mv _ _ _, _, h => h
 | .dead, _, _ => trivial
 | .own _ _ _, _, h => h
 | .rp _ _, _, _ => trivial
 | .agg _ _, _, _ => trivial
 | .tup _ _, _, _ => trivial
 | .ag _ _, _, _ => trivial
def XsOK (E : Env) (U : Addr -> Prop) (w : World) : Prop := ∀ (i : Nat) (fr0 : List (Nat × BV)), E.c.x[i]? = some fr0 -> ∃ g : Nat -> Value, E.ext[i]? = some g /\ ∀ d y, (d, y) ∈ fr0 -> y.XRep E U w (g d)
theorem CV.XRep.rows {E : Env} (rs : List (Nat × Obj)) {U : Addr -> Prop} {w : World} {x : CV} {u : Value} (h : x.XRep E U w u) : x.XRep { E with rows := rs } U w u := by
 cases x <;> exact h
theorem BV.XRep.rows {E : Env} (rs : List (Nat × Obj)) {U : Addr -> Prop} {w : World} {x : BV} {u : Value} (h : x.XRep E U w u) : x.XRep { E with rows := rs } U w u := by
 cases x with
 | clo fn caps =>
  obtain ⟨vs, h1, h2, h3⟩ := h
  exact ⟨vs, h1, h2, fun i c hc => let ⟨y, hy, hr⟩ := h3 i c hc; ⟨y, hy, CV.XRep.rows rs hr⟩⟩
 | _ => exact h
theorem XsOK.rows {E : Env} (rs : List (Nat × Obj)) {U : Addr -> Prop} {w : World} (h : XsOK E U w) : XsOK { E with rows := rs } U w :=
 fun i fr0 hi => let ⟨g, h1, h2⟩ := h i fr0 hi; ⟨g, h1, fun d y hd => (h2 d y hd).rows rs⟩
theorem XsOK.stab {E : Env} {U U' : Addr -> Prop} {w w' : World} (hS : Stab U U' w w') (h : XsOK E U w) : XsOK E U' w' :=
 fun i fr0 hi => let ⟨g, h1, h2⟩ := h i fr0 hi; ⟨g, h1, fun d y hd => BV.XRep.stab hS y _ (h2 d y hd)⟩
def DefOK (B : Nat) (rows : List (Nat × Obj)) (ds : List Deferred) : Prop :=
 ∃ Ds : List Nat, Ds.Nodup /\ ds = Ds.map (fun D => { target := .collected D, args := #[] }) /\ ∀ D, D ∈ Ds -> (D, Obj.deferred (some [])) ∈ rows /\ B <= D
theorem DefOK.nil (B : Nat) (rows : List (Nat × Obj)) : DefOK B rows [] := ⟨[], List.nodup_nil, rfl, fun _ h => by cases h⟩
def TokOK (E : Env) (fr : Fr) : Prop := E.c.it = true ->
 (Fr.get fr E.c.nt = .p (.v undef) -> (E.c.l, Obj.loop (E.lrec .ready none)) ∈ E.rows) /\ (Fr.get fr (E.c.nt + 1) = .p (.v undef) -> (E.c.l, Obj.loop (E.lrec .done (some E.c.lp.pc))) ∈ E.rows) /\
  (∃ fn D, ∃ tm : Array Value, E.lrec = (fun st pe => { state := st, pending := pe, fn := fn, tmps := tm, params := E.c.lp.ps, assign := E.c.lp.as, body := E.c.lp.bd, defers := D }) /\ tm.size = E.c.lp.nt /\ E.ext[0]? = some (fun d => tm.getD d undef)) /\ ∃ s pe, (E.c.l, Obj.loop (E.lrec s pe)) ∈ E.rows
theorem TokOK.mono {E : Env} {fr fr' : Fr} (h : TokOK E fr) (hs : ∀ d, E.c.nt <= d -> Fr.get fr' d = .p (.v undef) -> Fr.get fr d = .p (.v undef)) : TokOK E fr' :=
 fun hit => ⟨fun e => (h hit).1 (hs _ (Nat.le_refl _) e), fun e => (h hit).2.1 (hs _ (Nat.le_succ _) e), (h hit).2.2⟩
structure St (C : Ctx) (E : Env) (β : Loc) (fr : Fr) (O : Hp) (a : Act) (w : World) : Prop where
 ctx : E.c = C
 good : C.Good
 core : Core E β O w
 defers : DefOK E.w0.heap.size E.rows a.defers
 size : a.tmps.size = C.nt
 slot : ∀ d, (Fr.get fr d).Rep (Un E.N β O) β O w (a.tmps.getD d undef)
 xs : XsOK E (Un E.N β O) w
 tok : TokOK E fr
theorem BV.kill_p {t : Nat} {x : BV} {p : PV} (h : x.kill t = .p p) : x = .p p := by
 cases x <;> simp only [BV.kill] at h <;> first | exact h | (split at h <;> cases h) | cases h
theorem St.ev {C : Ctx} {E : Env} {β : Loc} {fr : Fr} {O : Hp} {a : Act} {w : World} (h : St C E β fr O a w) (x : Operand) : (Fr.ev C fr x).Rep (Un E.N β O) β O w (a.eval x) := by
 cases x with
 | tmp t => exact h.slot t
 | const v => exact cst_rep _ _ v
 | func f => exact ⟨#[], rfl, rfl, fun i c hi => by simp at hi⟩
 | global g =>
  simp only [Fr.ev]
  cases hg : C.gl g with
  | none => trivial
  | some mf =>
   obtain ⟨m, f⟩ := mf
   have hg' : E.c.gl g = some (m, f) := by rw [h.ctx]; exact hg
   refine ⟨⟨g, 0, none⟩, rfl, fun j hj => ?_⟩
   obtain ⟨h1, h2, h3, h4⟩ := h.core.ok.gl g m f hg' j hj
   have e : (⟨g, 0, none⟩ : Addr).add j = ⟨g, j, none⟩ := by rw [Addr.add_mid]; simp
   rw [e]
   refine ⟨?_, (f j).val, h.core.keep.cell h1 h3, GV.rep _ _ _⟩
   rintro (hN | ⟨t, ob, ht, hre, hb, _⟩)
   ·exact h2 hN
   ·obtain ⟨cs, fr, _, _, _, hng, _⟩ := h.core.mem.obj t ob ht hre
    simp at hb
    omega
theorem St.put {C : Ctx} {E : Env} {β : Loc} {fr : Fr} {O : Hp} {a : Act} {w : World} (h : St C E β fr O a w) {d : Nat} (hd : d < C.nt) {x : BV} {u : Value} (hx : x.Rep (Un E.N β O) β O w u) :
  St C E β ((d, x) :: fr) O (a.put (some d) u) w := by
 refine ⟨h.ctx, h.good, h.core, h.defers, by simp [Act.put, h.size], fun k => ?_, h.xs, h.tok.mono fun k hk e => by
  rw [h.ctx] at hk
  rwa [Fr.get, if_neg (by omega)] at e⟩
 by_cases hk : d = k
 ·subst hk
  simp only [Fr.get, if_true, Act.put]
  rw [Array.getD_eq_getD_getElem?, Array.getElem?_setIfInBounds_self_of_lt (by rw [h.size]; exact hd)]
  exact hx
 ·simp only [Fr.get, hk, if_false, Act.put]
  rw [Array.getD_eq_getD_getElem?, Array.getElem?_setIfInBounds_ne hk, <- Array.getD_eq_getD_getElem?]
  exact h.slot k
theorem St.goes {C : Ctx} {E : Env} {β β' : Loc} {fr : Fr} {O O' : Hp} {a : Act} {w w' : World} {K : Nat -> Prop} (h : St C E β fr O a w) (g : Goes E β O w β' O' w' K) (hk : ∀ d t, (Fr.get fr d).uses t -> K t) : St C E β' fr O' a w' :=
 ⟨h.ctx, h.good, g.core, h.defers, h.size, fun d => g.rep (h.slot d) (hk d), h.xs.stab g.stab, h.tok⟩
theorem St.killed {C : Ctx} {E : Env} {β : Loc} {fr : Fr} {O : Hp} {a : Act} {w : World} (h : St C E β fr O a w) (t : Nat) : St C E β (Fr.kill t fr) O a w :=
 ⟨h.ctx, h.good, h.core, h.defers, h.size, fun d => by rw [Fr.get_kill]; exact BV.kill_rep t (h.slot d), h.xs, h.tok.mono fun d _ e => by rw [Fr.get_kill] at e; exact BV.kill_p e⟩
theorem Fr.kill_uses {t k d : Nat} {fr : Fr} (h : (Fr.get (Fr.kill t fr) d).uses k) : k ≠ t := by
 rw [Fr.get_kill] at h
 rintro rfl
 exact BV.kill_uses k _ h
abbrev OpK := Fr -> BV -> Hp -> Prop
def loud (C : Ctx) : Op -> Bool
 | .move _ => false
 | .assign _ => false
 | .pick _ _ _ => false
 | .binOp _ _ _ _ _ => false
 | .unOp _ _ _ => false
 | .convert _ d _ => match ((C.ty d).map (·.d) : Option TyD) with
  | some (.slice _) => true
  | _ => false
 | .extract _ _ => false
 | .nilCheck _ => false
 | .sliceToArrayPointer _ _ => false
 | .load _ _ => false
 | .indexAddr _ _ _ => false
 | .index _ _ _ => false
 | .field _ _ _ => false
 | .fieldAddr _ _ _ => false
 | .slice _ _ _ _ _ => false
 | .build _ _ => false
 | .makeFunc _ _ _ => false
 | .call c => match c.callee with
  | .builtin .len => false
  | .builtin .min => false
  | .builtin .max => false
  | .builtin .real => false
  | .builtin .imag => false
  | .builtin .complex => false
  | _ => true
 | _ => true
def OpOK (C : Ctx) (o : Oper) (fr : Fr) (O : Hp) (k : OpK) : Prop :=
 ∀ (E : Env) (β : Loc) (a : Act) (w : World), St C E β fr O a w -> ∀ (K : Act -> World -> Prop) (Q : Exit -> Act -> World -> Prop),
  (∀ fr' x O' β' w' u, k fr' x O' -> St C E β' fr' O' a w' -> x.Rep (Un E.N β' O') β' O' w' u -> (loud C o.op = false -> w' = w) -> K (a.put o.dst u) w') -> o.wp C.P a w K Q
theorem OpOK.val {C : Ctx} {o : Oper} {fr : Fr} {O : Hp} {k : OpK} (x : BV) (hk : k fr x O)
  (hrun : ∀ (E : Env) (β : Loc) (a : Act) (w : World), St C E β fr O a w -> ∃ u, (execOp a.eval o).run C.P w = .ok (.value u) w /\ x.Rep (Un E.N β O) β O w u) : OpOK C o fr O k := by
 intro E β a w hst K Q h
 obtain ⟨u, hr, hx⟩ := hrun E β a w hst
 unfold Oper.wp
 rw [hr]
 exact h fr x O β w u hk hst hx (fun _ => rfl)
theorem OpOK.skip {C : Ctx} {o : Oper} {fr : Fr} {O O' : Hp} {k : OpK} (hl : loud C o.op = true) (hk : k fr .dead O')
  (hrun : ∀ (E : Env) (β : Loc) (a : Act) (w : World), St C E β fr O a w -> ∃ β' w', (execOp a.eval o).run C.P w = .ok .skip w' /\ St C E β' fr O' a w') : OpOK C o fr O k := by
 intro E β a w hst K Q h
 obtain ⟨β', w', hr, hx⟩ := hrun E β a w hst
 unfold Oper.wp
 rw [hr]
 exact h fr .dead O' β' w' undef hk hx trivial (fun h => by rw [hl] at h; cases h)
theorem run_v {P : Program} {s : Sem Value} {w w' : World} {u : Value} (h : s.run P w = .ok u w') : (do pure (Next.value (<- s)) : Sem Next).run P w = .ok (.value u) w' := by
 simp [h]
def pickA (c : BV) (y n : Prop) : Prop :=
 match c with
 | .p (.v (.bool b)) => (b = true -> y) /\ (b = false -> n)
 | _ => False
def nilQ (x : BV) (kk : Bool -> Prop) : Prop :=
 match x with
 | .p (.v (.slice none 0 0)) => kk true
 | .p (.bs l) => (l.length = 0 -> kk true) /\ kk false
 | .p (.sl n s _) => (n * s = 0 -> kk true) /\ kk false
 | .own _ _ n => (n = 0 -> kk true) /\ kk false
 | _ => False
def PV.isI (k : IntKind) : PV -> Bool
 | .v (.int k' _) => decide (k' = k)
 | .u8 _ => decide (k = .u8)
 | .u32 _ => decide (k = .u32)
 | .u64 _ => decide (k = .u64)
 | _ => false
theorem PV.isI_rep {k : IntKind} {U : Addr -> Prop} {w : World} {x : PV} {u : Value} (h : x.isI k = true) (hx : x.Rep U w u) : u = .int k (x.toI.getD 0) := by
 cases x with
 | v v => cases v <;> simp [PV.isI] at h; subst h; exact hx
 | u8 b => simp [PV.isI] at h; subst h; exact hx
 | u32 b => simp [PV.isI] at h; subst h; exact hx
 | u64 b => simp [PV.isI] at h; subst h; exact hx
 | _ => simp [PV.isI] at h
def arrVC (C : Ctx) (T : TypeId) (n : Nat) (e : TypeId) (x y : BV) : Option (Prop × Bool) :=
 match x, y, C.ty e with
 | .agg m f, .agg m' g, some ⟨.int k, 1, _, _⟩ => some ((m = n /\ m' = n /\ C.P.eqGuardType C.P.depth T = false /\ ∀ j, j < n -> (f j).isI k = true /\ (g j).isI k = true), decide (∀ j, j < n -> (f j).toI.getD 0 = (g j).toI.getD 0))
 | _, _, _ => none
def ptrQ (x y : BV) : Option Bool :=
 match x, y with
 | .p (.v (.pointer none)), .p (.v (.pointer none)) => some true
 | .ptr _ _, .p (.v (.pointer none)) => some false
 | .rp _ _, .p (.v (.pointer none)) => some false
 | .p (.pp _), .p (.v (.pointer none)) => some false
 | _, _ => none
def eqB (C : Ctx) (T : TypeId) (x y : BV) (kk : Bool -> Prop) : Prop :=
 match ((C.ty T).map (·.d) : Option TyD) with
 | some .bool => match x, y with
  | .p (.v (.bool a)), .p (.v (.bool b)) => kk (a == b)
  | _, _ => False
 | some (.slice _) => match y with
  | .p (.v (.slice none 0 0)) => nilQ x kk
  | _ => False
 | some (.array n e) => match arrVC C T n e x y with
  | some (vc, b) => vc /\ kk b
  | none => False
 | some (.pointer _) => match ptrQ x y with
  | some b => kk b
  | none => False
 | _ => False
def eqA (C : Ctx) (op : BinOp) (T : TypeId) (x y : BV) (kk : BV -> Prop) : Prop :=
 match op with
 | .eql => eqB C T x y fun b => kk (.p (.v (.bool b)))
 | .neq => eqB C T x y fun b => kk (.p (.v (.bool !b)))
 | _ => False
def binA (C : Ctx) (op : BinOp) (T : TypeId) (x y : BV) (kk : BV -> Prop) : Prop :=
 match x, y with
 | .p a, .p b => match binP op a b with
  | some (vc, r) => vc /\ kk (.p r)
  | none => eqA C op T x y kk
 | _, _ => eqA C op T x y kk
theorem nil_is {U : Addr -> Prop} {β : Loc} {O : Hp} {w : World} {x : BV} {kk : Bool -> Prop} {u : Value} (h : nilQ x kk) (hx : x.Rep U β O w u) :
  ∃ A n c, u = .slice A n c /\ kk A.isNone := by
 unfold nilQ at h
 split at h
 ·exact ⟨none, 0, 0, hx, h⟩
 ·rename_i l
  obtain ⟨_, A, c, rfl, _, hc⟩ := hx
  cases A with
  | some a => exact ⟨_, _, _, rfl, h.2⟩
  | none =>
   refine ⟨_, _, _, rfl, h.1 ?_⟩
   rcases Nat.eq_zero_or_pos l.length with h0 | h0
   ·exact h0
   ·obtain ⟨a, ha, _⟩ := hc 0 h0; cases ha
 ·rename_i n s f
  obtain ⟨_, A, c, rfl, _, hc⟩ := hx
  cases A with
  | some a => exact ⟨_, _, _, rfl, h.2⟩
  | none =>
   refine ⟨_, _, _, rfl, h.1 ?_⟩
   rcases Nat.eq_zero_or_pos (n * s) with h0 | h0
   ·exact h0
   ·obtain ⟨a, _, ha, _⟩ := hc 0 h0; cases ha
 ·obtain ⟨_, ⟨_, c, _, _, _, _, rfl, _⟩ | ⟨h0, A, rfl⟩⟩ := hx
  ·exact ⟨_, _, _, rfl, h.2⟩
  ·cases A with
   | some a => exact ⟨_, _, _, rfl, h.2⟩
   | none => exact ⟨_, _, _, rfl, h.1 h0⟩
 ·exact h.elim
theorem eqGuard_plain {P : Program} {op : BinOp} {t : TypeId} {x y : Operand} {a b : Value} (h : (∀ c, a ≠ .agg c) /\ a ≠ .nilIface) (w : World) : (eqGuard op t x y a b).run P w = .ok () w := by
 cases a with
 | agg c => exact absurd rfl (h.1 c)
 | nilIface => exact absurd rfl h.2
 | _ => unfold eqGuard; cases op <;> rfl
theorem notAgg_of_rep {U : Addr -> Prop} {w : World} {x y : PV} {op : BinOp} {r : Prop × PV} (h : binP op x y = some r) {u : Value} (hx : x.Rep U w u) : (∀ c, u ≠ .agg c) /\ u ≠ .nilIface := by
 have key : ∀ {v : PV}, (∃ n, v.toI = some n) ∨ (∃ l, v = .str l) -> v.Rep U w u -> (∀ c, u ≠ .agg c) /\ u ≠ .nilIface := by
  intro v hv hr
  rcases hv with ⟨n, hn⟩ | ⟨l, rfl⟩
  ·obtain ⟨k, rfl⟩ := PV.toI_rep hn hr; exact ⟨fun _ => by simp, by simp⟩
  ·have : u = _ := hr
   subst this; exact ⟨fun _ => by simp, by simp⟩
 by_cases hf : ∃ k a, x = .v (.float k a)
 ·obtain ⟨k, a, rfl⟩ := hf
  have : u = _ := hx
  subst this; exact ⟨fun _ => by simp, by simp⟩
 by_cases hf2 : ∃ k a b, x = .v (.complex k a b)
 ·obtain ⟨k, a, b, rfl⟩ := hf2
  have : u = _ := hx
  subst this; exact ⟨fun _ => by simp, by simp⟩
 refine key ?_ hx
 cases x with
 | v x =>
  cases x
  case float k a => exact absurd ⟨k, a, rfl⟩ hf
  case complex k a b => exact absurd ⟨k, a, b, rfl⟩ hf2
  all_goals (clear hf hf2; cases op <;> simp [binP, shP, PV.toI] at h ⊢ <;> (split at h <;> simp at h))
 | u8 b => exact .inl ⟨_, rfl⟩
 | u32 b => exact .inl ⟨_, rfl⟩
 | u64 b => exact .inl ⟨_, rfl⟩
 | str l => exact .inr ⟨l, rfl⟩
 | bs l => cases op <;> simp [binP, shP] at h <;> (split at h <;> simp at h)
 | sl n s f => cases op <;> simp [binP, shP] at h <;> (split at h <;> simp at h)
 | pp x => cases op <;> simp [binP, shP] at h <;> (split at h <;> simp at h)
theorem run_eql_bool {P : Program} {T : TypeId} (hT : P.underlying T = some .bool) (a b : Bool) (w : World) : (binOp .eql T (.bool a) (.bool b)).run P w = .ok (.bool (a == b)) w := by
 simp only [binOp, Op.equal, Op.maxDepth]
 rw [Op.equalIn]
 simp [run_underlying hT]
theorem run_neq_bool {P : Program} {T : TypeId} (hT : P.underlying T = some .bool) (a b : Bool) (w : World) : (binOp .neq T (.bool a) (.bool b)).run P w = .ok (.bool (!(a == b))) w := by
 simp only [binOp, Op.equal, Op.maxDepth]
 rw [Op.equalIn]
 simp [run_underlying hT]
theorem run_eql_ptr_nil {P : Program} {T e : TypeId} (hT : P.underlying T = some (.pointer e)) (p : Option Addr) (w : World) : (binOp .eql T (.pointer p) (.pointer none)).run P w = .ok (.bool p.isNone) w := by
 simp only [binOp, Op.equal, Op.maxDepth]
 rw [Op.equalIn]
 cases p <;> simp [run_underlying hT]
theorem run_neq_ptr_nil {P : Program} {T e : TypeId} (hT : P.underlying T = some (.pointer e)) (p : Option Addr) (w : World) : (binOp .neq T (.pointer p) (.pointer none)).run P w = .ok (.bool !p.isNone) w := by
 simp only [binOp, Op.equal, Op.maxDepth]
 rw [Op.equalIn]
 cases p <;> simp [run_underlying hT]
theorem St.ty {C : Ctx} {E : Env} {β : Loc} {fr : Fr} {O : Hp} {a : Act} {w : World} (h : St C E β fr O a w) {T : TypeId} {ty : Ty} (hT : C.ty T = some ty) : TyOK C.P T ty := h.good T ty hT
theorem eqB_run {C : Ctx} {E : Env} {β : Loc} {fr : Fr} {O : Hp} {a : Act} {w : World} (hst : St C E β fr O a w) {T : TypeId} {x y : BV} {kk : Bool -> Prop} (h : eqB C T x y kk) {u v : Value}
  (hx : x.Rep (Un E.N β O) β O w u) (hy : y.Rep (Un E.N β O) β O w v) :
  ∃ b, kk b /\ (binOp .eql T u v).run C.P w = .ok (.bool b) w /\ (binOp .neq T u v).run C.P w = .ok (.bool !b) w /\ ∀ op x y, (eqGuard op T x y u v).run C.P w = .ok () w := by
 unfold eqB at h
 split at h
 ·rename_i hT
  obtain ⟨ty, hty, hd⟩ := Option.map_eq_some_iff.1 hT
  have hu := (hst.ty hty).2
  rw [hd] at hu
  split at h
  ·rename_i p q
   have e1 : u = .bool p := hx
   have e2 : v = .bool q := hy
   subst e1; subst e2
   exact ⟨_, h, run_eql_bool hu p q w, run_neq_bool hu p q w, fun op x y => eqGuard_plain ⟨fun _ => by simp, by simp⟩ w⟩
  ·exact h.elim
 ·rename_i e hT
  obtain ⟨ty, hty, hd⟩ := Option.map_eq_some_iff.1 hT
  have hu := (hst.ty hty).2
  rw [hd] at hu
  split at h
  ·obtain ⟨A, n, c, rfl, hk⟩ := nil_is h hx
   have e2 : v = .slice none 0 0 := hy
   subst e2
   exact ⟨_, hk, Lib.run_eql_slice_nil w T e A n c 0 0 hu, run_neq_slice_nil_any w T e A n c 0 0 hu, fun op x y => eqGuard_plain ⟨fun _ => by simp, by simp⟩ w⟩
  ·exact h.elim
 ·rename_i n e hT
  obtain ⟨ty, hty, hd⟩ := Option.map_eq_some_iff.1 hT
  have hu := (hst.ty hty).2
  rw [hd] at hu
  split at h
  case h_2 => exact h.elim
  rename_i vc b hvb
  obtain ⟨hvc, hk⟩ := h
  unfold arrVC at hvb
  split at hvb
  case h_2 => cases hvb
  rename_i m f m' g k b1 z1 he
  cases hvb
  obtain ⟨rfl, rfl, hG, hI⟩ := hvc
  obtain ⟨cs, rfl, hcs, hcc⟩ := hx
  obtain ⟨ds, rfl, hds, hdc⟩ := hy
  have heq := equal_arr (P := C.P) (T := T) (e := e) (len := m') (k := k) 9998 hu (hst.ty he).2 (hst.ty he) rfl rfl (xs := cs) (ys := ds) (f := fun j => (f j).toI.getD 0) (g := fun j => (g j).toI.getD 0) (w := w)
   (fun j hj => by obtain ⟨y, hy, hr⟩ := hcc j hj; rw [hy, PV.isI_rep (hI j hj).1 hr]) (fun j hj => by obtain ⟨y, hy, hr⟩ := hdc j hj; rw [hy, PV.isI_rep (hI j hj).2 hr])
  refine ⟨_, hk, ?_, ?_, fun op x y => run_eqGuard_agg w op T x y cs ds hG⟩
  ·rw [run_eql_struct, heq]; rfl
  ·rw [run_neq_struct, heq]; rfl
 ·rename_i e hT
  obtain ⟨ty, hty, hd⟩ := Option.map_eq_some_iff.1 hT
  have hu := (hst.ty hty).2
  rw [hd] at hu
  split at h
  case h_2 => exact h.elim
  rename_i b hb
  have hp : ∃ p q : Option Addr, u = .pointer p /\ v = .pointer q /\ q = none /\ b = p.isNone := by
   unfold ptrQ at hb
   split at hb
   ·cases hb; exact ⟨none, none, hx, hy, rfl, rfl⟩
   ·cases hb; obtain ⟨ob, _, _, _, e⟩ := hx; exact ⟨_, none, e, hy, rfl, rfl⟩
   ·cases hb; obtain ⟨a, e, _⟩ := hx; exact ⟨_, none, e, hy, rfl, rfl⟩
   ·cases hb; obtain ⟨a, _, e, _⟩ := hx; exact ⟨_, none, e, hy, rfl, rfl⟩
   ·cases hb
  obtain ⟨p, q, rfl, rfl, rfl, rfl⟩ := hp
  refine ⟨_, h, ?_, ?_, fun op x y => eqGuard_plain ⟨fun _ => by simp, by simp⟩ w⟩
  ·exact run_eql_ptr_nil hu p w
  ·exact run_neq_ptr_nil hu p w
 ·exact h.elim
theorem binA_ok {C : Ctx} {o : Oper} {op : BinOp} {T T' : TypeId} {x y : Operand} (ho : o.op = .binOp op T x y T') {fr : Fr} {O : Hp} {k : OpK}
  (h : binA C op T (Fr.ev C fr x) (Fr.ev C fr y) fun r => k fr r O) : OpOK C o fr O k := by
 have heq : ∀ X Y, Fr.ev C fr x = X -> Fr.ev C fr y = Y -> eqA C op T X Y (fun r => k fr r O) -> OpOK C o fr O k := by
  intro X Y hX hY h E β a w hst K Q hK
  have hx := hst.ev x
  have hy := hst.ev y
  rw [hX] at hx
  rw [hY] at hy
  unfold Oper.wp
  unfold eqA at h
  split at h
  ·obtain ⟨b, hk, h1, _, h3⟩ := eqB_run hst h hx hy
   have hr : (execOp a.eval o).run C.P w = .ok (.value (.bool b)) w := by
    simp only [execOp, ho]
    exact run_v (by simp [Sem.run_bind, h3, h1])
   rw [hr]
   exact hK fr _ O β w _ hk hst rfl (fun _ => rfl)
  ·obtain ⟨b, hk, _, h2, h3⟩ := eqB_run hst h hx hy
   have hr : (execOp a.eval o).run C.P w = .ok (.value (.bool !b)) w := by
    simp only [execOp, ho]
    exact run_v (by simp [Sem.run_bind, h3, h2])
   rw [hr]
   exact hK fr _ O β w _ hk hst rfl (fun _ => rfl)
  ·exact h.elim
 unfold binA at h
 split at h
 ·rename_i p q hX hY
  split at h
  ·rename_i vc r hb
   obtain ⟨hvc, hk⟩ := h
   refine OpOK.val _ hk fun E β a w hst => ?_
   have hx := hst.ev x
   have hy := hst.ev y
   rw [hX] at hx
   rw [hY] at hy
   obtain ⟨z, hz, hr⟩ := binP_run (P := C.P) T hb hvc hx hy
   refine ⟨z, ?_, hr⟩
   simp only [execOp, ho]
   exact run_v (by simp [Sem.run_bind, eqGuard_plain (notAgg_of_rep hb hx) w, hz])
  ·exact heq _ _ rfl rfl h
 ·exact heq _ _ rfl rfl h
theorem moveA_ok {C : Ctx} {o : Oper} {x : Operand} (ho : o.op = .move x ∨ o.op = .assign x) {fr : Fr} {O : Hp} {k : OpK} (h : k fr (Fr.ev C fr x) O) : OpOK C o fr O k :=
 OpOK.val _ h fun E β a w hst => ⟨a.eval x, by rcases ho with ho | ho <;> simp [execOp, ho], hst.ev x⟩
theorem pickA_ok {C : Ctx} {o : Oper} {c x y : Operand} (ho : o.op = .pick c x y) {fr : Fr} {O : Hp} {k : OpK}
  (h : pickA (Fr.ev C fr c) (k fr (Fr.ev C fr x) O) (k fr (Fr.ev C fr y) O)) : OpOK C o fr O k := by
 unfold pickA at h
 split at h
 ·rename_i b hc
  cases b with
  | true =>
   refine OpOK.val _ (h.1 rfl) fun E β a w hst => ⟨a.eval x, ?_, hst.ev x⟩
   have hb := hst.ev c
   rw [hc] at hb
   have hb' : a.eval c = .bool true := hb
   simp [execOp, ho, hb', asBool]
  | false =>
   refine OpOK.val _ (h.2 rfl) fun E β a w hst => ⟨a.eval y, ?_, hst.ev y⟩
   have hb := hst.ev c
   rw [hc] at hb
   have hb' : a.eval c = .bool false := hb
   simp [execOp, ho, hb', asBool]
 ·exact h.elim
def unA (op : UnOp) (x : BV) (kk : BV -> Prop) : Prop :=
 match op, x with
 | .not, .p (.v (.bool b)) => kk (.p (.v (.bool !b)))
 | .neg, .p (.v (.int k n)) => kk (.p (.v (.int k (k.wrap (0 - n)))))
 | .xor, .p (.u8 b) => kk (.p (.u8 (~~~ b)))
 | .xor, .p (.u32 b) => kk (.p (.u32 (~~~ b)))
 | .xor, .p (.u64 b) => kk (.p (.u64 (~~~ b)))
 | _, _ => False
theorem unA_ok {C : Ctx} {o : Oper} {op : UnOp} {T : TypeId} {x : Operand} (ho : o.op = .unOp op T x) {fr : Fr} {O : Hp} {k : OpK}
  (h : unA op (Fr.ev C fr x) fun r => k fr r O) : OpOK C o fr O k := by
 unfold unA at h
 split at h
 ·rename_i b hx
  refine OpOK.val _ h fun E β a w hst => ⟨.bool !b, ?_, rfl⟩
  have hb := hst.ev x
  rw [hx] at hb
  have hb' : a.eval x = .bool b := hb
  simp [execOp, ho, hb', Op.unary]
 ·rename_i kk n hx
  refine OpOK.val _ h fun E β a w hst => ⟨_, ?_, rfl⟩
  have hb := hst.ev x
  rw [hx] at hb
  have hb' : a.eval x = .int kk n := hb
  simp [execOp, ho, hb', Op.unary, Op.intArith]
 ·rename_i b hx
  refine OpOK.val _ h fun E β a w hst => ⟨.int .u8 ((~~~ b).toNat : Int), ?_, rfl⟩
  have hb := hst.ev x
  rw [hx] at hb
  have hb' : a.eval x = .int .u8 (b.toNat : Int) := hb
  simp only [execOp, ho, hb', Op.unary, Op.intBits]
  refine run_v (u := .int .u8 ((~~~ b).toNat : Int)) ?_
  have e : (if IntKind.signed .u8 then (-1 : Int) else IntKind.max .u8) = 255 := rfl
  rw [e, ofInt_u8, wrap_u8]
  have e2 : (BitVec.ofInt 8 255 ^^^ b.toBitVec : BitVec 8) = ~~~ b.toBitVec := by
   have : BitVec.ofInt 8 255 = BitVec.allOnes 8 := by decide
   rw [this, BitVec.allOnes_xor]
  show Sem.run C.P (pure (Value.int IntKind.u8 (((BitVec.ofInt 8 255 ^^^ b.toBitVec : BitVec 8).toNat : Int) % 256))) w = _
  rw [e2]
  have := mod_u8 (~~~ b)
  show Result.ok (Value.int IntKind.u8 (((~~~ b).toNat : Int) % 256)) w = _
  rw [this]
 ·rename_i b hx
  refine OpOK.val _ h fun E β a w hst => ⟨.int .u32 ((~~~ b).toNat : Int), ?_, rfl⟩
  have hb := hst.ev x
  rw [hx] at hb
  have hb' : a.eval x = .int .u32 (b.toNat : Int) := hb
  simp only [execOp, ho, hb', Op.unary, Op.intBits]
  refine run_v (u := .int .u32 ((~~~ b).toNat : Int)) ?_
  have e : (if IntKind.signed .u32 then (-1 : Int) else IntKind.max .u32) = 4294967295 := rfl
  rw [e, ofInt_u32, wrap_u32]
  have e2 : (BitVec.ofInt 32 4294967295 ^^^ b.toBitVec : BitVec 32) = ~~~ b.toBitVec := by
   have : BitVec.ofInt 32 4294967295 = BitVec.allOnes 32 := by decide
   rw [this, BitVec.allOnes_xor]
  show Sem.run C.P (pure (Value.int IntKind.u32 (((BitVec.ofInt 32 4294967295 ^^^ b.toBitVec : BitVec 32).toNat : Int) % 4294967296))) w = _
  rw [e2]
  have := mod_u32 (~~~ b)
  show Result.ok (Value.int IntKind.u32 (((~~~ b).toNat : Int) % 4294967296)) w = _
  rw [this]
 ·rename_i b hx
  refine OpOK.val _ h fun E β a w hst => ⟨.int .u64 ((~~~ b).toNat : Int), ?_, rfl⟩
  have hb := hst.ev x
  rw [hx] at hb
  have hb' : a.eval x = .int .u64 (b.toNat : Int) := hb
  simp only [execOp, ho, hb', Op.unary, Op.intBits]
  refine run_v (u := .int .u64 ((~~~ b).toNat : Int)) ?_
  have e : (if IntKind.signed .u64 then (-1 : Int) else IntKind.max .u64) = 18446744073709551615 := rfl
  rw [e, ofInt_u64, wrap_u64]
  have e2 : (BitVec.ofInt 64 18446744073709551615 ^^^ b.toBitVec : BitVec 64) = ~~~ b.toBitVec := by
   have : BitVec.ofInt 64 18446744073709551615 = BitVec.allOnes 64 := by decide
   rw [this, BitVec.allOnes_xor]
  show Sem.run C.P (pure (Value.int IntKind.u64 (((BitVec.ofInt 64 18446744073709551615 ^^^ b.toBitVec : BitVec 64).toNat : Int) % 18446744073709551616))) w = _
  rw [e2]
  have := mod_u64 (~~~ b)
  show Result.ok (Value.int IntKind.u64 (((~~~ b).toNat : Int) % 18446744073709551616)) w = _
  rw [this]
 ·exact h.elim
def convI (kd : IntKind) (n : Int) : PV :=
 match kd with
 | .u8 => .u8 (UInt8.ofInt n)
 | .u32 => .u32 (UInt32.ofInt n)
 | .u64 => .u64 (UInt64.ofInt n)
 | k => .v (.int k (k.wrap n))
def fltInt (k : FloatKind) (b : Nat) : Option Int :=
 match (k.decode b).toInt .zero with
 | some n => if IntKind.i64.min <= n /\ n <= IntKind.i64.max then some n else none
 | none => none
theorem fltInt_run {P : Program} {k : FloatKind} {b : Nat} {n : Int} (h : fltInt k b = some n) (w : World) : (Conv.floatToInt k b .i64).run P w = .ok (.int .i64 n) w := by
 unfold fltInt at h
 unfold Conv.floatToInt
 split at h
 ·rename_i m hm
  split at h
  ·rename_i hb
   cases h
   simp only [hm]
   rw [if_pos hb]; rfl
  ·cases h
 ·cases h
def convN (kd : IntKind) (x : PV) : Option PV :=
 match x with
 | .v (.int _ n) => some (convI kd n)
 | .u8 b => match kd with
  | .u8 => some (.u8 b)
  | .u32 => some (.u32 b.toUInt32)
  | .u64 => some (.u64 b.toUInt64)
  | .i64 => some (.v (.int .i64 (b.toNat : Int)))
  | _ => none
 | .u32 b => match kd with
  | .u8 => some (.u8 b.toUInt8)
  | .u32 => some (.u32 b)
  | .u64 => some (.u64 b.toUInt64)
  | .i64 => some (.v (.int .i64 (b.toNat : Int)))
  | _ => none
 | .u64 b => match kd with
  | .u8 => some (.u8 b.toUInt8)
  | .u32 => some (.u32 b.toUInt32)
  | .u64 => some (.u64 b)
  | .i64 => some (.v (.int .i64 (IntKind.i64.wrap (b.toNat : Int))))
  | _ => none
 | .v (.float k b) => match kd with
  | .i64 => (fltInt k b).map fun n => .v (.int .i64 n)
  | _ => none
 | _ => none
theorem convI_rep (kd : IntKind) (n : Int) (U : Addr -> Prop) (w : World) : (convI kd n).Rep U w (.int kd (kd.wrap n)) := by
 cases kd <;> simp only [convI, PV.Rep, wrap_u8, wrap_u32, wrap_u64]
 ·congr 1
  have : (UInt8.ofInt n).toNat = (n % 256).toNat := by simp [UInt8.ofInt, UInt8.toNat_ofNat']; omega
  rw [this]; omega
 ·congr 1
  have : (UInt32.ofInt n).toNat = (n % 4294967296).toNat := by simp [UInt32.ofInt, UInt32.toNat_ofNat']; omega
  rw [this]; omega
 ·congr 1
  have : (UInt64.ofInt n).toNat = (n % 18446744073709551616).toNat := by simp [UInt64.ofInt, UInt64.toNat_ofNat']; omega
  rw [this]; omega
theorem convN_rep {kd : IntKind} {x r : PV} (h : convN kd x = some r) {U : Addr -> Prop} {w : World} {u : Value} (hx : x.Rep U w u) : (∃ k n, u = .int k n /\ r.Rep U w (.int kd (kd.wrap n))) ∨ ∃ k b n, u = .float k b /\ kd = .i64 /\ fltInt k b = some n /\ r.Rep U w (.int .i64 n) := by
 unfold convN at h
 split at h
 ·cases h; exact .inl ⟨_, _, hx, convI_rep _ _ _ _⟩
 ·rename_i b
  have hb := b.toNat_lt
  split at h <;> cases h <;> refine .inl ⟨_, _, hx, ?_⟩ <;> simp only [PV.Rep, wrap_u8, wrap_u32, wrap_u64] <;> congr 1 <;>
   first
    | exact mod_u8 b
    | exact wrap_i64 (by omega) (by omega)
    | (simp; done)
    | (simp; omega)
 ·rename_i b
  have hb := b.toNat_lt
  split at h <;> cases h <;> refine .inl ⟨_, _, hx, ?_⟩ <;> simp only [PV.Rep, wrap_u8, wrap_u32, wrap_u64] <;> congr 1 <;>
   first
    | exact mod_u32 b
    | exact wrap_i64 (by omega) (by omega)
    | (simp; done)
    | (simp; omega)
 ·rename_i b
  have hb := b.toNat_lt
  split at h <;> cases h <;> refine .inl ⟨_, _, hx, ?_⟩ <;> simp only [PV.Rep, wrap_u8, wrap_u32, wrap_u64] <;> congr 1 <;>
   first
    | exact mod_u64 b
    | exact wrap_i64 (by omega) (by omega)
    | (simp; done)
    | (simp; omega)
 ·split at h
  ·obtain ⟨n, h1, h2⟩ := Option.map_eq_some_iff.1 h
   cases h2
   exact .inr ⟨_, _, n, hx, rfl, h1, rfl⟩
  ·cases h
 ·cases h
def isBs (C : Ctx) (T : TypeId) : Prop :=
 match ((C.ty T).map (·.d) : Option TyD) with
 | some (.slice e) => ((C.ty e).map (·.d) : Option TyD) = some (.int .u8)
 | _ => False
theorem isBs_spec {C : Ctx} {E : Env} {β : Loc} {fr : Fr} {O : Hp} {a : Act} {w : World} (hst : St C E β fr O a w) {T : TypeId} (h : isBs C T) : ∃ e, C.P.underlying T = some (.slice e) /\ C.P.underlying e = some (.int .u8) := by
 unfold isBs at h
 split at h
 ·rename_i e hT
  obtain ⟨ty, hty, hd⟩ := Option.map_eq_some_iff.1 hT
  obtain ⟨ty', hty', hd'⟩ := Option.map_eq_some_iff.1 h
  have h1 := (hst.ty hty).2
  have h2 := (hst.ty hty').2
  rw [hd] at h1
  rw [hd'] at h2
  exact ⟨e, h1, h2⟩
 ·exact h.elim
def convA (C : Ctx) (O : Hp) (s d : TypeId) (x : BV) (kk : BV -> Prop) : Prop :=
 match ((C.ty d).map (·.d) : Option TyD) with
 | some (.int kd) => (C.ty s).isSome = true /\ match x with
  | .p y => match convN kd y with
   | some r => kk (.p r)
   | none => False
  | _ => False
 | some .string => match x with
  | .p (.str l) => (C.ty s).isSome = true /\ kk (.p (.str l))
  | .p (.bs l) => isBs C s /\ kk (.p (.str l))
  | .p (.v (.slice none 0 0)) => isBs C s /\ kk (.p (.str []))
  | .own t off n => match Hp.get O t with
   | some ob => match ob.c with
    | .bs l => isBs C s /\ kk (.p (.str ((l.drop off).take n)))
    | _ => False
   | none => False
  | _ => False
 | some (.float kd) => (C.ty s).isSome = true /\ match x with
  | .p (.v (.int _ n)) => kk (.p (.v (.float kd (kd.nearest n))))
  | _ => False
 | _ => False
theorem addr_plain {w : World} {a : Addr} {y : Value} (h : w.cell? a = some y) : a = ⟨a.block, a.off, none⟩ := by
 unfold World.cell? at h
 split at h
 ·cases a with
  | mk b o s => cases s with
   | none => rfl
   | some _ => simp at h
 ·simp at h
theorem run_bytes_string {P : Program} {src e dst : TypeId} (hs : P.underlying src = some (.slice e)) (he : P.underlying e = some (.int .u8)) (hd : P.underlying dst = some .string) (w : World) (A : Option Addr) (l : List UInt8) (c : Nat)
  (h : ∀ j, j < l.length -> ∃ a, A = some a /\ w.cell? (a.add j) = some (.int .u8 ((l.getD j 0).toNat : Int))) :
  (convert src dst (.slice A l.length c)).run P w = .ok (.string ⟨l.toArray⟩) w := by
 rw [run_convert_bytes_string w src dst e A l.length c hs he hd]
 cases A with
 | none =>
  have : l = [] := by
   cases l with
   | nil => rfl
   | cons b r => obtain ⟨a, ha, _⟩ := h 0 (by simp); cases ha
  subst this
  rfl
 | some a =>
  cases l with
  | nil => simp [Conv.bytesToString, loadCells, loadCellsFrom]; rfl
  | cons b r =>
   obtain ⟨a', ha, hc0⟩ := h 0 (by simp)
   cases ha
   have hp : a = ⟨a.block, a.off, none⟩ := by
    have h0 : a.add 0 = a := by simp [Addr.add]
    rw [h0] at hc0
    exact addr_plain hc0
   rw [<- run_convert_bytes_string w src dst e (some a) (b :: r).length c hs he hd, hp]
   have := run_convert_bytes_arg (P := P) (w := w) src e hs he a.block a.off (b :: r).length c ((b :: r).map (fun x => (x.toNat : Int))) (by simp) (fun i hi => by
    obtain ⟨a', ha, hc⟩ := h i hi
    cases ha
    rw [hp, Addr.add_mid] at hc
    rw [hc]
    congr 2
    simp only [List.getD_eq_getElem?_getD, List.getElem?_map, List.getElem?_eq_getElem hi, Option.map_some, Option.getD_some]) dst hd
   rw [this]
   congr 2
   simp only [strOfNums, List.map_map]
   congr 2
   have e : ((fun n : Int => UInt8.ofNat n.toNat) ∘ fun x : UInt8 => (x.toNat : Int)) = id := by funext x; simp
   rw [e, List.map_id]
theorem Core.own_bs {E : Env} {β : Loc} {O : Hp} {w : World} (h : Core E β O w) {t : Nat} {ob : OB} (ht : Hp.get O t = some ob) {off n : Nat} {u : Value} {l : List UInt8} (hc : ob.c = .bs l)
  (hu : (BV.own t off n).Rep (Un E.N β O) β O w u) : ∃ A c, u = .slice A ((l.drop off).take n).length c /\ n <= c /\ ((l.drop off).take n).length = n /\
   ∀ j, j < ((l.drop off).take n).length -> ∃ a, A = some a /\ w.cell? (a.add j) = some (.int .u8 ((((l.drop off).take n).getD j 0).toNat : Int)) := by
 have hw := h.mem.wf t ob ht
 rw [OB.wf, hc] at hw
 obtain ⟨hs, hl⟩ := hw
 have hfit : off + n <= l.length ∨ n = 0 := by
  rcases hu.2 with ⟨ob', _, _, _, hob, _, _, _, hf, _⟩ | ⟨h0, _⟩
  ·rw [ht] at hob; cases hob; rw [hs] at hf; exact .inl (by omega)
  ·exact .inr h0
 obtain ⟨hn, A, c, rfl, hcap, hcells⟩ := h.own_cells ht hu
 have hlen : ((l.drop off).take n).length = n := by simp; omega
 refine ⟨A, c, by rw [hlen], hcap, hlen, fun j hj => ?_⟩
 rw [hlen] at hj
 obtain ⟨a, y, hA, he, hlt, hy, hr⟩ := hcells j (by rw [hs]; omega)
 rw [hc] at hr
 have hr' : y = .int .u8 ((l.getD (off + j) 0).toNat : Int) := hr
 refine ⟨a, hA, ?_⟩
 rw [hy, hr']
 congr 4
 simp [List.getD_eq_getElem?_getD, List.getElem?_drop, hj]
theorem convA_ok {C : Ctx} {o : Oper} {s d : TypeId} {x : Operand} (ho : o.op = .convert s d x) {fr : Fr} {O : Hp} {k : OpK}
  (h : convA C O s d (Fr.ev C fr x) fun r => k fr r O) : OpOK C o fr O k := by
 have hs_of : ∀ {E : Env} {β : Loc} {a : Act} {w : World}, St C E β fr O a w -> (C.ty s).isSome = true -> ∃ u, C.P.underlying s = some u := by
  intro E β a w hst hs
  obtain ⟨ty, hty⟩ := Option.isSome_iff_exists.1 hs
  have := (hst.ty hty).2
  revert this
  cases ty.d <;> intro this <;> first
   | exact ⟨_, this⟩
   | (obtain ⟨gs, h1, _⟩ := this; exact ⟨_, h1⟩)
   | (obtain ⟨_, _, _, h1⟩ := this; exact ⟨_, h1⟩)
 unfold convA at h
 split at h
 ·rename_i kd hd
  obtain ⟨hs, h⟩ := h
  split at h
  ·rename_i y hx
   split at h
   ·rename_i r hr
    intro E β a w hst K Q hK
    obtain ⟨us, hus⟩ := hs_of hst hs
    obtain ⟨ty, hty, hdd⟩ := Option.map_eq_some_iff.1 hd
    have hu := (hst.ty hty).2
    rw [hdd] at hu
    have hxr := hst.ev x
    rw [hx] at hxr
    rcases convN_rep hr hxr with ⟨kk, n, e, hr'⟩ | ⟨kk, b, n, e, rfl, hn, hr'⟩
    ·have hrun : (execOp a.eval o).run C.P w = .ok (.value (.int kd (kd.wrap n))) w := by
      simp only [execOp, ho]
      exact run_v (by rw [e]; simp [convert, run_underlying hus, run_underlying hu, Conv.intToInt])
     unfold Oper.wp
     rw [hrun]
     exact hK fr _ O β w _ h hst hr' (fun _ => rfl)
    ·have hrun : (execOp a.eval o).run C.P w = .ok (.value (.int .i64 n)) w := by
      simp only [execOp, ho]
      exact run_v (by rw [e]; simp [convert, run_underlying hus, run_underlying hu, fltInt_run hn])
     unfold Oper.wp
     rw [hrun]
     exact hK fr _ O β w _ h hst hr' (fun _ => rfl)
   ·exact h.elim
  ·exact h.elim
 ·rename_i hd
  have hd_of : ∀ {E : Env} {β : Loc} {a : Act} {w : World}, St C E β fr O a w -> C.P.underlying d = some .string := by
   intro E β a w hst
   obtain ⟨ty, hty, hdd⟩ := Option.map_eq_some_iff.1 hd
   have hu := (hst.ty hty).2
   rw [hdd] at hu
   exact hu
  split at h
  ·rename_i l hx
   obtain ⟨hs, h⟩ := h
   refine OpOK.val _ h fun E β a w hst => ⟨.string ⟨l.toArray⟩, ?_, rfl⟩
   obtain ⟨us, hus⟩ := hs_of hst hs
   have hxr := hst.ev x
   rw [hx] at hxr
   have e : a.eval x = .string ⟨l.toArray⟩ := hxr
   simp only [execOp, ho]
   exact run_v (by rw [e]; simp [convert, run_underlying hus, run_underlying (hd_of hst)])
  ·rename_i l hx
   obtain ⟨hs, h⟩ := h
   refine OpOK.val _ h fun E β a w hst => ⟨.string ⟨l.toArray⟩, ?_, rfl⟩
   obtain ⟨e, h1, h2⟩ := isBs_spec hst hs
   have hxr := hst.ev x
   rw [hx] at hxr
   obtain ⟨_, A, c, he, _, hc⟩ := hxr
   simp only [execOp, ho]
   exact run_v (by rw [he]; exact run_bytes_string h1 h2 (hd_of hst) w A l c fun j hj => let ⟨a, hA, _, hy⟩ := hc j hj; ⟨a, hA, hy⟩)
  ·rename_i hx
   obtain ⟨hs, h⟩ := h
   refine OpOK.val _ h fun E β a w hst => ⟨.string ⟨([] : List UInt8).toArray⟩, ?_, rfl⟩
   obtain ⟨e, h1, h2⟩ := isBs_spec hst hs
   have hxr := hst.ev x
   rw [hx] at hxr
   have he : a.eval x = .slice none ([] : List UInt8).length 0 := hxr
   simp only [execOp, ho]
   exact run_v (by rw [he]; exact run_bytes_string h1 h2 (hd_of hst) w none [] 0 fun j hj => by simp at hj)
  ·rename_i t off n hx
   split at h
   ·rename_i ob hob
    split at h
    ·rename_i l hl
     obtain ⟨hs, h⟩ := h
     refine OpOK.val _ h fun E β a w hst => ⟨.string ⟨((l.drop off).take n).toArray⟩, ?_, rfl⟩
     obtain ⟨e, h1, h2⟩ := isBs_spec hst hs
     have hxr := hst.ev x
     rw [hx] at hxr
     obtain ⟨A, c, he, _, _, hc⟩ := hst.core.own_bs hob hl hxr
     simp only [execOp, ho]
     exact run_v (by rw [he]; exact run_bytes_string h1 h2 (hd_of hst) w A _ c hc)
    ·exact h.elim
   ·exact h.elim
  ·exact h.elim
 ·rename_i kd hd
  obtain ⟨hs, h⟩ := h
  split at h
  ·rename_i kk n hx
   refine OpOK.val _ h fun E β a w hst => ⟨.float kd (kd.nearest n), ?_, rfl⟩
   obtain ⟨us, hus⟩ := hs_of hst hs
   obtain ⟨ty, hty, hdd⟩ := Option.map_eq_some_iff.1 hd
   have hu := (hst.ty hty).2
   rw [hdd] at hu
   have hxr := hst.ev x
   rw [hx] at hxr
   have e : a.eval x = .int kk n := hxr
   simp only [execOp, ho]
   exact run_v (by rw [e]; simp [convert, run_underlying hus, run_underlying hu, Conv.intToFloat])
  ·exact h.elim
 ·exact h.elim
theorem extractA_ok {C : Ctx} {o : Oper} {x : Operand} {i : Nat} (ho : o.op = .extract x i) {fr : Fr} {O : Hp} {k : OpK} {n : Nat} {f : Nat -> BV} (hx : Fr.ev C fr x = .tup n f) (hi : i < n) (h : k fr (f i) O) : OpOK C o fr O k := by
 refine OpOK.val _ h fun E β a w hst => ?_
 have hxr := hst.ev x
 rw [hx] at hxr
 obtain ⟨vs, he, hs, hc⟩ := hxr
 obtain ⟨y, hy, hr⟩ := hc i hi
 refine ⟨y, ?_, hr⟩
 simp [execOp, ho, he, Instr.extract, hy]
def nilChkA (x : BV) (kk : BV -> Prop) : Prop :=
 match x with
 | .ptr t off => kk (.ptr t off)
 | .rp m f => kk (.rp m f)
 | .clo fn caps => kk (.clo fn caps)
 | .p (.pp y) => kk (.p (.pp y))
 | _ => False
theorem nilChkA_ok {C : Ctx} {o : Oper} {x : Operand} (ho : o.op = .nilCheck x) {fr : Fr} {O : Hp} {k : OpK} (h : nilChkA (Fr.ev C fr x) fun r => k fr r O) : OpOK C o fr O k := by
 unfold nilChkA at h
 split at h
 ·rename_i t off hx
  refine OpOK.val _ h fun E β a w hst => ?_
  have hxr := hst.ev x
  rw [hx] at hxr
  refine ⟨a.eval x, ?_, hxr⟩
  obtain ⟨ob, _, _, _, e⟩ := hxr
  simp [execOp, ho, e]
 ·rename_i m f hx
  refine OpOK.val _ h fun E β a w hst => ?_
  have hxr := hst.ev x
  rw [hx] at hxr
  refine ⟨a.eval x, ?_, hxr⟩
  obtain ⟨ad, e, _⟩ := hxr
  simp [execOp, ho, e]
 ·rename_i fn caps hx
  refine OpOK.val _ h fun E β a w hst => ?_
  have hxr := hst.ev x
  rw [hx] at hxr
  refine ⟨a.eval x, ?_, hxr⟩
  obtain ⟨vs, e, _⟩ := hxr
  simp [execOp, ho, e]
 ·rename_i y hx
  refine OpOK.val _ h fun E β a w hst => ?_
  have hxr := hst.ev x
  rw [hx] at hxr
  refine ⟨a.eval x, ?_, hxr⟩
  obtain ⟨ad, _, e, _⟩ := hxr
  simp [execOp, ho, e]
 ·exact h.elim
def pvs : List BV -> Nat -> Option (List PV)
 | _, 0 => some []
 | [], _ + 1 => none
 | .p x :: r, n + 1 => (pvs r n).map (x :: ·)
 | _ :: _, _ + 1 => none
theorem pvs_get : ∀ (l : List BV) (n : Nat) (ps : List PV), pvs l n = some ps -> ps.length = n /\ ∀ j, j < n -> ∃ x, ps[j]? = some x /\ l[j]? = some (.p x)
 | _, 0, ps, h => by simp [pvs] at h; subst h; exact ⟨rfl, fun j hj => by omega⟩
 | [], _ + 1, _, h => by simp [pvs] at h
 | .p x :: r, n + 1, ps, h => by
  simp only [pvs] at h
  obtain ⟨qs, h1, rfl⟩ := Option.map_eq_some_iff.1 h
  obtain ⟨h2, h3⟩ := pvs_get r n qs h1
  refine ⟨by simp [h2], fun j hj => ?_⟩
  cases j with
  | zero => exact ⟨x, rfl, rfl⟩
  | succ j => obtain ⟨y, h4, h5⟩ := h3 j (by omega); exact ⟨y, by simpa using h4, by simpa using h5⟩
 | .dead :: _, _ + 1, _, h => by simp [pvs] at h
 | .own _ _ _ :: _, _ + 1, _, h => by simp [pvs] at h
 | .ptr _ _ :: _, _ + 1, _, h => by simp [pvs] at h
 | .rp _ _ :: _, _ + 1, _, h => by simp [pvs] at h
 | .agg _ _ :: _, _ + 1, _, h => by simp [pvs] at h
 | .clo _ _ :: _, _ + 1, _, h => by simp [pvs] at h
 | .mv _ _ _ :: _, _ + 1, _, h => by simp [pvs] at h
 | .tup _ _ :: _, _ + 1, _, h => by simp [pvs] at h
 | .ag _ _ :: _, _ + 1, _, h => by simp [pvs] at h
def OC.plain (c : OC) (off n : Nat) : Option (Nat -> PV) :=
 match c with
 | .bs l => some fun j => .u8 (l.getD (off + j) 0)
 | .rows f => some fun j => f (off + j)
 | .cells l => (pvs (l.drop off) n).map fun ps => fun j => ps.getD j (.v undef)
theorem OC.plain_get {c : OC} {off n : Nat} {f : Nat -> PV} (h : c.plain off n = some f) : ∀ j, j < n -> c.get (off + j) = .p (f j) := by
 intro j hj
 cases c with
 | bs l => simp only [OC.plain, Option.some.injEq] at h; subst h; rfl
 | rows g => simp only [OC.plain, Option.some.injEq] at h; subst h; rfl
 | cells l =>
  simp only [OC.plain] at h
  obtain ⟨ps, h1, rfl⟩ := Option.map_eq_some_iff.1 h
  obtain ⟨_, h2⟩ := pvs_get _ _ _ h1
  obtain ⟨x, h3, h4⟩ := h2 j hj
  rw [List.getElem?_drop] at h4
  simp only [OC.get, List.getD_eq_getElem?_getD, h4, h3, Option.getD_some]
def loadA (C : Ctx) (O : Hp) (T : TypeId) (x : BV) (kk : BV -> Prop) : Prop :=
 match C.ty T with
 | none => False
 | some ty =>
  match ty.d.agg, x with
  | true, .rp m f => ty.size <= m /\ kk (.agg ty.size f)
  | true, .ptr t off => match Hp.get O t with
   | some ob => match ob.c.plain off ty.size with
    | some f => off + ty.size <= ob.n /\ kk (.agg ty.size f)
    | none => off + ty.size <= ob.n /\ kk (.ag ty.size (fun j => ob.c.get (off + j)))
   | none => False
  | false, .rp m f => 0 < m /\ kk (.p (f 0))
  | false, .p (.pp y) => kk (.p y)
  | false, .ptr t off => match Hp.get O t with
   | some ob => off < ob.n /\ kk (ob.c.get off)
   | none => False
  | _, _ => False
theorem run_load_cell {P : Program} {T : TypeId} {ty : Ty} (h : TyOK P T ty) (hd : ty.d.agg = false) {w : World} {a : Addr} {v : Value} (hc : w.cell? a = some v) : (Instr.loadAt T (.pointer (some a))).run P w = .ok v w := by
 simp only [Instr.loadAt, Instr.sureAddr, loadVar, Sem.run_bind, Sem.run_pure, Result.andThen_ok, run_isAgg h, hd, Bool.false_eq_true, if_false, run_load, hc]
theorem run_load_agg {P : Program} {T : TypeId} {ty : Ty} (h : TyOK P T ty) (hd : ty.d.agg = true) {w : World} {a : Addr} (cs : List Value) (hl : cs.length = ty.size) (hc : ∀ j v, cs[j]? = some v -> w.cell? (a.add j) = some v) :
  (Instr.loadAt T (.pointer (some a))).run P w = .ok (.agg cs.toArray) w := by
 obtain ⟨i, h1, h2, _⟩ := h.info
 have hlc := run_loadCells_list (P := P) w a cs hc
 simp only [Instr.loadAt, Instr.sureAddr, loadVar, Sem.run_bind, Sem.run_pure, Result.andThen_ok, run_isAgg h, hd, if_true, sizeOf, typeInfo, run_program, h1, h2, <- hl, hlc]
theorem cells_list {w : World} {a : Addr} {n : Nat} {R : Nat -> Value -> Prop} (h : ∀ j, j < n -> ∃ y, w.cell? (a.add j) = some y /\ R j y) :
  ∃ cs : List Value, cs.length = n /\ (∀ j v, cs[j]? = some v -> w.cell? (a.add j) = some v) /\ ∀ j, j < n -> ∃ y, cs[j]? = some y /\ R j y := by
 refine ⟨(List.range n).map (fun j => (w.cell? (a.add j)).getD undef), by simp, fun j v hj => ?_, fun j hj => ?_⟩
 ·rw [List.getElem?_map] at hj
  obtain ⟨i, hi, rfl⟩ := Option.map_eq_some_iff.1 hj
  obtain ⟨hlt, hi'⟩ := List.getElem?_eq_some_iff.1 hi
  simp at hi' hlt
  subst hi'
  obtain ⟨y, hy, _⟩ := h j hlt
  rw [hy]; rfl
 ·obtain ⟨y, hy, hr⟩ := h j hj
  exact ⟨y, by simp [hj, hy], hr⟩
theorem loadA_ok {C : Ctx} {o : Oper} {T : TypeId} {x : Operand} (ho : o.op = .load T x) {fr : Fr} {O : Hp} {k : OpK} (h : loadA C O T (Fr.ev C fr x) fun r => k fr r O) : OpOK C o fr O k := by
 unfold loadA at h
 split at h
 ·exact h.elim
 ·rename_i ty hT
  split at h
  ·rename_i m f hd hx
   obtain ⟨hm, h⟩ := h
   refine OpOK.val _ h fun E β a w hst => ?_
   have hxr := hst.ev x
   rw [hx] at hxr
   obtain ⟨ad, e, hc⟩ := hxr
   obtain ⟨cs, hl, h1, h2⟩ := cells_list (w := w) (a := ad) (n := ty.size) (R := fun j y => (f j).Rep (Un E.N β O) w y) (fun j hj => (hc j (by omega)).2)
   refine ⟨.agg cs.toArray, ?_, cs.toArray, rfl, by simpa using hl, fun j hj => by simpa using h2 j hj⟩
   simp only [execOp, ho, e]
   exact run_v (run_load_agg (hst.ty hT) hd cs hl h1)
  ·rename_i t off hd hx
   split at h
   ·rename_i ob hob
    split at h
    ·rename_i f hf
     obtain ⟨hm, h⟩ := h
     refine OpOK.val _ h fun E β a w hst => ?_
     have hxr := hst.ev x
     rw [hx] at hxr
     obtain ⟨ob', hob', _, _, e⟩ := hxr
     obtain ⟨cs, hl, h1, h2⟩ := cells_list (w := w) (a := ⟨(β t).b, (β t).o + off, none⟩) (n := ty.size) (R := fun j y => (f j).Rep (Un E.N β O) w y) (fun j hj => by
      obtain ⟨u, hu, _, hr⟩ := hst.core.mem.cell hob (j := off + j) (by omega)
      rw [OC.plain_get hf j hj] at hr
      exact ⟨u, by rw [Addr.add_mid, Nat.add_assoc]; exact hu, hr⟩)
     refine ⟨.agg cs.toArray, ?_, cs.toArray, rfl, by simpa using hl, fun j hj => by simpa using h2 j hj⟩
     simp only [execOp, ho, e]
     exact run_v (run_load_agg (hst.ty hT) hd cs hl h1)
    ·obtain ⟨hm, h⟩ := h
     refine OpOK.val _ h fun E β a w hst => ?_
     have hxr := hst.ev x
     rw [hx] at hxr
     obtain ⟨ob', hob', _, _, e⟩ := hxr
     obtain ⟨cs, hl, h1, h2⟩ := cells_list (w := w) (a := ⟨(β t).b, (β t).o + off, none⟩) (n := ty.size) (R := fun j y => (ob.c.get (off + j)).Rep (Un E.N β O) β O w y) (fun j hj => by
      obtain ⟨u, hu, _, hr⟩ := hst.core.mem.cell hob (j := off + j) (by omega)
      exact ⟨u, by rw [Addr.add_mid, Nat.add_assoc]; exact hu, hr⟩)
     refine ⟨.agg cs.toArray, ?_, cs.toArray, rfl, by simpa using hl, fun j hj => by simpa using h2 j hj⟩
     simp only [execOp, ho, e]
     exact run_v (run_load_agg (hst.ty hT) hd cs hl h1)
   ·exact h.elim
  ·rename_i m f hd hx
   obtain ⟨hm, h⟩ := h
   refine OpOK.val _ h fun E β a w hst => ?_
   have hxr := hst.ev x
   rw [hx] at hxr
   obtain ⟨ad, e, hc⟩ := hxr
   obtain ⟨_, y, hy, hr⟩ := hc 0 hm
   have h0 : ad.add 0 = ad := by simp [Addr.add]
   rw [h0] at hy
   refine ⟨y, ?_, hr⟩
   simp only [execOp, ho, e]
   exact run_v (run_load_cell (hst.ty hT) hd hy)
  ·rename_i y hd hx
   refine OpOK.val _ h fun E β a w hst => ?_
   have hxr := hst.ev x
   rw [hx] at hxr
   obtain ⟨ad, z, e, _, hz, hr⟩ := hxr
   refine ⟨z, ?_, hr⟩
   simp only [execOp, ho, e]
   exact run_v (run_load_cell (hst.ty hT) hd hz)
  ·rename_i t off hd hx
   split at h
   ·rename_i ob hob
    obtain ⟨hm, h⟩ := h
    refine OpOK.val _ h fun E β a w hst => ?_
    have hxr := hst.ev x
    rw [hx] at hxr
    obtain ⟨ob', hob', _, _, e⟩ := hxr
    obtain ⟨u, hu, _, hr⟩ := hst.core.mem.cell hob hm
    refine ⟨u, ?_, hr⟩
    simp only [execOp, ho, e]
    exact run_v (run_load_cell (hst.ty hT) hd hu)
   ·exact h.elim
  ·exact h.elim
def BV.toI : BV -> Option Int
 | .p x => x.toI
 | _ => none
theorem BV.toI_rep {U : Addr -> Prop} {β : Loc} {O : Hp} {w : World} {x : BV} {u : Value} {n : Int} (h : x.toI = some n) (hx : x.Rep U β O w u) : ∃ k, u = .int k n := by
 cases x <;> simp only [BV.toI, reduceCtorEq] at h
 exact PV.toI_rep h hx
def elt (C : Ctx) (T : TypeId) : Option (Bool × Nat) := (C.ty T).map fun ty => (ty.d.agg, ty.size)
def rpAt (f : Nat -> PV) (i s : Nat) : Nat -> PV := if s = 1 then fun _ => f i else fun j => f (i * s + j)
theorem rpAt_eq {f : Nat -> PV} {i s j : Nat} (h : j < s) : rpAt f i s j = f (i * s + j) := by
 unfold rpAt
 split
 ·rename_i h1; subst h1
  obtain rfl : j = 0 := by omega
  simp
 ·rfl
def ixA (C : Ctx) (O : Hp) (T : TypeId) (x i : BV) (kk : BV -> Prop) : Prop :=
 match i.toI with
 | none => False
 | some i =>
  match ((C.ty T).map (·.d) : Option TyD) with
  | some (.slice e) => match elt C e with
   | none => False
   | some (_, s) => match x with
    | .p (.sl n s' f) => (0 <= i /\ i < n) /\ s' = s /\ 0 < s /\ kk (.rp s (rpAt f i.toNat s))
    | .p (.bs l) => (0 <= i /\ i < l.length) /\ s = 1 /\ kk (.rp 1 (fun _ => .u8 (l.getD i.toNat 0)))
    | .own t off n => match Hp.get O t with
     | some ob => (0 <= i /\ i < n) /\ ob.s = s /\ kk (.ptr t (off + i.toNat * s))
     | none => False
    | _ => False
  | some (.array n e) => match elt C e with
   | none => False
   | some (_, s) => match x with
    | .rp m f => (0 <= i /\ i < n) /\ n * s <= m /\ kk (.rp s (rpAt f i.toNat s))
    | .ptr t off => match Hp.get O t with
     | some ob => (0 <= i /\ i < n) /\ off + n * s <= ob.n /\ kk (.ptr t (off + i.toNat * s))
     | none => False
    | _ => False
  | _ => False
theorem elt_spec {C : Ctx} {E : Env} {β : Loc} {fr : Fr} {O : Hp} {a : Act} {w : World} (hst : St C E β fr O a w) {T : TypeId} {b : Bool} {s : Nat} (h : elt C T = some (b, s)) :
  ∃ ty, C.ty T = some ty /\ ty.d.agg = b /\ ty.size = s /\ ∃ i, C.P.info? T = some i /\ i.size = s := by
 obtain ⟨ty, hty, h1⟩ := Option.map_eq_some_iff.1 h
 cases h1
 obtain ⟨i, h2, h3, _⟩ := (hst.ty hty).info
 exact ⟨ty, hty, rfl, rfl, i, h2, h3⟩
theorem mul_lt_of {i n s m : Nat} (hi : i < n) (hm : n * s <= m) {j : Nat} (hj : j < s) : i * s + j < m := by
 have h1 : (i + 1) * s <= n * s := Nat.mul_le_mul_right s hi
 rw [Nat.add_mul, Nat.one_mul] at h1
 omega
theorem add_add {a : Addr} {i j : Nat} : (a.add i).add j = a.add (i + j) := by
 unfold Addr.add
 by_cases h1 : i = 0 <;> by_cases h2 : j = 0 <;> simp [h1, h2, Nat.add_assoc]
def sapA (C : Ctx) (O : Hp) (T : TypeId) (x : BV) (kk : BV -> Prop) : Prop :=
 match ((C.ty T).map (·.d) : Option TyD) with
 | some (.array m _) => match x with
  | .p (.bs l) => (0 < m /\ m <= l.length) /\ kk (.rp l.length (fun j => .u8 (l.getD j 0)))
  | .own t off n => match Hp.get O t with
   | some _ => (0 < m /\ m <= n) /\ kk (.ptr t off)
   | none => False
  | _ => False
 | _ => False
theorem sapA_ok {C : Ctx} {o : Oper} {T : TypeId} {x : Operand} (ho : o.op = .sliceToArrayPointer T x) {fr : Fr} {O : Hp} {k : OpK} (h : sapA C O T (Fr.ev C fr x) fun r => k fr r O) : OpOK C o fr O k := by
 unfold sapA at h
 split at h
 ·rename_i m e hT
  have hT_of : ∀ {E : Env} {β : Loc} {a : Act} {w : World}, St C E β fr O a w -> C.P.underlying T = some (.array m e) := by
   intro E β a w hst
   obtain ⟨ty, hty, hd⟩ := Option.map_eq_some_iff.1 hT
   have := (hst.ty hty).2
   rw [hd] at this
   exact this
  have hrun : ∀ {E : Env} {β : Loc} {a : Act} {w : World}, St C E β fr O a w -> ∀ (A : Option Addr) (n c : Nat), a.eval x = .slice A n c -> m <= n ->
    (execOp a.eval o).run C.P w = .ok (.value (.pointer A)) w := by
   intro E β a w hst A n c hx h0
   simp only [execOp, ho]
   refine run_v ?_
   rw [hx]
   have : ¬ n < m := by omega
   simp [Instr.arrayAt, run_underlying (hT_of hst), this]
  split at h
  ·rename_i l hx
   obtain ⟨⟨h0, h1⟩, h⟩ := h
   refine OpOK.val _ h fun E β a w hst => ?_
   have hxr := hst.ev x
   rw [hx] at hxr
   obtain ⟨hn, A, c, ev, hcap, hc⟩ := hxr
   obtain ⟨ad, rfl, _⟩ := hc 0 (by omega)
   refine ⟨_, hrun hst _ _ c ev h1, ad, rfl, fun j hj => ?_⟩
   obtain ⟨ad', e1, hU, hy⟩ := hc j hj
   cases e1
   exact ⟨hU, _, hy, rfl⟩
  ·rename_i t off n hx
   split at h
   ·rename_i ob hob
    obtain ⟨⟨h0, h1⟩, h⟩ := h
    refine OpOK.val _ h fun E β a w hst => ?_
    have hxr := hst.ev x
    rw [hx] at hxr
    obtain ⟨hn, h2⟩ := hxr
    rcases h2 with ⟨ob', c, E0, sz, hob', hre, ev, hcap, hfit, _, _⟩ | ⟨rfl, _⟩
    ·rw [hob] at hob'; cases hob'
     exact ⟨_, hrun hst _ n c ev h1, ob, hob, hre, by omega, rfl⟩
    ·omega
   ·exact h.elim
  ·exact h.elim
 ·exact h.elim
theorem ixA_ok {C : Ctx} {o : Oper} {T : TypeId} {x i : Operand} (ho : o.op = .indexAddr T x i) {fr : Fr} {O : Hp} {k : OpK} (h : ixA C O T (Fr.ev C fr x) (Fr.ev C fr i) fun r => k fr r O) : OpOK C o fr O k := by
 unfold ixA at h
 split at h
 ·exact h.elim
 ·rename_i ii hi
  have hi_of : ∀ {E : Env} {β : Loc} {a : Act} {w : World}, St C E β fr O a w -> ∃ kk, a.eval i = .int kk ii := fun hst => BV.toI_rep hi (hst.ev i)
  split at h
  ·rename_i e hT
   have hT_of : ∀ {E : Env} {β : Loc} {a : Act} {w : World}, St C E β fr O a w -> C.P.underlying T = some (.slice e) := by
    intro E β a w hst
    obtain ⟨ty, hty, hd⟩ := Option.map_eq_some_iff.1 hT
    have := (hst.ty hty).2
    rw [hd] at this
    exact this
   split at h
   ·exact h.elim
   ·rename_i bb s he
    have hrun : ∀ {E : Env} {β : Loc} {a : Act} {w : World}, St C E β fr O a w -> ∀ (ad : Addr) (n c : Nat), a.eval x = .slice (some ad) n c -> 0 <= ii -> ii < n ->
      (execOp a.eval o).run C.P w = .ok (.value (.pointer (some (ad.add (ii.toNat * s))))) w := by
     intro E β a w hst ad n c hx h0 h1
     obtain ⟨kk, hk⟩ := hi_of hst
     obtain ⟨ty, hty, _, _, inf, hinf, hs⟩ := elt_spec hst he
     simp only [execOp, ho]
     refine run_v ?_
     rw [hx, hk]
     simp [Instr.indexAt, asIntOf, run_underlying (hT_of hst), h0, h1, sizeOf, typeInfo, hinf, hs]
    split at h
    ·rename_i n s' f hx
     obtain ⟨⟨h0, h1⟩, rfl, hsp, h⟩ := h
     refine OpOK.val _ h fun E β a w hst => ?_
     have hxr := hst.ev x
     rw [hx] at hxr
     obtain ⟨hn, A, c, ev, hcap, hc⟩ := hxr
     have hlt : ii.toNat < n := by omega
     obtain ⟨ad, _, rfl, _⟩ := hc 0 (Nat.mul_pos (by omega) hsp)
     refine ⟨_, hrun hst ad n c ev h0 h1, _, rfl, fun j hj => ?_⟩
     obtain ⟨ad', y, e1, hU, hy, hr⟩ := hc (ii.toNat * s' + j) (mul_lt_of hlt (Nat.le_refl _) hj)
     cases e1
     rw [add_add, rpAt_eq hj]
     exact ⟨hU, y, hy, hr⟩
    ·rename_i l hx
     obtain ⟨⟨h0, h1⟩, rfl, h⟩ := h
     refine OpOK.val _ h fun E β a w hst => ?_
     have hxr := hst.ev x
     rw [hx] at hxr
     obtain ⟨hn, A, c, ev, hcap, hc⟩ := hxr
     have hlt : ii.toNat < l.length := by omega
     obtain ⟨ad, rfl, hU, hy⟩ := hc ii.toNat hlt
     refine ⟨_, hrun hst ad _ c ev h0 h1, _, rfl, fun j hj => ?_⟩
     obtain rfl : j = 0 := by omega
     rw [add_add, Nat.mul_one, Nat.add_zero]
     exact ⟨hU, _, hy, rfl⟩
    ·rename_i t off n hx
     split at h
     ·rename_i ob hob
      obtain ⟨⟨h0, h1⟩, rfl, h⟩ := h
      refine OpOK.val _ h fun E β a w hst => ?_
      have hxr := hst.ev x
      rw [hx] at hxr
      obtain ⟨hn, h2⟩ := hxr
      rcases h2 with ⟨ob', c, E0, sz, hob', hre, ev, hcap, hfit, _, _⟩ | ⟨rfl, _⟩
      ·rw [hob] at hob'; cases hob'
       have hlt : ii.toNat < n := by omega
       have hle : ii.toNat * ob.s <= n * ob.s := Nat.mul_le_mul_right _ (Nat.le_of_lt hlt)
       refine ⟨_, hrun hst _ n c ev h0 h1, ob, hob, hre, by omega, ?_⟩
       rw [Addr.add_mid, Nat.add_assoc]
      ·omega
     ·exact h.elim
    ·exact h.elim
  ·rename_i n e hT
   have hT_of : ∀ {E : Env} {β : Loc} {a : Act} {w : World}, St C E β fr O a w -> C.P.underlying T = some (.array n e) := by
    intro E β a w hst
    obtain ⟨ty, hty, hd⟩ := Option.map_eq_some_iff.1 hT
    have := (hst.ty hty).2
    rw [hd] at this
    exact this
   split at h
   ·exact h.elim
   ·rename_i bb s he
    have hrun : ∀ {E : Env} {β : Loc} {a : Act} {w : World}, St C E β fr O a w -> ∀ (ad : Addr), a.eval x = .pointer (some ad) -> 0 <= ii -> ii < n ->
      (execOp a.eval o).run C.P w = .ok (.value (.pointer (some (ad.add (ii.toNat * s))))) w := by
     intro E β a w hst ad hx h0 h1
     obtain ⟨kk, hk⟩ := hi_of hst
     obtain ⟨ty, hty, _, _, inf, hinf, hs⟩ := elt_spec hst he
     simp only [execOp, ho]
     refine run_v ?_
     rw [hx, hk]
     simp [Instr.indexAt, asIntOf, Instr.sureAddr, run_underlying (hT_of hst), h0, h1, sizeOf, typeInfo, hinf, hs]
    split at h
    ·rename_i m f hx
     obtain ⟨⟨h0, h1⟩, hm, h⟩ := h
     refine OpOK.val _ h fun E β a w hst => ?_
     have hxr := hst.ev x
     rw [hx] at hxr
     obtain ⟨ad, ev, hc⟩ := hxr
     have hlt : ii.toNat < n := by omega
     refine ⟨_, hrun hst ad ev h0 h1, _, rfl, fun j hj => ?_⟩
     rw [add_add, rpAt_eq hj]
     exact hc _ (mul_lt_of hlt hm hj)
    ·rename_i t off hx
     split at h
     ·rename_i ob hob
      obtain ⟨⟨h0, h1⟩, hm, h⟩ := h
      refine OpOK.val _ h fun E β a w hst => ?_
      have hxr := hst.ev x
      rw [hx] at hxr
      obtain ⟨ob', hob', hre, _, ev⟩ := hxr
      have hlt : ii.toNat < n := by omega
      have hle : ii.toNat * s <= n * s := Nat.mul_le_mul_right _ (Nat.le_of_lt hlt)
      refine ⟨_, hrun hst _ ev h0 h1, ob, hob, hre, by omega, ?_⟩
      rw [Addr.add_mid, Nat.add_assoc]
     ·exact h.elim
    ·exact h.elim
  ·exact h.elim
def partA (C : Ctx) (n : Nat) (f : Nat -> PV) (T : TypeId) (off : Nat) (kk : BV -> Prop) : Prop :=
 match elt C T with
 | none => False
 | some (true, s) => off + s <= n /\ kk (.agg s (fun j => f (off + j)))
 | some (false, _) => off < n /\ kk (.p (f off))
theorem partA_run {C : Ctx} {E : Env} {β : Loc} {fr : Fr} {O : Hp} {a : Act} {w : World} (hst : St C E β fr O a w) {n : Nat} {f : Nat -> PV} {T : TypeId} {off : Nat} {kk : BV -> Prop} (h : partA C n f T off kk) {cs : Array Value} (hs : cs.size = n)
  (hc : ∀ j, j < n -> ∃ y, cs[j]? = some y /\ (f j).Rep (Un E.N β O) w y) : ∃ x u, kk x /\ (part T cs off).run C.P w = .ok u w /\ x.Rep (Un E.N β O) β O w u := by
 unfold partA at h
 split at h
 ·exact h.elim
 ·rename_i s he
  obtain ⟨hm, h⟩ := h
  obtain ⟨ty, hty, hd, _, i, hi, his⟩ := elt_spec hst he
  refine ⟨_, .agg (cs.extract off (off + s)), h, ?_, _, rfl, by simp; omega, fun j hj => ?_⟩
  ·simp [part, run_isAgg (hst.ty hty), hd, sizeOf, typeInfo, hi, his]
  ·obtain ⟨y, hy, hr⟩ := hc (off + j) (by omega)
   refine ⟨y, ?_, hr⟩
   rw [Array.getElem?_extract]
   rw [if_pos (by omega)]
   exact hy
 ·rename_i s he
  obtain ⟨hm, h⟩ := h
  obtain ⟨ty, hty, hd, _, _⟩ := elt_spec hst he
  obtain ⟨y, hy, hr⟩ := hc off hm
  refine ⟨_, y, h, ?_, hr⟩
  simp [part, run_isAgg (hst.ty hty), hd, hy]
def partB (C : Ctx) (n : Nat) (f : Nat -> BV) (T : TypeId) (off : Nat) (kk : BV -> Prop) : Prop :=
 match elt C T with
 | none => False
 | some (true, s) => off + s <= n /\ kk (.ag s (fun j => f (off + j)))
 | some (false, _) => off < n /\ kk (f off)
theorem partB_run {C : Ctx} {E : Env} {β : Loc} {fr : Fr} {O : Hp} {a : Act} {w : World} (hst : St C E β fr O a w) {n : Nat} {f : Nat -> BV} {T : TypeId} {off : Nat} {kk : BV -> Prop} (h : partB C n f T off kk) {cs : Array Value} (hs : cs.size = n)
  (hc : ∀ j, j < n -> ∃ y, cs[j]? = some y /\ (f j).Rep (Un E.N β O) β O w y) : ∃ x u, kk x /\ (part T cs off).run C.P w = .ok u w /\ x.Rep (Un E.N β O) β O w u := by
 unfold partB at h
 split at h
 ·exact h.elim
 ·rename_i s he
  obtain ⟨hm, h⟩ := h
  obtain ⟨ty, hty, hd, _, i, hi, his⟩ := elt_spec hst he
  refine ⟨_, .agg (cs.extract off (off + s)), h, ?_, _, rfl, by simp; omega, fun j hj => ?_⟩
  ·simp [part, run_isAgg (hst.ty hty), hd, sizeOf, typeInfo, hi, his]
  ·obtain ⟨y, hy, hr⟩ := hc (off + j) (by omega)
   refine ⟨y, ?_, hr⟩
   rw [Array.getElem?_extract]
   rw [if_pos (by omega)]
   exact hy
 ·rename_i s he
  obtain ⟨hm, h⟩ := h
  obtain ⟨ty, hty, hd, _, _⟩ := elt_spec hst he
  obtain ⟨y, hy, hr⟩ := hc off hm
  refine ⟨_, y, h, ?_, hr⟩
  simp [part, run_isAgg (hst.ty hty), hd, hy]
def fieldA (C : Ctx) (T : TypeId) (x : BV) (i : Nat) (kk : BV -> Prop) : Prop :=
 match ((C.ty T).map (·.d) : Option TyD), x with
 | some (.struct fs), .agg n f => match fs[i]? with
  | some (off, ft) => partA C n f ft off kk
  | none => False
 | some (.struct fs), .ag n f => match fs[i]? with
  | some (off, ft) => partB C n f ft off kk
  | none => False
 | _, _ => False
theorem struct_spec {C : Ctx} {E : Env} {β : Loc} {fr : Fr} {O : Hp} {a : Act} {w : World} (hst : St C E β fr O a w) {T : TypeId} {fs : List (Nat × TypeId)} (hT : ((C.ty T).map (·.d) : Option TyD) = some (.struct fs)) {i off : Nat} {ft : TypeId} (hi : fs[i]? = some (off, ft)) :
  ∃ (gs : Array Field) (g : Field), C.P.underlying T = some (.struct gs) /\ gs[i]? = some g /\ g.offset = off /\ g.type = ft := by
 obtain ⟨ty, hty, hd⟩ := Option.map_eq_some_iff.1 hT
 have := (hst.ty hty).2
 rw [hd] at this
 obtain ⟨gs, h1, h2⟩ := this
 rw [<- h2, List.getElem?_map] at hi
 obtain ⟨g, h3, h4⟩ := Option.map_eq_some_iff.1 hi
 cases h4
 exact ⟨gs, g, h1, by simpa using h3, rfl, rfl⟩
theorem fieldA_ok {C : Ctx} {o : Oper} {T : TypeId} {x : Operand} {i : Nat} (ho : o.op = .field T x i) {fr : Fr} {O : Hp} {k : OpK} (h : fieldA C T (Fr.ev C fr x) i fun r => k fr r O) : OpOK C o fr O k := by
 unfold fieldA at h
 split at h
 ·rename_i fs n f hT hx
  split at h
  ·rename_i off ft hi
   intro E β a w hst K Q hK
   have hxr := hst.ev x
   rw [hx] at hxr
   obtain ⟨cs, ev, hs, hc⟩ := hxr
   obtain ⟨gs, g, h1, h2, rfl, rfl⟩ := struct_spec hst hT hi
   obtain ⟨y, u, hk, hr, hy⟩ := partA_run hst h hs hc
   have hrun : (execOp a.eval o).run C.P w = .ok (.value u) w := by
    simp only [execOp, ho]
    refine run_v ?_
    rw [ev]
    simp [Instr.field, run_underlying h1, h2, asAgg, hr]
   unfold Oper.wp
   rw [hrun]
   exact hK fr _ O β w _ hk hst hy (fun _ => rfl)
  ·exact h.elim
 ·rename_i fs n f hT hx
  split at h
  ·rename_i off ft hi
   intro E β a w hst K Q hK
   have hxr := hst.ev x
   rw [hx] at hxr
   obtain ⟨cs, ev, hs, hc⟩ := hxr
   obtain ⟨gs, g, h1, h2, rfl, rfl⟩ := struct_spec hst hT hi
   obtain ⟨y, u, hk, hr, hy⟩ := partB_run hst h hs hc
   have hrun : (execOp a.eval o).run C.P w = .ok (.value u) w := by
    simp only [execOp, ho]
    refine run_v ?_
    rw [ev]
    simp [Instr.field, run_underlying h1, h2, asAgg, hr]
   unfold Oper.wp
   rw [hrun]
   exact hK fr _ O β w _ hk hst hy (fun _ => rfl)
  ·exact h.elim
 ·exact h.elim
def indexA (C : Ctx) (T : TypeId) (x i : BV) (kk : BV -> Prop) : Prop :=
 match i.toI with
 | none => False
 | some i =>
  match ((C.ty T).map (·.d) : Option TyD), x with
  | some (.array m e), .agg n f => match elt C e with
   | some (_, s) => (0 <= i /\ i < m) /\ partA C n f e (i.toNat * s) kk
   | none => False
  | some .string, .p (.str l) => (0 <= i /\ i < l.length) /\ kk (.p (.u8 (l.getD i.toNat 0)))
  | _, _ => False
theorem indexA_ok {C : Ctx} {o : Oper} {T : TypeId} {x i : Operand} (ho : o.op = .index T x i) {fr : Fr} {O : Hp} {k : OpK} (h : indexA C T (Fr.ev C fr x) (Fr.ev C fr i) fun r => k fr r O) : OpOK C o fr O k := by
 unfold indexA at h
 split at h
 ·exact h.elim
 ·rename_i ii hi
  have hi_of : ∀ {E : Env} {β : Loc} {a : Act} {w : World}, St C E β fr O a w -> ∃ kk, a.eval i = .int kk ii := fun hst => BV.toI_rep hi (hst.ev i)
  split at h
  ·rename_i m e n f hT hx
   split at h
   ·rename_i bb s he
    obtain ⟨⟨h0, h1⟩, h⟩ := h
    intro E β a w hst K Q hK
    have hxr := hst.ev x
    rw [hx] at hxr
    obtain ⟨cs, ev, hs, hc⟩ := hxr
    obtain ⟨kk, hk⟩ := hi_of hst
    obtain ⟨ty, hty, _, _, inf, hinf, his⟩ := elt_spec hst he
    have hTT : C.P.underlying T = some (.array m e) := by
     obtain ⟨ty, hty, hd⟩ := Option.map_eq_some_iff.1 hT
     have := (hst.ty hty).2
     rw [hd] at this
     exact this
    obtain ⟨y, u, hkk, hr, hy⟩ := partA_run hst h hs hc
    have hrun : (execOp a.eval o).run C.P w = .ok (.value u) w := by
     simp only [execOp, ho]
     refine run_v ?_
     rw [ev, hk]
     simp [Instr.index, asIntOf, run_underlying hTT, h0, h1, sizeOf, typeInfo, hinf, his, hr]
    unfold Oper.wp
    rw [hrun]
    exact hK fr _ O β w _ hkk hst hy (fun _ => rfl)
   ·exact h.elim
  ·rename_i l hT hx
   obtain ⟨⟨h0, h1⟩, h⟩ := h
   refine OpOK.val _ h fun E β a w hst => ?_
   have hxr := hst.ev x
   rw [hx] at hxr
   have ev : a.eval x = .string ⟨l.toArray⟩ := hxr
   obtain ⟨kk, hk⟩ := hi_of hst
   have hTT : C.P.underlying T = some .string := by
    obtain ⟨ty, hty, hd⟩ := Option.map_eq_some_iff.1 hT
    have := (hst.ty hty).2
    rw [hd] at this
    exact this
   have hlt : ii.toNat < l.length := by omega
   refine ⟨.int .u8 ((l.getD ii.toNat 0).toNat : Int), ?_, rfl⟩
   simp only [execOp, ho]
   refine run_v ?_
   rw [ev, hk]
   have hb : (⟨l.toArray⟩ : ByteArray)[ii.toNat]? = some (l.getD ii.toNat 0) := by
    have hsz : ii.toNat < (⟨l.toArray⟩ : ByteArray).size := by simpa [ByteArray.size] using hlt
    rw [getElem?_pos (⟨l.toArray⟩ : ByteArray) ii.toNat hsz]
    congr 1
    show l.toArray[ii.toNat] = _
    simp [List.getD_eq_getElem?_getD, List.getElem?_eq_getElem hlt]
   simp [Instr.index, asIntOf, run_underlying hTT, h0, hb]
  ·exact h.elim
def fadA (C : Ctx) (O : Hp) (T : TypeId) (x : BV) (i : Nat) (kk : BV -> Prop) : Prop :=
 match ((C.ty T).map (·.d) : Option TyD) with
 | some (.struct fs) => match fs[i]? with
  | some (foff, ft) => match elt C ft with
   | some (_, s) => 0 < s /\ match x with
    | .rp m f => foff <= m /\ kk (.rp (m - foff) (fun j => f (foff + j)))
    | .ptr t off => match Hp.get O t with
     | some ob => off + foff <= ob.n /\ kk (.ptr t (off + foff))
     | none => False
    | _ => False
   | none => False
  | none => False
 | _ => False
theorem fadA_ok {C : Ctx} {o : Oper} {T : TypeId} {x : Operand} {i : Nat} (ho : o.op = .fieldAddr T x i) {fr : Fr} {O : Hp} {k : OpK} (h : fadA C O T (Fr.ev C fr x) i fun r => k fr r O) : OpOK C o fr O k := by
 unfold fadA at h
 split at h
 ·rename_i fs hT
  split at h
  ·rename_i foff ft hi
   split at h
   ·rename_i bb s he
    obtain ⟨hsp, h⟩ := h
    have hrun : ∀ {E : Env} {β : Loc} {a : Act} {w : World}, St C E β fr O a w -> ∀ (ad : Addr), a.eval x = .pointer (some ad) -> (execOp a.eval o).run C.P w = .ok (.value (.pointer (some (ad.add foff)))) w := by
     intro E β a w hst ad hx
     obtain ⟨gs, g, h1, h2, rfl, rfl⟩ := struct_spec hst hT hi
     obtain ⟨ty, hty, _, _, inf, hinf, his⟩ := elt_spec hst he
     simp only [execOp, ho]
     refine run_v ?_
     rw [hx]
     have hne : ¬ (inf.size = 0) := by omega
     simp [Instr.fieldAt, run_underlying h1, h2, Instr.sureAddr, fieldPlace, sizeOf, typeInfo, hinf, hne]
    split at h
    ·rename_i m f hx
     obtain ⟨hm, h⟩ := h
     refine OpOK.val _ h fun E β a w hst => ?_
     have hxr := hst.ev x
     rw [hx] at hxr
     obtain ⟨ad, ev, hc⟩ := hxr
     refine ⟨_, hrun hst ad ev, _, rfl, fun j hj => ?_⟩
     rw [add_add]
     exact hc _ (by omega)
    ·rename_i t off hx
     split at h
     ·rename_i ob hob
      obtain ⟨hm, h⟩ := h
      refine OpOK.val _ h fun E β a w hst => ?_
      have hxr := hst.ev x
      rw [hx] at hxr
      obtain ⟨ob', hob', hre, _, ev⟩ := hxr
      refine ⟨_, hrun hst _ ev, ob, hob, hre, hm, ?_⟩
      rw [Addr.add_mid, Nat.add_assoc]
     ·exact h.elim
    ·exact h.elim
   ·exact h.elim
  ·exact h.elim
 ·exact h.elim
def BV.len : BV -> Option Nat
 | .p (.bs l) => some l.length
 | .p (.sl n _ _) => some n
 | .p (.v (.slice none 0 0)) => some 0
 | .own _ _ n => some n
 | _ => none
theorem BV.len_rep {U : Addr -> Prop} {β : Loc} {O : Hp} {w : World} {x : BV} {u : Value} {n : Nat} (h : x.len = some n) (hx : x.Rep U β O w u) : ∃ A c, u = .slice A n c /\ n <= c := by
 unfold BV.len at h
 split at h <;> cases h
 ·obtain ⟨_, A, c, e, hc, _⟩ := hx; exact ⟨A, c, e, hc⟩
 ·obtain ⟨_, A, c, e, hc, _⟩ := hx; exact ⟨A, c, e, hc⟩
 ·exact ⟨none, 0, hx, Nat.le_refl _⟩
 ·obtain ⟨_, ⟨ob, c, E, sz, _, _, e, hc, _⟩ | ⟨rfl, A, e⟩⟩ := hx
  ·exact ⟨_, c, e, hc⟩
  ·exact ⟨A, 0, e, Nat.le_refl _⟩
def lenA (C : Ctx) (T : TypeId) (x : BV) (kk : BV -> Prop) : Prop :=
 match ((C.ty T).map (·.d) : Option TyD) with
 | some (.slice _) => match x.len with
  | some n => kk (.p (.v (.int .i64 (n : Int))))
  | none => False
 | some .string => match x with
  | .p (.str l) => kk (.p (.v (.int .i64 (l.length : Int))))
  | _ => False
 | some (.array n _) => kk (.p (.v (.int .i64 (n : Int))))
 | _ => False
theorem lenA_run {C : Ctx} {E : Env} {β : Loc} {fr : Fr} {O : Hp} {a : Act} {w : World} (hst : St C E β fr O a w) {T : TypeId} {x : BV} {kk : BV -> Prop} (h : lenA C T x kk) {u : Value} (hx : x.Rep (Un E.N β O) β O w u) (ty : TypeId) :
  ∃ n : Nat, kk (.p (.v (.int .i64 (n : Int)))) /\ (Builtin.len_ #[T] ty #[u]).run C.P w = .ok (.int .i64 (n : Int)) w := by
 have hT_of : ∀ {d : TyD}, ((C.ty T).map (·.d) : Option TyD) = some d -> ∃ t, C.ty T = some t /\ t.d = d /\ TyOK C.P T t := fun hT =>
  let ⟨t, h1, h2⟩ := Option.map_eq_some_iff.1 hT; ⟨t, h1, h2, hst.ty h1⟩
 unfold lenA at h
 split at h
 ·rename_i e hT
  obtain ⟨t, _, hd, hok⟩ := hT_of hT
  have hu := hok.2
  rw [hd] at hu
  split at h
  ·rename_i n hn
   obtain ⟨A, c, rfl, _⟩ := BV.len_rep hn hx
   exact ⟨n, h, by simp [Builtin.len_, run_underlying hu, goInt]⟩
  ·exact h.elim
 ·rename_i hT
  obtain ⟨t, _, hd, hok⟩ := hT_of hT
  have hu := hok.2
  rw [hd] at hu
  split at h
  ·rename_i l
   have e : u = .string ⟨l.toArray⟩ := hx
   subst e
   have e : (⟨l.toArray⟩ : ByteArray).size = l.length := List.size_toArray ..
   exact ⟨l.length, h, by rw [<- e]; simp [Builtin.len_, run_underlying hu, goInt]⟩
  ·exact h.elim
 ·rename_i n e hT
  obtain ⟨t, _, hd, hok⟩ := hT_of hT
  have hu := hok.2
  rw [hd] at hu
  exact ⟨n, h, by simp [Builtin.len_, run_underlying hu, goInt]⟩
 ·exact h.elim
def bnd (C : Ctx) (fr : Fr) (x : Option Operand) (d : Nat) : Option Int :=
 match x with
 | none => some (d : Int)
 | some x => (Fr.ev C fr x).toI
def cutA (C : Ctx) (fr : Fr) (O : Hp) (T : TypeId) (x : BV) (lo hi mx : Option Operand) (kk : BV -> Prop) : Prop :=
 match ((C.ty T).map (·.d) : Option TyD) with
 | some (.slice e) => match elt C e, x.len with
  | some (_, s), some n => match bnd C fr lo 0, bnd C fr hi n with
   | some l, some h => (0 <= l /\ l <= h /\ h <= n) /\
    (match mx with
     | none => True
     | some m => hi.isSome = true /\ match (Fr.ev C fr m).toI with
      | some m => h <= m /\ m <= n
      | none => False) /\
    match x with
    | .p (.bs b) => s = 1 /\ kk (.p (.bs ((b.take h.toNat).drop l.toNat)))
    | .p (.sl _ s' f) => s' = s /\ kk (.p (.sl (h.toNat - l.toNat) s (fun j => f (l.toNat * s + j))))
    | .own t off _ => match Hp.get O t with
     | some ob => ob.s = s /\ kk (.own t (off + l.toNat * s) (h.toNat - l.toNat))
     | none => False
    | .p (.v (.slice none 0 0)) => kk (.p (.v (.slice none 0 0)))
    | _ => False
   | _, _ => False
  | _, _ => False
 | some .string => mx = none /\ match x with
  | .p (.str b) => match bnd C fr lo 0, bnd C fr hi b.length with
   | some l, some h => (0 <= l /\ l <= h /\ h <= b.length) /\ kk (.p (.str ((b.take h.toNat).drop l.toNat)))
   | _, _ => False
  | _ => False
 | some (.array m e) => mx = none /\ match bnd C fr lo 0, bnd C fr hi m with
  | some l, some h => (0 <= l /\ l < h /\ h <= m) /\ match x with
   | .ptr t off => match elt C e, Hp.get O t with
    | some (_, s), some ob => ob.s = s /\ m <= maxLen /\ off + m * s <= ob.n /\ kk (.own t (off + l.toNat * s) (h.toNat - l.toNat))
    | _, _ => False
   | _ => False
  | _, _ => False
 | _ => False
theorem run_bounds {P : Program} (b : Bool) (n c : Nat) (lo hi mx : Option Value) (l h m : Nat)
  (hlo : (lo = none /\ l = 0) ∨ ∃ k, lo = some (.int k l)) (hhi : (hi = none /\ h = n /\ mx = none) ∨ ∃ k, hi = some (.int k h)) (hmx : (mx = none /\ m = c) ∨ ∃ k, mx = some (.int k m))
  (h1 : l <= h) (h2 : h <= m) (h3 : m <= c) (w : World) : (Instr.sliceBounds b n c lo hi mx).run P w = .ok (l, h, m) w := by
 rcases hlo with ⟨rfl, rfl⟩ | ⟨k1, rfl⟩ <;> rcases hhi with ⟨rfl, rfl, rfl⟩ | ⟨k2, rfl⟩ <;> rcases hmx with ⟨h4, rfl⟩ | ⟨k3, h4⟩ <;> (try cases h4) <;> (try subst h4) <;>
  simp [Instr.sliceBounds, Instr.sliceBound, asIntOf, h1, h2, h3]
theorem run_cut {P : Program} {T e : TypeId} {i : TypeInfo} {s : Nat} (hT : P.underlying T = some (.slice e)) (hinf : P.info? e = some i) (hs : i.size = s) (A : Option Addr) (n c : Nat) (lo hi mx : Option Value) (l h m : Nat)
  (hlo : (lo = none /\ l = 0) ∨ ∃ k, lo = some (.int k l)) (hhi : (hi = none /\ h = n /\ mx = none) ∨ ∃ k, hi = some (.int k h)) (hmx : (mx = none /\ m = c) ∨ ∃ k, mx = some (.int k m))
  (h1 : l <= h) (h2 : h <= m) (h3 : m <= c) (w : World) : (Instr.sliceAt T (.slice A n c) lo hi mx).run P w = .ok (.slice (if m = l then A else A.map (·.add (l * s))) (h - l) (m - l)) w := by
 have hb := run_bounds (P := P) true n c lo hi mx l h m hlo hhi hmx h1 h2 h3 w
 simp [Instr.sliceAt, Instr.slice, run_underlying hT, hb, sizeOf, typeInfo, hinf, hs]
theorem bnd_spec {C : Ctx} {E : Env} {β : Loc} {fr : Fr} {O : Hp} {a : Act} {w : World} (hst : St C E β fr O a w) {x : Option Operand} {d : Nat} {i : Int} (h : bnd C fr x d = some i) (hi : 0 <= i) :
  (x.map a.eval = none /\ i.toNat = d) ∨ ∃ k, x.map a.eval = some (.int k (i.toNat : Int)) := by
 cases x with
 | none => simp only [bnd, Option.some.injEq] at h; exact .inl ⟨rfl, by omega⟩
 | some x =>
  obtain ⟨k, hk⟩ := BV.toI_rep h (hst.ev x)
  exact .inr ⟨k, by rw [Option.map_some, hk]; congr 2; omega⟩
theorem drop_take_getD (b : List UInt8) (l h j : Nat) (hj : j < h - l) : ((b.take h).drop l).getD j 0 = b.getD (l + j) 0 := by
 simp only [List.getD_eq_getElem?_getD, List.getElem?_drop, List.getElem?_take]
 rw [if_pos (by omega)]
theorem cutA_ok {C : Ctx} {o : Oper} {T : TypeId} {x : Operand} {lo hi mx : Option Operand} (ho : o.op = .slice T x lo hi mx) {fr : Fr} {O : Hp} {k : OpK} (h : cutA C fr O T (Fr.ev C fr x) lo hi mx fun r => k fr r O) : OpOK C o fr O k := by
 unfold cutA at h
 split at h
 ·rename_i e hT
  split at h
  ·rename_i bb s n he hn
   split at h
   ·rename_i l hh hl hh'
    obtain ⟨⟨h0, h1, h2⟩, hm, h⟩ := h
    have key : ∀ {E : Env} {β : Loc} {a : Act} {w : World}, St C E β fr O a w -> ∀ (A : Option Addr) (c : Nat), a.eval x = .slice A n c -> n <= c ->
      ∃ m, hh.toNat <= m /\ m <= c /\ (execOp a.eval o).run C.P w = .ok (.value (.slice (if m = l.toNat then A else A.map (·.add (l.toNat * s))) (hh.toNat - l.toNat) (m - l.toNat))) w := by
     intro E β a w hst A c hx hnc
     obtain ⟨ty, hty, _, _, inf, hinf, his⟩ := elt_spec hst he
     have hTT : C.P.underlying T = some (.slice e) := by
      obtain ⟨ty, hty, hd⟩ := Option.map_eq_some_iff.1 hT
      have := (hst.ty hty).2
      rw [hd] at this
      exact this
     have b1 := bnd_spec hst hl h0
     have b2 := bnd_spec hst hh' (by omega)
     cases mx with
     | none =>
      refine ⟨c, by omega, Nat.le_refl _, ?_⟩
      simp only [execOp, ho]
      refine run_v ?_
      rw [hx]
      exact run_cut hTT hinf his A n c _ _ _ l.toNat hh.toNat c b1 (b2.imp (fun ⟨p, q⟩ => ⟨p, q, rfl⟩) id) (.inl ⟨rfl, rfl⟩) (by omega) (by omega) (Nat.le_refl _) w
     | some m =>
      simp only at hm
      obtain ⟨hsome, hm⟩ := hm
      split at hm
      ·rename_i mm hmm
       obtain ⟨km, hkm⟩ := BV.toI_rep hmm (hst.ev m)
       refine ⟨mm.toNat, by omega, by omega, ?_⟩
       simp only [execOp, ho]
       refine run_v ?_
       rw [hx]
       refine run_cut hTT hinf his A n c _ _ _ l.toNat hh.toNat mm.toNat b1 ?_ (.inr ⟨km, by rw [Option.map_some, hkm]; congr 2; omega⟩) (by omega) (by omega) (by omega) w
       rcases b2 with ⟨b2, _⟩ | b2
       ·exfalso
        cases hi with
        | none => simp at hsome
        | some hi => simp at b2
       ·exact .inr b2
      ·exact hm.elim
    split at h
    ·rename_i b hx
     obtain ⟨rfl, h⟩ := h
     rw [hx] at hn
     simp only [BV.len, Option.some.injEq] at hn
     subst hn
     refine OpOK.val _ h fun E β a w hst => ?_
     have hxr := hst.ev x
     rw [hx] at hxr
     obtain ⟨hmx, A, c, ev, hcap, hc⟩ := hxr
     obtain ⟨m, hm1, hm2, hr⟩ := key hst A c ev hcap
     have hlen : ((b.take hh.toNat).drop l.toNat).length = hh.toNat - l.toNat := by simp; omega
     refine ⟨_, hr, by rw [hlen]; omega, _, _, by rw [hlen], by rw [hlen]; omega, fun j hj => ?_⟩
     rw [hlen] at hj
     obtain ⟨ad, rfl, hU, hy⟩ := hc (l.toNat + j) (by omega)
     rw [if_neg (by omega)]
     refine ⟨_, rfl, ?_, ?_⟩
     ·rw [Nat.mul_one, add_add]; exact hU
     ·rw [Nat.mul_one, add_add, hy, drop_take_getD _ _ _ _ hj]
    ·rename_i n' s' f hx
     obtain ⟨rfl, h⟩ := h
     rw [hx] at hn
     simp only [BV.len, Option.some.injEq] at hn
     subst hn
     refine OpOK.val _ h fun E β a w hst => ?_
     have hxr := hst.ev x
     rw [hx] at hxr
     obtain ⟨hmx, A, c, ev, hcap, hc⟩ := hxr
     obtain ⟨m, hm1, hm2, hr⟩ := key hst A c ev hcap
     refine ⟨_, hr, by omega, _, _, rfl, by omega, fun j hj => ?_⟩
     have hlt : l.toNat * s' + j < n' * s' := by
      have h5 : (hh.toNat - l.toNat) * s' = hh.toNat * s' - l.toNat * s' := Nat.sub_mul _ _ _
      have h6 : hh.toNat * s' <= n' * s' := Nat.mul_le_mul_right _ (by omega)
      omega
     obtain ⟨ad, y, rfl, hU, hy, hrr⟩ := hc _ hlt
     have hne : m ≠ l.toNat := by
      rintro rfl
      have : hh.toNat - l.toNat = 0 := by omega
      rw [this] at hj
      simp at hj
     rw [if_neg hne]
     refine ⟨_, y, rfl, ?_, ?_, hrr⟩
     ·rw [add_add]; exact hU
     ·rw [add_add]; exact hy
    ·rename_i t off n' hx
     split at h
     ·rename_i ob hob
      obtain ⟨rfl, h⟩ := h
      rw [hx] at hn
      simp only [BV.len, Option.some.injEq] at hn
      subst hn
      refine OpOK.val _ h fun E β a w hst => ?_
      have hxr := hst.ev x
      rw [hx] at hxr
      obtain ⟨hmx, hxr⟩ := hxr
      rcases hxr with ⟨ob', c, E0, sz, hob', hre, ev, hcap, hfit, hsh, hsz⟩ | ⟨rfl, A, ev⟩
      ·rw [hob] at hob'; cases hob'
       obtain ⟨m, hm1, hm2, hr⟩ := key hst _ c ev hcap
       refine ⟨_, hr, by omega, ?_⟩
       by_cases hml : m = l.toNat
       ·refine .inr ⟨by omega, some ⟨(β t).b, (β t).o + off, none⟩, ?_⟩
        rw [if_pos hml]
        congr 1 <;> omega
       ·refine .inl ⟨ob, m - l.toNat, E0, sz, hob, hre, ?_, by omega, ?_, hsh, ?_⟩
        ·rw [if_neg hml, Option.map_some, Addr.add_mid, Nat.add_assoc]
        ·have h5 : (hh.toNat - l.toNat) * ob.s = hh.toNat * ob.s - l.toNat * ob.s := Nat.sub_mul _ _ _
         have h6 : hh.toNat * ob.s <= n' * ob.s := Nat.mul_le_mul_right _ (by omega)
         have h7 : l.toNat * ob.s <= hh.toNat * ob.s := Nat.mul_le_mul_right _ (by omega)
         omega
        ·have h5 : (m - l.toNat) * ob.s = m * ob.s - l.toNat * ob.s := Nat.sub_mul _ _ _
         have h6 : m * ob.s <= c * ob.s := Nat.mul_le_mul_right _ hm2
         have h7 : l.toNat * ob.s <= m * ob.s := Nat.mul_le_mul_right _ (by omega)
         omega
      ·obtain ⟨m, hm1, hm2, hr⟩ := key hst A 0 ev (Nat.le_refl _)
       refine ⟨_, hr, by omega, .inr ⟨by omega, A, ?_⟩⟩
       rw [if_pos (by omega)]
       congr 1 <;> omega
     ·exact h.elim
    ·rename_i hx
     rw [hx] at hn
     simp only [BV.len, Option.some.injEq] at hn
     subst hn
     refine OpOK.val _ h fun E β a w hst => ?_
     have hxr := hst.ev x
     rw [hx] at hxr
     have ev : a.eval x = .slice none 0 0 := hxr
     obtain ⟨m, hm1, hm2, hr⟩ := key hst none 0 ev (Nat.le_refl _)
     refine ⟨_, hr, ?_⟩
     show Value.slice _ _ _ = Value.slice none 0 0
     have e1 : hh.toNat - l.toNat = 0 := by omega
     have e2 : m - l.toNat = 0 := by omega
     rw [e1, e2]
     split <;> rfl
    ·exact h.elim
   ·exact h.elim
  ·exact h.elim
 ·rename_i hT
  obtain ⟨rfl, h⟩ := h
  split at h
  ·rename_i b hx
   split at h
   ·rename_i l hh hl hh'
    obtain ⟨⟨h0, h1, h2⟩, h⟩ := h
    refine OpOK.val _ h fun E β a w hst => ?_
    have hxr := hst.ev x
    rw [hx] at hxr
    have ev : a.eval x = .string ⟨b.toArray⟩ := hxr
    have hTT : C.P.underlying T = some .string := by
     obtain ⟨ty, hty, hd⟩ := Option.map_eq_some_iff.1 hT
     have := (hst.ty hty).2
     rw [hd] at this
     exact this
    have b1 := bnd_spec hst hl h0
    have b2 := bnd_spec hst hh' (by omega)
    have hsz : (⟨b.toArray⟩ : ByteArray).size = b.length := List.size_toArray ..
    have hb : (Instr.sliceBounds false (⟨b.toArray⟩ : ByteArray).size (⟨b.toArray⟩ : ByteArray).size (lo.map a.eval) (hi.map a.eval) none).run C.P w = .ok (l.toNat, hh.toNat, (⟨b.toArray⟩ : ByteArray).size) w := by
     exact run_bounds (P := C.P) false _ _ _ _ none l.toNat hh.toNat _ b1 (b2.imp (fun ⟨p, q⟩ => ⟨p, q.trans hsz.symm, rfl⟩) id) (.inl ⟨rfl, rfl⟩) (by omega) (by omega) (Nat.le_refl _) w
    refine ⟨.string ((⟨b.toArray⟩ : ByteArray).extract l.toNat hh.toNat), ?_, ?_⟩
    ·simp only [execOp, ho]
     refine run_v ?_
     rw [ev]
     simp [Instr.sliceAt, Instr.slice, run_underlying hTT, hb]
    ·show Value.string _ = Value.string _
     congr 1
     apply ByteArray.ext
     rw [ByteArray.data_extract]
     apply Array.ext'
     simp [List.drop_take]
   ·exact h.elim
  ·exact h.elim
 ·rename_i m e hT
  obtain ⟨rfl, h⟩ := h
  split at h
  ·rename_i l hh hl hh'
   obtain ⟨⟨h0, h1, h2⟩, h⟩ := h
   split at h
   ·rename_i t off hx
    split at h
    ·rename_i bb s ob he hob
     obtain ⟨hs, hmx, hle, h⟩ := h
     refine OpOK.val _ h fun E β a w hst => ?_
     have hxr := hst.ev x
     rw [hx] at hxr
     obtain ⟨ob', hob', hre, _, ev⟩ := hxr
     rw [hob] at hob'; cases hob'
     obtain ⟨ty, hty, _, _, inf, hinf, his⟩ := elt_spec hst he
     have hTT : C.P.underlying T = some (.array m e) := by
      obtain ⟨ty, hty, hd⟩ := Option.map_eq_some_iff.1 hT
      have := (hst.ty hty).2
      rw [hd] at this
      exact this
     have b1 := bnd_spec hst hl h0
     have b2 := bnd_spec hst hh' (by omega)
     have hb := run_bounds (P := C.P) false m m (lo.map a.eval) (hi.map a.eval) none l.toNat hh.toNat m b1 (b2.imp (fun ⟨p, q⟩ => ⟨p, q, rfl⟩) id) (.inl ⟨rfl, rfl⟩) (by omega) (by omega) (Nat.le_refl _) w
     obtain ⟨cs, fz, hcs, _, hsz, _⟩ := hst.core.mem.obj t ob hob hre
     have hm1 : ¬ m = l.toNat := by omega
     have hms : l.toNat * ob.s + (m - l.toNat) * ob.s = m * ob.s := by rw [<- Nat.add_mul]; congr 1; omega
     have hns : (hh.toNat - l.toNat) * ob.s <= (m - l.toNat) * ob.s := Nat.mul_le_mul_right _ (by omega)
     rw [<- hs] at hle
     refine ⟨.slice (some ⟨(β t).b, (β t).o + (off + l.toNat * s), none⟩) (hh.toNat - l.toNat) (m - l.toNat), ?_, by omega, .inl ⟨ob, m - l.toNat, ob.E, cs.size, hob, hre, rfl, by omega, by rw [<- hs]; omega, shape_of_cells hcs, by rw [<- hs]; omega⟩⟩
     simp only [execOp, ho]
     refine run_v ?_
     simp [Instr.sliceAt, Instr.sureAddr, run_underlying hTT, hb, ev, sizeOf, typeInfo, hinf, hm1, his]
     rw [Addr.add_mid, Nat.add_assoc]
    ·exact h.elim
   ·exact h.elim
  ·exact h.elim
 ·exact h.elim
theorem Core.replace {E : Env} {β : Loc} {O : Hp} {w w' : World} (h : Core E β O w) (t : Nat) (hp : t ∉ E.c.pins) (lc : Lc) (ob : OB) (hwf : ob.wf) (D' : Addr -> Prop) (hkeep : Keep D' w w')
  (hshape : ∀ b E0 sz, w.shape? b = some (E0, sz) -> ∃ E1 sz1, w'.shape? b = some (E1, sz1) /\ sz <= sz1)
  (hD : ∀ a, D' a -> ∃ o, Hp.get O t = some o /\ o.cov (β t) a)
  (hloc : lc.re = true -> ob.whole = true /\ E.ng <= lc.b /\ ((w.heap.size <= lc.b) ∨ ∃ o, Hp.get O t = some o /\ o.whole = true /\ (β t).re = true /\ lc.b = (β t).b))
  (h0 : lc.re = false -> ob.n = 0)
  (hcells : lc.re = true -> ∃ (cs : Array Value) (fr : Nat × Nat), w'.heap[lc.b]? = some (.cells cs ob.E fr) /\ NoFr cs fr /\ lc.o + ob.n <= cs.size /\
   ∀ j, j < ob.n -> ∃ u, cs[lc.o + j]? = some u /\ (ob.c.get j).Rep (Un E.N β O) β O w u /\ ¬ (ob.c.get j).uses t) :
  Goes E β O w (β.set t lc) ((t, ob) :: Hp.kill t O) w' (fun k => k ≠ t) := by
 have hsz := h.keep.size
 have hcovt : ∀ a, ob.cov ((β.set t lc) t) a -> lc.re = true /\ a.block = lc.b := fun a ha => by simp [OB.cov] at ha; exact ⟨ha.1, ha.2.1⟩
 have hsplit : ∀ k o, Hp.get ((t, ob) :: Hp.kill t O) k = some o -> (k = t /\ o = ob) ∨ (k ≠ t /\ (β.set t lc) k = β k /\ ∃ o0, Hp.get O k = some o0 /\ o = o0.kill t) := by
  intro k o hk
  by_cases hkt : k = t
  ·subst hkt; rw [Hp.get_cons_same] at hk; cases hk; exact .inl ⟨rfl, rfl⟩
  ·rw [Hp.get_cons_other _ _ (Ne.symm hkt)] at hk
   obtain ⟨_, o0, h1, h2⟩ := Hp.get_kill_some hk
   exact .inr ⟨hkt, Loc.set_other β _ hkt, o0, h1, h2⟩
 have hback : ∀ k o a, Hp.get ((t, ob) :: Hp.kill t O) k = some o -> o.cov ((β.set t lc) k) a -> w.heap.size <= a.block ∨ ∃ o', Hp.get O k = some o' /\ o'.cov (β k) a := by
  intro k o a hk hc
  rcases hsplit k o hk with ⟨rfl, rfl⟩ | ⟨hkt, hβ, o0, h1, rfl⟩
  ·obtain ⟨h1, h2⟩ := hcovt a hc
   rcases (hloc h1).2.2 with h3 | ⟨o', h3, h4, h5, h6⟩
   ·exact .inl (by omega)
   ·exact .inr ⟨o', h3, h5, by omega, .inl h4⟩
  ·rw [hβ] at hc
   exact .inr ⟨o0, h1, hc⟩
 have hstab : Stab (Un E.N β O) (Un E.N (β.set t lc) ((t, ob) :: Hp.kill t O)) w w' := by
  intro a y hU hy
  have hlt := World.block_lt_of_cell? w a hy
  refine ⟨?_, hkeep.cell hy (fun hd => let ⟨o, h1, h2⟩ := hD a hd; hU (.inr ⟨t, o, h1, h2⟩))⟩
  rintro (hN | ⟨k, o, hk, hc⟩)
  ·exact hU (.inl hN)
  ·rcases hback k o a hk hc with h1 | ⟨o', h1, h2⟩
   ·omega
   ·exact hU (.inr ⟨k, o', h1, h2⟩)
 have hnotD : ∀ k o a, k ≠ t -> Hp.get O k = some o -> o.cov (β k) a -> ¬ D' a := by
  intro k o a hkt hk hc hd
  obtain ⟨o', h3, h4⟩ := hD _ hd
  exact h.mem.disj k o t o' hk h3 hkt _ hc h4
 have htags : ∀ k, k ≠ t -> KeepsTag β O w (β.set t lc) ((t, ob) :: Hp.kill t O) w' k := fun k hkt o hk =>
  ⟨Loc.set_other β _ hkt, o.kill t, by rw [Hp.get_cons_other _ _ (Ne.symm hkt), Hp.get_kill_other O hkt, hk]; rfl, rfl, Nat.le_refl _, fun E0 sz hs => hshape _ E0 sz hs⟩
 refine ⟨⟨h.ok, ⟨?_, ?_, ?_, ?_, ?_, ?_⟩, ?_, ?_, ?_, rows_keep h.ok h.rows hkeep (fun a ha => let ⟨o, h1, h2⟩ := hD a ha; h.cov_cells h1 h2)⟩, hstab, htags⟩
 ·intro k o hk
  rcases hsplit k o hk with ⟨rfl, rfl⟩ | ⟨hkt, hβ, o0, h1, rfl⟩
  ·exact hwf
  ·exact OB.wf_kill t (h.mem.wf k o0 h1)
 ·intro k o hk
  rcases hsplit k o hk with ⟨rfl, rfl⟩ | ⟨hkt, hβ, o0, h1, rfl⟩
  ·cases hre : lc.re with
   | true => exact .inl (hloc hre).1
   | false => exact .inr (.inr (by simpa using hre))
  ·rw [hβ]; exact h.mem.pos k o0 h1
 ·intro k o hk hre
  rcases hsplit k o hk with ⟨rfl, rfl⟩ | ⟨hkt, hβ, o0, h1, rfl⟩
  ·exact h0 (by simpa using hre)
  ·rw [hβ] at hre; exact h.mem.obj0 k o0 h1 hre
 ·intro k o hk hre
  rcases hsplit k o hk with ⟨rfl, rfl⟩ | ⟨hkt, hβ, o0, h1, rfl⟩
  ·simp only [Loc.set_same] at hre ⊢
   obtain ⟨cs, fr, h1, h2, h3, h4⟩ := hcells hre
   refine ⟨cs, fr, h1, h2, h3, (hloc hre).2.1, fun j hj => ?_⟩
   obtain ⟨u, hu, hr, hnu⟩ := h4 j hj
   exact ⟨u, hu, BV.Rep.tr hstab _ _ (fun q hq => htags q (fun e => hnu (e ▸ hq))) hr⟩
  ·rw [hβ] at hre ⊢
   obtain ⟨cs, fr, h2, hfr, h3, h4, h5⟩ := h.mem.obj k o0 h1 hre
   have hex : ∃ i, ¬ D' ⟨(β k).b, i, none⟩ := by
    rcases h.mem.pos k o0 h1 with hw | hn | hr
    ·exact ⟨0, hnotD k o0 _ hkt h1 ⟨hre, rfl, .inl hw⟩⟩
    ·exact ⟨(β k).o, hnotD k o0 _ hkt h1 ⟨hre, rfl, .inr ⟨by simp, by simp; omega⟩⟩⟩
    ·rw [hre] at hr; cases hr
   obtain ⟨cs', h6, h7, h8⟩ := hkeep.part _ cs _ fr h2 hex
   refine ⟨cs', fr, h6, hfr.imp id (fun h => by omega), by rw [h7]; exact h3, h4, fun j hj => ?_⟩
   obtain ⟨u, hu, hr⟩ := h5 j hj
   refine ⟨u, ?_, ?_⟩
   ·rw [h8 _ (hnotD k o0 _ hkt h1 ⟨hre, rfl, .inr ⟨by simp, by simp; exact hj⟩⟩)]; exact hu
   ·show ((o0.c.kill t).get j).Rep _ _ _ _ _
    rw [OC.get_kill]
    exact BV.Rep.tr hstab _ _ (fun q hq => htags q (fun e => BV.kill_uses t _ (e ▸ hq))) (BV.kill_rep t hr)
 ·intro k o k' o' hk hk' hkk a ha ha'
  rcases hback k o a hk ha with h1 | ⟨o1, h1, h2⟩
  ·rcases hback k' o' a hk' ha' with h1' | ⟨o1', h1', h2'⟩
   ·-- both in new blocks: both are t
    have ht : ∀ q oq, Hp.get ((t, ob) :: Hp.kill t O) q = some oq -> oq.cov ((β.set t lc) q) a -> q = t := by
     intro q oq hq hcq
     rcases hsplit q oq hq with ⟨rfl, _⟩ | ⟨_, hβ, o0, h3, rfl⟩
     ·rfl
     ·rw [hβ] at hcq
      have := h.mem.lt h3 hcq.1
      have := hcq.2.1
      omega
    exact hkk ((ht k o hk ha).trans (ht k' o' hk' ha').symm)
   ·have := h.mem.lt h1' h2'.1
    have := h2'.2.1
    omega
  ·rcases hback k' o' a hk' ha' with h1' | ⟨o1', h1', h2'⟩
   ·have := h.mem.lt h1 h2.1
    have := h2.2.1
    omega
   ·exact h.mem.disj k o1 k' o1' h1 h1' hkk a h2 h2'
 ·intro k o hk a ha hN
  rcases hback k o a hk ha with h1 | ⟨o1, h1, h2⟩
  ·have := h.ok.Nlt a hN; omega
  ·exact h.mem.notN k o1 h1 a h2 hN
 ·exact h.keep.then hkeep (fun a ha => let ⟨o, h1, h2⟩ := hD a ha; h.dom t o h1 a h2)
 ·intro k o hk a ha
  rcases hback k o a hk ha with h1 | ⟨o1, h1, h2⟩
  ·exact .inr (by omega)
  ·exact h.dom k o1 h1 a h2
 ·intro k hk
  rw [Loc.set_other β _ (fun e => hp (by rw [<- e]; exact hk))]
  exact h.pins k hk
def OB.pv (ob : OB) (off n : Nat) : BV :=
 match ob.c with
 | .bs l => .p (.bs ((l.drop off).take n))
 | .rows f => .p (.sl n ob.s (fun j => f (off + j)))
 | .cells _ => .dead
def BV.frz (t : Nat) (ob : OB) : BV -> BV
 | .own t' off n => if t' = t then ob.pv off n else .own t' off n
 | x => x.kill t
def Fr.frz (t : Nat) (ob : OB) : Fr -> Fr
 | [] => []
 | (d, x) :: r => (d, x.frz t ob) :: Fr.frz t ob r
theorem Fr.get_frz (t : Nat) (ob : OB) (fr : Fr) (d : Nat) : Fr.get (Fr.frz t ob fr) d = (Fr.get fr d).frz t ob := by
 induction fr with
 | nil => rfl
 | cons p r ih => obtain ⟨k, x⟩ := p; by_cases h : k = d <;> simp [Fr.frz, Fr.get, h, ih]
theorem BV.frz_undef {t : Nat} {ob : OB} {x : BV} (h : x.frz t ob = .p (.v undef)) : x = .p (.v undef) := by
 cases x with
 | own t' off n =>
  simp only [BV.frz] at h
  split at h
  ·unfold OB.pv at h
   split at h <;> cases h
  ·cases h
 | _ => exact BV.kill_p (t := t) h
theorem St.frz {C : Ctx} {E : Env} {β : Loc} {fr : Fr} {O : Hp} {a : Act} {w : World} (h : St C E β fr O a w) {t : Nat} {ob : OB} (ht : Hp.get O t = some ob) :
  St C E β (Fr.frz t ob fr) (Hp.kill t O) a w := by
 have g := h.core.kill t
 refine ⟨h.ctx, h.good, g.core, h.defers, h.size, fun d => ?_, h.xs.stab g.stab, h.tok.mono fun d _ e => by rw [Fr.get_frz] at e; exact BV.frz_undef e⟩
 rw [Fr.get_frz]
 have hs := h.slot d
 have hkill : ((Fr.get fr d).kill t).Rep (Un E.N β (Hp.kill t O)) β (Hp.kill t O) w (a.tmps.getD d undef) :=
  g.rep (BV.kill_rep t hs) (fun k hk e => BV.kill_uses t _ (e ▸ hk))
 cases hx : Fr.get fr d with
 | own t' off n =>
  rw [hx] at hs hkill
  simp only [BV.frz]
  by_cases htt : t' = t
  ·subst htt
   rw [if_pos rfl]
   unfold OB.pv
   cases hc : ob.c with
   | bs l => exact h.core.freed_bs ht hc hs
   | rows f => exact h.core.freed ht hc hs
   | cells l => trivial
  ·rw [if_neg htt]
   simp only [BV.kill, htt, if_false] at hkill
   exact hkill
 | _ => rw [hx] at hkill; exact hkill
def frz1 (fr : Fr) (O : Hp) (x : BV) (kk : Fr -> Hp -> Prop) : Prop :=
 match x with
 | .own t _ _ => match Hp.get O t with
  | some ob => kk (Fr.frz t ob fr) (Hp.kill t O)
  | none => False
 | _ => kk fr O
theorem kill_un {N : Addr -> Prop} {β : Loc} {O : Hp} (t : Nat) {a : Addr} (h : Un N β (Hp.kill t O) a) : Un N β O a :=
 h.imp id (fun ⟨k, o, hk, hcv⟩ => let ⟨_, o0, h1, e⟩ := Hp.get_kill_some hk; ⟨k, o0, h1, by subst e; exact hcv⟩)
theorem frz1_ok {C : Ctx} {E : Env} {β : Loc} {fr : Fr} {O : Hp} {a : Act} {w : World} {x : BV} {kk : Fr -> Hp -> Prop} (h : frz1 fr O x kk) (hst : St C E β fr O a w) :
  ∃ fr' O', kk fr' O' /\ St C E β fr' O' a w /\ ∀ a, Un E.N β O' a -> Un E.N β O a := by
 unfold frz1 at h
 split at h
 ·split at h
  ·rename_i ob hob
   exact ⟨_, _, h, hst.frz hob, fun _ => kill_un _⟩
  ·exact h.elim
 ·exact ⟨fr, O, h, hst, fun _ h => h⟩
def frzL (C : Ctx) : List Operand -> Fr -> Hp -> (Fr -> Hp -> Prop) -> Prop
 | [], fr, O, kk => kk fr O
 | x :: r, fr, O, kk => frz1 fr O (Fr.ev C fr x) fun fr O => frzL C r fr O kk
theorem frzL_ok {C : Ctx} {E : Env} {β : Loc} {a : Act} {w : World} {kk : Fr -> Hp -> Prop} : ∀ {l : List Operand} {fr : Fr} {O : Hp}, frzL C l fr O kk -> St C E β fr O a w ->
  ∃ fr' O', kk fr' O' /\ St C E β fr' O' a w /\ ∀ a, Un E.N β O' a -> Un E.N β O a
 | [], fr, O, h, hst => ⟨fr, O, h, hst, fun _ h => h⟩
 | x :: r, fr, O, h, hst => by
  obtain ⟨fr', O', h1, hst', hu⟩ := frz1_ok h hst
  obtain ⟨fr2, O2, h2, h3, hu2⟩ := frzL_ok h1 hst'
  exact ⟨fr2, O2, h2, h3, fun a ha => hu a (hu2 a ha)⟩
def fresh : Hp -> Nat
 | [] => 1
 | (t, _) :: r => if fresh r <= t then t + 1 else fresh r
theorem fresh_lt : ∀ (O : Hp) (t : Nat) (ob : OB), Hp.get O t = some ob -> t < fresh O
 | (k, o) :: r, t, ob, h => by
  simp only [Hp.get] at h
  simp only [fresh]
  split at h
  ·split <;> omega
  ·have := fresh_lt r t ob h
   split <;> omega
theorem fresh_new (O : Hp) : Hp.get O (fresh O) = none := by
 cases h : Hp.get O (fresh O) with
 | none => rfl
 | some ob => have := fresh_lt O _ ob h; omega
def putF (f : Nat -> BV) (off : Nat) (x : BV) (s : Nat) : Option (Nat -> BV) :=
 match x with
 | .agg n g => if n = s then some (fun j => if off <= j /\ j < off + n then .p (g (j - off)) else f j) else none
 | .ag n g => if n = s then some (fun j => if off <= j /\ j < off + n then g (j - off) else f j) else none
 | .tup _ _ => none
 | x => if s = 1 then some (fun j => if j = off then x else f j) else none
def fillF (N : Nat) (place : Nat -> Option (Nat × Nat)) : (Nat -> BV) -> List (Nat × BV) -> Option (Nat -> BV)
 | f, [] => some f
 | f, (i, x) :: r => match place i with
  | some (off, s) => if off + s <= N then match putF f off x s with
   | some f' => fillF N place f' r
   | none => none
   else none
  | none => none
theorem cells_of_rep {U : Addr -> Prop} {β : Loc} {O : Hp} {w : World} {x : BV} {u : Value} (hx : x.Rep U β O w u) (h1 : ∀ n g, x ≠ .agg n g) (h2 : ∀ n g, x ≠ .tup n g) (h5 : ∀ n g, x ≠ .ag n g) (h3 : x ≠ .dead) (h4 : ∀ v, x = .p (.v v) -> v.oneCell' = true) : u.cells = #[u] /\ u.oneCell' = true := by
 cases x with
 | dead => exact absurd rfl h3
 | p y =>
  cases y with
  | v v =>
   have e : u = v := hx
   subst e
   have := h4 u rfl
   cases u <;> simp_all [Value.cells, Value.oneCell']
  | u8 b => have e : u = _ := hx; subst e; exact ⟨rfl, rfl⟩
  | u32 b => have e : u = _ := hx; subst e; exact ⟨rfl, rfl⟩
  | u64 b => have e : u = _ := hx; subst e; exact ⟨rfl, rfl⟩
  | str l => have e : u = _ := hx; subst e; exact ⟨rfl, rfl⟩
  | bs l => obtain ⟨_, A, c, rfl, _⟩ := hx; exact ⟨rfl, rfl⟩
  | sl n s f => obtain ⟨_, A, c, rfl, _⟩ := hx; exact ⟨rfl, rfl⟩
  | pp x => obtain ⟨a, y, rfl, _⟩ := hx; exact ⟨rfl, rfl⟩
 | own t off n => obtain ⟨_, ⟨_, c, _, _, _, _, rfl, _⟩ | ⟨_, A, rfl⟩⟩ := hx <;> exact ⟨rfl, rfl⟩
 | ptr t off => obtain ⟨_, _, _, _, rfl⟩ := hx; exact ⟨rfl, rfl⟩
 | rp m f => obtain ⟨_, rfl, _⟩ := hx; exact ⟨rfl, rfl⟩
 | agg n g => exact absurd rfl (h1 n g)
 | clo fn caps => obtain ⟨_, rfl, _⟩ := hx; exact ⟨rfl, rfl⟩
 | mv fn t off => obtain ⟨_, _, _, _, rfl⟩ := hx; exact ⟨rfl, rfl⟩
 | tup n g => exact absurd rfl (h2 n g)
 | ag n g => exact absurd rfl (h5 n g)
def BV.one : BV -> Prop
 | .dead => False
 | .p (.v v) => v.oneCell' = true
 | .agg _ _ => False
 | .tup _ _ => False
 | .ag _ _ => False
 | _ => True
theorem BV.one_cells {U : Addr -> Prop} {β : Loc} {O : Hp} {w : World} {x : BV} {u : Value} (hx : x.Rep U β O w u) (h : x.one) : u.cells = #[u] /\ u.oneCell' = true := by
 refine cells_of_rep hx ?_ ?_ ?_ ?_ ?_
 ·rintro n g rfl; exact h
 ·rintro n g rfl; exact h
 ·rintro n g rfl; exact h
 ·rintro rfl; exact h
 ·rintro v rfl; exact h
def BV.lay : BV -> Prop
 | .agg n g => ∀ j, j < n -> (BV.p (g j)).one
 | .ag n g => ∀ j, j < n -> (g j).one
 | x => x.one
theorem foldl_put {n : Nat} (off : Nat) : ∀ (vs : List Value) (i : Nat) (cs : Array Value), (((vs.zipIdx i).foldl (fun (cs : Array Value) (p : Value × Nat) => cs.setIfInBounds (off + p.2) p.1) cs).size = cs.size) /\
  (cs.size = n -> off + i + vs.length <= n -> ∀ j, ((vs.zipIdx i).foldl (fun (cs : Array Value) (p : Value × Nat) => cs.setIfInBounds (off + p.2) p.1) cs)[j]? = if off + i <= j /\ j < off + i + vs.length then vs[j - (off + i)]? else cs[j]?)
 | [], i, cs => ⟨rfl, fun _ _ j => by simp; omega⟩
 | v :: r, i, cs => by
  obtain ⟨h1, h2⟩ := foldl_put (n := n) off r (i + 1) (cs.setIfInBounds (off + i) v)
  refine ⟨by simpa using h1, fun hs hl j => ?_⟩
  simp only [List.zipIdx_cons, List.foldl_cons]
  rw [h2 (by simpa using hs) (by simp at hl; omega) j]
  simp only [List.length_cons] at hl ⊢
  by_cases hj : off + (i + 1) <= j /\ j < off + (i + 1) + r.length
  ·rw [if_pos hj, if_pos (by omega)]
   rw [show j - (off + i) = (j - (off + (i + 1))) + 1 from by omega, List.getElem?_cons_succ]
  ·rw [if_neg hj]
   by_cases hj2 : j = off + i
   ·subst hj2
    rw [if_pos (by omega), Array.getElem?_setIfInBounds_self_of_lt (by omega)]
    simp
   ·rw [if_neg (by omega), Array.getElem?_setIfInBounds_ne (by omega)]
theorem fill_ok {U : Addr -> Prop} {β : Loc} {O : Hp} {w : World} (place : Nat -> Option (Nat × Nat)) (N : Nat) :
  ∀ (parts : List (Nat × BV)) (vals : List (Nat × Value)) (F F' : Nat -> BV) (cs : Array Value), vals.length = parts.length ->
   (∀ i, i < parts.length -> (vals.getD i (0, undef)).1 = (parts.getD i (0, .dead)).1 /\ (parts.getD i (0, .dead)).2.Rep U β O w (vals.getD i (0, undef)).2 /\ (parts.getD i (0, .dead)).2.lay) ->
   fillF N place F parts = some F' -> cs.size = N -> (∀ j, j < N -> ∃ u, cs[j]? = some u /\ (F j).Rep U β O w u /\ u.oneCell' = true) ->
   ∃ cs' : Array Value, Instr.fill place cs vals = some cs' /\ cs'.size = N /\ ∀ j, j < N -> ∃ u, cs'[j]? = some u /\ (F' j).Rep U β O w u /\ u.oneCell' = true
 | [], [], F, F', cs, _, _, hf, hs, hc => by
  simp only [fillF, Option.some.injEq] at hf
  subst hf
  exact ⟨cs, rfl, hs, hc⟩
 | (i, x) :: r, (i', v) :: vr, F, F', cs, hl, hp, hf, hs, hc => by
  have h0 := hp 0 (by simp)
  simp only [List.getD_cons_zero] at h0
  obtain ⟨rfl, hx, hlay⟩ := h0
  simp only [fillF] at hf
  cases hpl : place i' with
  | none => rw [hpl] at hf; cases hf
  | some os =>
   obtain ⟨off, s⟩ := os
   rw [hpl] at hf
   simp only at hf
   split at hf
   case isFalse => cases hf
   rename_i hN
   cases hput : putF F off x s with
   | none => rw [hput] at hf; cases hf
   | some F1 =>
    rw [hput] at hf
    have hcells : v.cells.size = s /\ ∀ j, j < N -> ∃ u, (if off + 0 <= j /\ j < off + 0 + v.cells.toList.length then v.cells.toList[j - (off + 0)]? else cs[j]?) = some u /\ (F1 j).Rep U β O w u /\ u.oneCell' = true := by
     have scal : x.one -> (if s = 1 then some (fun j => if j = off then x else F j) else none) = some F1 -> v.cells.size = s /\ ∀ j, j < N -> ∃ u, (if off + 0 <= j /\ j < off + 0 + v.cells.toList.length then v.cells.toList[j - (off + 0)]? else cs[j]?) = some u /\ (F1 j).Rep U β O w u /\ u.oneCell' = true := by
      intro hone h
      split at h
      ·rename_i hs1
       cases h
       obtain ⟨e1, e2⟩ := BV.one_cells hx hone
       refine ⟨by rw [e1, hs1]; rfl, fun j hj => ?_⟩
       rw [e1]
       by_cases hjo : j = off
       ·subst hjo
        exact ⟨v, by simp, by simpa using hx, e2⟩
       ·obtain ⟨u, hu, hr, h1⟩ := hc j hj
        refine ⟨u, ?_, by simpa [hjo] using hr, h1⟩
        rw [if_neg (by simp; omega)]
        exact hu
      ·cases h
     unfold putF at hput
     split at hput
     ·rename_i n g
      split at hput
      ·rename_i hn
       subst hn
       cases hput
       obtain ⟨vs, rfl, hvs, hvc⟩ := hx
       refine ⟨hvs, fun j hj => ?_⟩
       have hlen : (Value.agg vs).cells.toList.length = n := by simpa [Value.cells] using hvs
       rw [hlen]
       by_cases hjo : off <= j /\ j < off + n
       ·obtain ⟨y, hy, hr⟩ := hvc (j - off) (by omega)
        refine ⟨y, ?_, ?_, (BV.one_cells (U := U) (β := β) (O := O) (w := w) (x := .p (g (j - off))) hr (hlay _ (by omega))).2⟩
        ·rw [if_pos (by omega)]
         simpa [Value.cells] using hy
        ·show BV.Rep U β O w (if off <= j /\ j < off + n then BV.p (g (j - off)) else F j) y
         rw [if_pos hjo]
         exact hr
       ·obtain ⟨u, hu, hr, h1⟩ := hc j hj
        refine ⟨u, ?_, by simpa [hjo] using hr, h1⟩
        rw [if_neg (by omega)]
        exact hu
      ·cases hput
     ·rename_i n g
      split at hput
      ·rename_i hn
       subst hn
       cases hput
       obtain ⟨vs, rfl, hvs, hvc⟩ := hx
       refine ⟨hvs, fun j hj => ?_⟩
       have hlen : (Value.agg vs).cells.toList.length = n := by simpa [Value.cells] using hvs
       rw [hlen]
       by_cases hjo : off <= j /\ j < off + n
       ·obtain ⟨y, hy, hr⟩ := hvc (j - off) (by omega)
        refine ⟨y, ?_, ?_, (BV.one_cells hr (hlay _ (by omega))).2⟩
        ·rw [if_pos (by omega)]
         simpa [Value.cells] using hy
        ·show BV.Rep U β O w (if off <= j /\ j < off + n then g (j - off) else F j) y
         rw [if_pos hjo]
         exact hr
       ·obtain ⟨u, hu, hr, h1⟩ := hc j hj
        refine ⟨u, ?_, by simpa [hjo] using hr, h1⟩
        rw [if_neg (by omega)]
        exact hu
      ·cases hput
     ·cases hput
     ·rename_i _ hna hng hnt
      refine scal ?_ hput
      cases x <;> first | exact hlay | exact (hna _ _ rfl).elim | exact (hng _ _ rfl).elim
    obtain ⟨hvs, hcc⟩ := hcells
    obtain ⟨hf1, hf2⟩ := foldl_put (n := N) off v.cells.toList 0 cs
    have hll : v.cells.toList.length = s := by simpa using hvs
    have hnew : ∀ j, j < N -> ∃ u, (v.cells.zipIdx.foldl (fun cs (c, j) => cs.setIfInBounds (off + j) c) cs)[j]? = some u /\ (F1 j).Rep U β O w u /\ u.oneCell' = true := by
     intro j hj
     rw [<- Array.foldl_toList, Array.toList_zipIdx]
     rw [hf2 hs (by omega) j]
     exact hcc j hj
    have hns : (v.cells.zipIdx.foldl (fun cs (c, j) => cs.setIfInBounds (off + j) c) cs).size = N := by
     rw [<- Array.foldl_toList, Array.toList_zipIdx]
     exact hf1.trans hs
    obtain ⟨cs', h1, h2, h3⟩ := fill_ok place N r vr F1 F' _ (by simpa using hl) (fun i hi => by
     have := hp (i + 1) (by simp; omega)
     simpa using this) hf hns hnew
    refine ⟨cs', ?_, h2, h3⟩
    simp only [Instr.fill, hpl]
    rw [if_neg (by simp [hvs]; omega)]
    exact h1
 | [], _ :: _, _, _, _, hl, _, _, _, _ => by simp at hl
 | _ :: _, [], _, _, _, hl, _, _, _, _ => by simp at hl
def layL : List (Nat × BV) -> Prop
 | [] => True
 | (_, x) :: r => x.lay /\ layL r
def tab : Nat -> Nat -> (Nat -> BV) -> List BV
 | 0, _, _ => []
 | n + 1, i, F => F i :: tab n (i + 1) F
theorem tab_get : ∀ (n i : Nat) (F : Nat -> BV), (tab n i F).length = n /\ ∀ j, j < n -> (tab n i F)[j]? = some (F (i + j))
 | 0, i, F => ⟨rfl, fun j hj => by omega⟩
 | n + 1, i, F => by
  obtain ⟨h1, h2⟩ := tab_get n (i + 1) F
  refine ⟨by simp [tab, h1], fun j hj => ?_⟩
  cases j with
  | zero => simp [tab]
  | succ j => rw [tab, List.getElem?_cons_succ, h2 j (by omega)]; congr 2; omega
def evs (C : Ctx) (fr : Fr) : List (Nat × Operand) -> List (Nat × BV)
 | [] => []
 | (i, x) :: r => (i, Fr.ev C fr x) :: evs C fr r
theorem evs_parts {C : Ctx} {E : Env} {β : Loc} {fr : Fr} {O : Hp} {a : Act} {w : World} (hst : St C E β fr O a w) : ∀ (l : List (Nat × Operand)), layL (evs C fr l) ->
  (l.map fun (i, x) => (i, a.eval x)).length = (evs C fr l).length /\
  ∀ i, i < (evs C fr l).length -> ((l.map fun (i, x) => (i, a.eval x)).getD i (0, undef)).1 = ((evs C fr l).getD i (0, .dead)).1 /\
   ((evs C fr l).getD i (0, .dead)).2.Rep (Un E.N β O) β O w ((l.map fun (i, x) => (i, a.eval x)).getD i (0, undef)).2 /\ ((evs C fr l).getD i (0, .dead)).2.lay
 | [], _ => ⟨rfl, fun i hi => by simp [evs] at hi⟩
 | (k, x) :: r, h => by
  obtain ⟨h1, h2⟩ := h
  obtain ⟨h3, h4⟩ := evs_parts hst r h2
  refine ⟨by simpa [evs] using h3, fun i hi => ?_⟩
  cases i with
  | zero => exact ⟨rfl, hst.ev x, h1⟩
  | succ i => simpa [evs] using h4 i (by simpa [evs] using hi)
def zeroF (z : Nat -> Value) (j : Nat) : BV := .p (cst (z j))
theorem zero_cells {C : Ctx} {E : Env} {β : Loc} {fr : Fr} {O : Hp} {a : Act} {w : World} (hst : St C E β fr O a w) {T : TypeId} {ty : Ty} (hT : C.ty T = some ty) {z : Nat -> Value} (hz : ty.zero = some z) :
  ∃ zv, (zeroValue T).run C.P w = .ok zv w /\ zv.cells.size = ty.size /\ ∀ j, j < ty.size -> ∃ u, zv.cells[j]? = some u /\ (zeroF z j).Rep (Un E.N β O) β O w u /\ u.oneCell' = true := by
 obtain ⟨⟨i, h1, h2, _, h3⟩, _⟩ := hst.ty hT
 obtain ⟨⟨zv, h4, h5⟩, h6⟩ := h3 z hz
 have hl : zv.cells.size = ty.size := by rw [<- Array.length_toList, h5]; simp
 refine ⟨zv, by simp [zeroValue, typeInfo, h1, h4], hl, fun j hj => ⟨z j, ?_, cst_rep _ _ _, h6 j hj⟩⟩
 have : zv.cells.toList[j]? = some (z j) := by rw [h5]; simp [hj]
 simpa using this
def placeS (C : Ctx) (fs : List (Nat × TypeId)) (i : Nat) : Option (Nat × Nat) :=
 match fs[i]? with
 | some (off, ft) => match elt C ft with
  | some (_, s) => some (off, s)
  | none => none
 | none => none
def buildA (C : Ctx) (fr : Fr) (O : Hp) (T : TypeId) (parts : List (Nat × Operand)) (k : OpK) : Prop :=
 match C.ty T with
 | none => False
 | some ty => match ty.zero with
  | none => False
  | some z =>
   frzL C (parts.map (·.2)) fr O fun fr O =>
    layL (evs C fr parts) /\
    match (match ty.d with
     | .struct fs => fillF ty.size (placeS C fs) (zeroF z) (evs C fr parts)
     | .array _ e => match elt C e with
      | some (_, s) => fillF ty.size (fun i => some (i * s, s)) (zeroF z) (evs C fr parts)
      | none => none
     | _ => none : Option (Nat -> BV)) with
    | some F => match pvs (tab ty.size 0 F) ty.size with
     | some ps => k fr (.agg ty.size (fun j => ps.getD j (.v undef))) O
     | none => False
    | none => False
def u8s : List BV -> Option (List UInt8)
 | [] => some []
 | .p (.u8 b) :: r => (u8s r).map (b :: ·)
 | _ :: _ => none
theorem u8s_get : ∀ (l : List BV) (bs : List UInt8), u8s l = some bs -> bs.length = l.length /\ ∀ j, j < l.length -> l[j]? = some (.p (.u8 (bs.getD j 0)))
 | [], bs, h => by simp [u8s] at h; subst h; exact ⟨rfl, fun j hj => by simp at hj⟩
 | x :: r, bs, h => by
  unfold u8s at h
  split at h
  ·rename_i heq; simp at heq
  ·rename_i b r' heq
   cases heq
   obtain ⟨qs, h1, rfl⟩ := Option.map_eq_some_iff.1 h
   obtain ⟨h2, h3⟩ := u8s_get r qs h1
   refine ⟨by simp [h2], fun j hj => ?_⟩
   cases j with
   | zero => rfl
   | succ j => have := h3 j (by simpa using hj); simpa using this
  ·cases h
def toOC (u8 : Bool) (l : List BV) : OC :=
 match u8, u8s l with
 | true, some bs => .bs bs
 | _, _ => match pvs l l.length with
  | some ps => .rows (fun j => ps.getD j (.v undef))
  | none => .cells l
theorem toOC_get {u8 : Bool} {l : List BV} {j : Nat} (hj : j < l.length) : (toOC u8 l).get j = l.getD j .dead := by
 have rest : ∀ c : OC, c = (match pvs l l.length with | some ps => OC.rows (fun j => ps.getD j (.v undef)) | none => .cells l) -> c.get j = l.getD j .dead := by
  rintro c rfl
  split
  ·rename_i ps h
   obtain ⟨_, h2⟩ := pvs_get _ _ _ h
   obtain ⟨x, h3, h4⟩ := h2 j hj
   simp [OC.get, List.getD_eq_getElem?_getD, h3, h4]
  ·rfl
 unfold toOC
 split
 ·rename_i bs h
  have := (u8s_get _ _ h).2 j hj
  simp [OC.get, List.getD_eq_getElem?_getD, this]
 ·exact rest _ rfl
def isU8 (C : Ctx) (e : TypeId) : Bool :=
 match ((C.ty e).map (·.d) : Option TyD) with
 | some (.int .u8) => true
 | _ => false
theorem toOC_wf {u8 : Bool} {l : List BV} {E s n : Nat} (hn : l.length = n) (hs : u8 = true -> s = 1) : OB.wf ⟨E, s, n, true, toOC u8 l⟩ := by
 unfold toOC
 split
 ·rename_i bs h
  exact ⟨hs rfl, (u8s_get _ _ h).1.trans hn⟩
 ·split
  ·trivial
  ·exact hn
theorem row_nil {n : Nat} (h : n = 0) (f g : Nat -> Value) : (Array.range n).map f = (Array.range n).map g := by subst h; simp
def bslA (C : Ctx) (fr : Fr) (O : Hp) (T : TypeId) (len : Nat) (parts : List (Nat × Operand)) (k : OpK) : Prop :=
 match ((C.ty T).map (·.d) : Option TyD) with
 | some (.slice e) => match C.ty e with
  | none => False
  | some ty => match ty.zero with
   | none => False
   | some z =>
    len * ty.size <= 16777216 /\ 0 < ty.size /\ (isU8 C e = true -> ty.size = 1) /\
    frzL C (parts.map (·.2)) fr O fun fr O =>
     fresh O ∉ C.pins /\ layL (evs C fr parts) /\
     match fillF (len * ty.size) (fun i => some (i * ty.size, ty.size)) (fun j => zeroF z (j % ty.size)) (evs C fr parts) with
     | some F => k fr (.own (fresh O) 0 len) ((fresh O, ⟨e, ty.size, len * ty.size, true, toOC (isU8 C e) (tab (len * ty.size) 0 F)⟩) :: O)
     | none => False
 | _ => False
theorem bslA_ok {C : Ctx} {o : Oper} {T : TypeId} {len : Nat} {parts : Array (Nat × Operand)} (ho : o.op = .buildSlice T len parts) {fr : Fr} {O : Hp} {k : OpK} (h : bslA C fr O T len parts.toList k) : OpOK C o fr O k := by
 unfold bslA at h
 split at h
 case h_2 => exact h.elim
 rename_i e hT
 split at h
 ·exact h.elim
 rename_i ty hty
 split at h
 ·exact h.elim
 rename_i z hz
 obtain ⟨hsz, hpos, hu8, h⟩ := h
 intro E β a w hst0 K Q hK
 have hTT : C.P.underlying T = some (.slice e) := by
  obtain ⟨t, ht, hd⟩ := Option.map_eq_some_iff.1 hT
  have := (hst0.ty ht).2
  rw [hd] at this
  exact this
 obtain ⟨fr', O', ⟨hfresh, hlay, hF⟩, hst, _⟩ := frzL_ok h hst0
 split at hF
 case h_2 => exact hF.elim
 rename_i F hFF
 obtain ⟨zv, hzr, hzs, hzc⟩ := zero_cells hst hty hz
 obtain ⟨inf, hinf, his, _⟩ := (hst.ty hty).info
 obtain ⟨hl1, hl2⟩ := evs_parts hst parts.toList hlay
 have hz0 : ∀ j, j < len * ty.size -> ∃ u, ((Array.range (len * ty.size)).map (zv.cells[· % zv.cells.size]!))[j]? = some u /\ (zeroF z (j % ty.size)).Rep (Un E.N β O') β O' w u /\ u.oneCell' = true := by
  intro j hj
  have hjm : j % ty.size < ty.size := Nat.mod_lt _ hpos
  obtain ⟨u, hu, hr, h1⟩ := hzc (j % ty.size) hjm
  refine ⟨u, ?_, hr, h1⟩
  have hlt : j % ty.size < zv.cells.size := by omega
  rw [Array.getElem?_map, Array.getElem?_range, if_pos hj]
  simp only [Option.map_some, Option.some.injEq]
  rw [hzs, getElem!_pos zv.cells _ hlt]
  rw [Array.getElem?_eq_getElem hlt] at hu
  exact Option.some.inj hu
 obtain ⟨cs, hfill, hcs, hcc⟩ := fill_ok (U := Un E.N β O') (β := β) (O := O') (w := w) (fun i => some (i * ty.size, ty.size)) (len * ty.size) (evs C fr' parts.toList) (parts.toList.map fun (i, x) => (i, a.eval x)) _ F _ hl1 hl2 hFF (by simp) hz0
 have hrun : (execOp a.eval o).run C.P w = .ok (.value (.slice (some ⟨w.heap.size, 0, none⟩) len len)) (w.alloc (.cells cs e)) := by
  simp only [execOp, ho]
  refine run_v ?_
  have hpl : (parts.map fun (i, x) => (i, a.eval x)).toList = parts.toList.map fun (i, x) => (i, a.eval x) := by simp
  have hif : ¬ (len * ty.size > 2 ^ 24) := by omega
  simp only [Instr.buildSlice, Sem.run_bind, run_underlying hTT, Result.andThen_ok, sizeOf, typeInfo, run_program, hinf, Sem.run_pure, his, Sem.run_ite, if_neg hif]
  by_cases h0 : len * ty.size = 0
  ·rw [if_pos h0, hpl, row_nil h0 _ (zv.cells[· % zv.cells.size]!), hfill]
   simp [newRow]
  ·rw [if_neg h0, hzr]
   simp only [Result.andThen_ok]
   rw [hpl, hfill]
   simp [newRow]
 have hwf : OB.wf ⟨e, ty.size, len * ty.size, true, toOC (isU8 C e) (tab (len * ty.size) 0 F)⟩ := toOC_wf (tab_get _ _ _).1 hu8
 have g := hst.core.alloc ⟨e, ty.size, len * ty.size, true, toOC (isU8 C e) (tab (len * ty.size) 0 F)⟩ cs (fresh O') (fresh_new O') (by rw [hst.ctx]; exact hfresh) rfl hwf (by simp [hcs]) (fun j hj => by
  obtain ⟨u, hu, hr, _⟩ := hcc j hj
  refine ⟨u, hu, ?_⟩
  have e1 := toOC_get (u8 := isU8 C e) (l := tab (len * ty.size) 0 F) (j := j) (by rw [(tab_get _ _ _).1]; exact hj)
  show ((toOC _ _).get j).Rep _ _ _ _ _
  rw [e1, List.getD_eq_getElem?_getD, (tab_get _ _ _).2 j hj, Option.getD_some, Nat.zero_add]
  exact hr)
 unfold Oper.wp
 rw [hrun]
 refine hK fr' _ _ _ _ _ hF (hst.goes g (fun _ _ _ => trivial)) ⟨?_, .inl ⟨_, len, e, cs.size, Hp.get_cons_same _ _ _, by simp, by simp, Nat.le_refl _, by simp, ?_, by simp [hcs]⟩⟩ (fun h => by rw [ho] at h; cases h)
 ·have : len * 1 <= len * ty.size := Nat.mul_le_mul_left _ hpos
  simp only [maxLen]; omega
 ·simp only [Loc.set_same]
  exact shape_of_cells (heap_alloc_new w _)
def mkA (C : Ctx) (fr : Fr) (O : Hp) (T : TypeId) (l c : BV) (k : OpK) : Prop :=
 match ((C.ty T).map (·.d) : Option TyD) with
 | some (.slice e) => match C.ty e, l.toI, c.toI with
  | some ty, some l, some c => match ty.zero with
   | some z => (0 <= l /\ l <= c /\ c * ty.bytes <= 281474976710656) /\ 0 < ty.bytes /\ 0 < ty.size /\ fresh O ∉ C.pins /\
    match isU8 C e with
    | true => ty.size = 1 /\ cst (z 0) = .u8 0 /\ k fr (.own (fresh O) 0 l.toNat) ((fresh O, ⟨e, 1, l.toNat, true, .bs (List.replicate l.toNat 0)⟩) :: O)
    | false => k fr (.own (fresh O) 0 l.toNat) ((fresh O, ⟨e, ty.size, l.toNat * ty.size, true, .rows (fun j => cst (z (j % ty.size)))⟩) :: O)
   | none => False
  | _, _, _ => False
 | _ => False
theorem run_make {P : Program} {T e : TypeId} {ty : Ty} (hT : P.underlying T = some (.slice e)) (hok : TyOK P e ty) {z : Nat -> Value} (hz : ty.zero = some z) {k1 k2 : IntKind} {l c : Int} (h0 : 0 <= l) (h1 : l <= c) (hb : c * ty.bytes <= 281474976710656) (hb0 : 0 < ty.bytes) (w : World) :
  ∃ cs : Array Value, (Instr.makeSlice T (.int k1 l) (.int k2 c)).run P w = .ok (.slice (some ⟨w.heap.size, 0, none⟩) l.toNat c.toNat) (w.alloc (.cells cs e)) /\ cs.size = c.toNat * ty.size /\
   ∀ j, j < c.toNat * ty.size -> cs[j]? = some (z (j % ty.size)) := by
 obtain ⟨⟨i, hi, his, hib, hzz⟩, _⟩ := hok
 obtain ⟨⟨zv, hzv, hzl⟩, _⟩ := hzz z hz
 have hzs : zv.cells.size = ty.size := by rw [<- Array.length_toList, hzl]; simp
 have hcle : c <= 281474976710656 := by
  have : c * 1 <= c * ty.bytes := Int.mul_le_mul_of_nonneg_left (by omega) (by omega)
  omega
 have w1 : IntKind.i64.wrap l = l := wrap_i64 (by omega) (by omega)
 have w2 : IntKind.i64.wrap c = c := wrap_i64 (by omega) (by omega)
 have hbc : ¬ ((i.bytes : Int) * c > 281474976710656) := by rw [hib, Int.mul_comm]; omega
 have hbad : ((decide (c < 0) || decide ((i.bytes : Int) * c > 2 ^ 48)) || decide (l < 0) || decide (l > c)) = false := by
  simp only [Bool.or_eq_false_iff, decide_eq_false_iff_not]
  exact ⟨⟨⟨by omega, hbc⟩, by omega⟩, by omega⟩
 have hzr : (zeroValue e).run P w = .ok zv w := by simp [zeroValue, typeInfo, hi, hzv]
 refine ⟨(Array.range (c.toNat * ty.size)).map (zv.cells[· % zv.cells.size]!), ?_, by simp, fun j hj => ?_⟩
 ·simp only [Instr.makeSlice, Sem.run_bind, run_underlying hT, Result.andThen_ok, asInt, asIntOf, Sem.run_pure, typeInfo, run_program, hi, w1, w2, hbad, Bool.false_eq_true, if_false, run_askRoom, sizeOf, Sem.run_ite, his]
  by_cases h0 : c.toNat * ty.size = 0
  ·rw [if_pos h0, row_nil h0 _ (zv.cells[· % zv.cells.size]!)]
   simp [newRow]
  ·rw [if_neg h0, hzr]
   simp [newRow]
 ·have hpos : 0 < ty.size := by
   rcases Nat.eq_zero_or_pos ty.size with h | h
   ·rw [h] at hj; omega
   ·exact h
  have hjm : j % ty.size < ty.size := Nat.mod_lt _ hpos
  have hlt : j % ty.size < zv.cells.size := by omega
  rw [Array.getElem?_map, Array.getElem?_range, if_pos hj]
  simp only [Option.map_some, Option.some.injEq]
  rw [hzs, getElem!_pos zv.cells _ hlt]
  have h5 : zv.cells.toList[j % ty.size]? = some (z (j % ty.size)) := by rw [hzl]; simp [hjm]
  have h6 : zv.cells[j % ty.size]? = some (z (j % ty.size)) := by simpa using h5
  rw [Array.getElem?_eq_getElem hlt] at h6
  exact Option.some.inj h6
theorem mkA_ok {C : Ctx} {o : Oper} {T : TypeId} {l c : Operand} (ho : o.op = .makeSlice T l c) {fr : Fr} {O : Hp} {k : OpK} (h : mkA C fr O T (Fr.ev C fr l) (Fr.ev C fr c) k) : OpOK C o fr O k := by
 unfold mkA at h
 split at h
 case h_2 => exact h.elim
 rename_i e hT
 split at h
 case h_2 => exact h.elim
 rename_i ty li ci hty hl hc
 split at h
 case h_2 => exact h.elim
 rename_i z hz
 obtain ⟨⟨h0, h1, hb⟩, hb0, hs0, hfr, h⟩ := h
 intro E β a w hst K Q hK
 have hTT : C.P.underlying T = some (.slice e) := by
  obtain ⟨t, ht, hd⟩ := Option.map_eq_some_iff.1 hT
  have := (hst.ty ht).2
  rw [hd] at this
  exact this
 obtain ⟨k1, e1⟩ := BV.toI_rep hl (hst.ev l)
 obtain ⟨k2, e2⟩ := BV.toI_rep hc (hst.ev c)
 obtain ⟨cs, hr, hcs, hcc⟩ := run_make (k1 := k1) (k2 := k2) hTT (hst.ty hty) hz h0 h1 hb hb0 w
 have hrun : (execOp a.eval o).run C.P w = .ok (.value (.slice (some ⟨w.heap.size, 0, none⟩) li.toNat ci.toNat)) (w.alloc (.cells cs e)) := by
  simp only [execOp, ho]
  exact run_v (by rw [e1, e2]; exact hr)
 have hle : li.toNat <= ci.toNat := by omega
 have hle2 : li.toNat * ty.size <= ci.toNat * ty.size := Nat.mul_le_mul_right _ hle
 have hmax : li.toNat <= maxLen := by
  have : ci * 1 <= ci * ty.bytes := Int.mul_le_mul_of_nonneg_left (by omega) (by omega)
  simp only [maxLen]; omega
 unfold Oper.wp
 rw [hrun]
 split at h
 ·obtain ⟨hs1, hz0, h⟩ := h
  have g := hst.core.alloc ⟨e, 1, li.toNat, true, .bs (List.replicate li.toNat 0)⟩ cs (fresh O) (fresh_new O) (by rw [hst.ctx]; exact hfr) rfl ⟨rfl, by simp⟩ (by rw [hcs, hs1]; simp; omega) (fun j hj => by
   have hj' : j < li.toNat := hj
   refine ⟨z (j % ty.size), hcc j (by rw [hs1]; omega), ?_⟩
   have hj0 : j % ty.size = 0 := by rw [hs1]; omega
   have hget : (List.replicate li.toNat (0 : UInt8)).getD j 0 = 0 := by
    simp [List.getD_eq_getElem?_getD, hj']
   show (PV.u8 ((List.replicate li.toNat (0 : UInt8)).getD j 0)).Rep _ w _
   rw [hget, <- hz0, hj0]
   exact cst_rep _ _ _)
  refine hK fr _ _ _ _ _ h (hst.goes g (fun _ _ _ => trivial)) ⟨hmax, .inl ⟨_, ci.toNat, e, cs.size, Hp.get_cons_same _ _ _, by simp, by simp, hle, by simp, ?_, by simp [hcs, hs1]⟩⟩ (fun h => by rw [ho] at h; cases h)
  simp only [Loc.set_same]
  exact shape_of_cells (heap_alloc_new w _)
 ·have g := hst.core.alloc ⟨e, ty.size, li.toNat * ty.size, true, .rows (fun j => cst (z (j % ty.size)))⟩ cs (fresh O) (fresh_new O) (by rw [hst.ctx]; exact hfr) rfl trivial (by rw [hcs]; exact hle2) (fun j hj => by
   have hj' : j < li.toNat * ty.size := hj
   exact ⟨z (j % ty.size), hcc j (by omega), cst_rep _ _ _⟩)
  refine hK fr _ _ _ _ _ h (hst.goes g (fun _ _ _ => trivial)) ⟨hmax, .inl ⟨_, ci.toNat, e, cs.size, Hp.get_cons_same _ _ _, by simp, by simp, hle, by simp, ?_, by simp [hcs]⟩⟩ (fun h => by rw [ho] at h; cases h)
  simp only [Loc.set_same]
  exact shape_of_cells (heap_alloc_new w _)
def OC.put (c : OC) (off : Nat) (x : BV) : Option OC :=
 match c, x with
 | .bs l, .p (.u8 b) => some (.bs (l.set off b))
 | .rows f, .p y => some (.rows (fun j => if j = off then y else f j))
 | .cells l, x => some (.cells (l.set off x))
 | _, _ => none
theorem OC.put_get {c c' : OC} {off n : Nat} {x : BV} (h : c.put off x = some c') (hoff : off < n) (hw : ∀ l, c = .bs l -> l.length = n) (hw2 : ∀ l, c = .cells l -> l.length = n) : (∀ j, j < n -> c'.get j = if j = off then x else c.get j) := by
 unfold OC.put at h
 split at h <;> cases h <;> intro j hj
 ·rename_i l b
  have := hw l rfl
  by_cases hjo : j = off
  ·subst hjo; simp [OC.get, List.getD_eq_getElem?_getD, this, hj]
  ·simp [OC.get, List.getD_eq_getElem?_getD, hjo, List.getElem?_set_ne (Ne.symm hjo)]
 ·rename_i f y
  by_cases hjo : j = off <;> simp [OC.get, hjo]
 ·rename_i l
  have := hw2 l rfl
  by_cases hjo : j = off
  ·subst hjo; simp [OC.get, List.getD_eq_getElem?_getD, this, hj]
  ·simp [OC.get, List.getD_eq_getElem?_getD, hjo, List.getElem?_set_ne (Ne.symm hjo)]
def stoA (C : Ctx) (O : Hp) (T : TypeId) (p x : BV) (kk : Hp -> Prop) : Prop :=
 match C.ty T, p with
 | some ty, .ptr t off => ty.d.agg = false /\ ty.size = 1 /\ x.one /\ match Hp.get O t with
  | some ob => off < ob.n /\ match ob.c.put off x with
   | some c' => kk (Hp.set O t { ob with c := c' })
   | none => False
  | none => False
 | _, _ => False
theorem run_store_cell {P : Program} {T : TypeId} {ty : Ty} (hok : TyOK P T ty) (hs : ty.size = 1) {w : World} {b i : Nat} {v y : Value} (hv : v.cells = #[v]) (h1 : v.oneCell' = true) (hc : w.cell? ⟨b, i, none⟩ = some y) (hf : w.frozen? ⟨b, i, none⟩ = false) :
  (Instr.storeAt T (.pointer (some ⟨b, i, none⟩)) v).run P w = .ok () (w.setCell ⟨b, i, none⟩ v) := by
 obtain ⟨inf, hi, his, _⟩ := hok.info
 have hadd : (⟨b, i, none⟩ : Addr).add 0 = ⟨b, i, none⟩ := by simp [Addr.add]
 have hst : (store ⟨b, i, none⟩ v).run P w = .ok () (w.setCell ⟨b, i, none⟩ v) := by rw [run_store P w _ v .plain h1, hc]; simp [hf]
 simp [Instr.storeAt, Instr.sureAddr, storeVar, sizeOf, typeInfo, hi, his, hs, hv, storeCells, hadd, hst]
theorem stoA_ok {C : Ctx} {o : Oper} {T : TypeId} {p x : Operand} (ho : o.op = .store T p x) {fr : Fr} {O : Hp} {k : OpK} (h : stoA C O T (Fr.ev C fr p) (Fr.ev C fr x) fun O' => k fr .dead O') : OpOK C o fr O k := by
 unfold stoA at h
 split at h
 case h_2 => exact h.elim
 rename_i ty t off hty hp
 obtain ⟨hagg, hs, hone, h⟩ := h
 split at h
 case h_2 => exact h.elim
 rename_i ob hob
 obtain ⟨hoff, h⟩ := h
 split at h
 case h_2 => exact h.elim
 rename_i c' hc'
 refine OpOK.skip (by rw [ho]; rfl) h fun E β a w hst => ?_
 have hpr := hst.ev p
 rw [hp] at hpr
 obtain ⟨ob', hob', hre, _, ep⟩ := hpr
 have hxr := hst.ev x
 obtain ⟨hv1, hv2⟩ := BV.one_cells hxr hone
 obtain ⟨y, hy, hf, _⟩ := hst.core.mem.cell hob hoff
 have hw := hst.core.mem.wf t ob hob
 have g := hst.core.store hob hoff c' (a.eval x) (Fr.ev C fr x) hxr (OC.put_get hc' hoff (fun l hl => by rw [OB.wf, hl] at hw; exact hw.2) (fun l hl => by rw [OB.wf, hl] at hw; exact hw)) (by
  unfold OC.put at hc'
  split at hc' <;> cases hc'
  ·rename_i l b heq _; rw [OB.wf, heq] at hw; exact ⟨hw.1, by simpa using hw.2⟩
  ·trivial
  ·rename_i l heq; rw [OB.wf, heq] at hw; show (l.set off _).length = ob.n; simpa using hw)
 refine ⟨β, _, ?_, hst.goes g (fun _ _ _ => trivial)⟩
 simp only [execOp, ho]
 rw [ep]
 have hr := run_store_cell (P := C.P) (hst.ty hty) hs hv1 hv2 hy hf
 simp [hr]
theorem run_app_grow {P : Program} (w : World) (T T' ty e : TypeId) (i : TypeInfo) (z : Value) (d : TypeDesc) (ht : P.underlying T = some (.slice e)) (ht' : P.underlying T' = some d) (hd : d = .string ∨ ∃ e', d = .slice e') (hi : P.info? e = some i) (hz : i.zero = some z)
  (A : Option Addr) (n c : Nat) (olds : List Value) (holds : ∀ W, (W = w ∨ W = w.drew) -> (Builtin.firstCells i.size n (.slice A n c)).run P W = .ok olds.toArray W)
  (yv : Value) (m : Nat) (hlen : ∀ W, (Builtin.lenOf yv).run P W = .ok m W) (news : List Value) (hnews : ∀ W, (W = w ∨ W = w.drew) -> (Builtin.firstCells i.size m yv).run P W = .ok news.toArray W)
  (hg : c < n + m) (h63 : ((n + m : Nat) : Int) <= 9223372036854775807) (hfit : Builtin.nextslicecap (n + m) c * i.bytes <= 281474976710656) :
  (Builtin.append_ #[T, T'] ty #[.slice A n c, yv]).run P w =
   .ok (.slice (some ⟨w.heap.size, 0, none⟩) (n + m) (grownCap w (n + m) c e))
    (w.drew.alloc (.cells (olds.toArray ++ news.toArray ++ Builtin.zeroCells z.cells (grownCap w (n + m) c e - (n + m))) e)) := by
 have hn : ¬ (n + m <= c) := by omega
 have h63' : ¬ (9223372036854775807 < ((n : Int) + (m : Int))) := by omega
 have h48' : ¬ (281474976710656 < Builtin.nextslicecap (n + m) c * i.bytes) := by omega
 have hf := hnews w.drew (.inr rfl)
 have hfo := holds w.drew (.inr rfl)
 have hzz : (match d with | .int _ => true | _ => false : Bool) = false := by rcases hd with rfl | ⟨e', rfl⟩ <;> rfl
 rcases hd with rfl | ⟨e', rfl⟩ <;>
 ·simp [Builtin.append_, run_underlying ht, run_underlying ht', sizeOf, typeInfo, zeroValue, hi, hz, hlen, hn, h63', h48', Question.forced, hf, hfo, newRow, grownCap]
  try (congr 2; apply Array.ext'; simp [List.append_assoc])
theorem run_app_room {P : Program} (w w' : World) (T T' ty e : TypeId) (i : TypeInfo) (d : TypeDesc) (ht : P.underlying T = some (.slice e)) (ht' : P.underlying T' = some d) (hd : d = .string ∨ ∃ e', d = .slice e') (hi : P.info? e = some i)
  (A : Option Addr) (n c : Nat) (yv : Value) (m : Nat) (hlen : ∀ W, (Builtin.lenOf yv).run P W = .ok m W) (news : List Value) (hnews : (Builtin.firstCells i.size m yv).run P w = .ok news.toArray w)
  (hg : n + m <= c) (hst : ∀ a, A = some a -> (storeCells (a.add (n * i.size)) news).run P w = .ok () w') (hnil : A = none -> w' = w) :
  (Builtin.append_ #[T, T'] ty #[.slice A n c, yv]).run P w = .ok (.slice A (n + m) c) w' := by
 cases A with
 | none =>
  obtain rfl := hnil rfl
  rcases hd with rfl | ⟨e', rfl⟩ <;> simp [Builtin.append_, run_underlying ht, run_underlying ht', sizeOf, typeInfo, hi, hlen, hg, hnews]
 | some a =>
  have hs := hst a rfl
  rcases hd with rfl | ⟨e', rfl⟩ <;> simp [Builtin.append_, run_underlying ht, run_underlying ht', sizeOf, typeInfo, hi, hlen, hg, hnews, hs]
inductive Sr where
 | bs (l : List UInt8)
 | rows (g : Nat -> PV)
def Sr.get : Sr -> Nat -> PV
 | .bs l, j => .u8 (l.getD j 0)
 | .rows g, j => g j
def Sr.oc : Sr -> OC
 | .bs l => .bs l
 | .rows g => .rows g
theorem Sr.oc_get (s : Sr) (j : Nat) : s.oc.get j = .p (s.get j) := by cases s <;> rfl
def PV.one : PV -> Prop
 | .v x => x.oneCell' = true
 | _ => True
theorem PV.one_cells {U : Addr -> Prop} {w : World} {x : PV} {u : Value} (hx : x.Rep U w u) (h : x.one) : u.oneCell' = true :=
 (BV.one_cells (β := fun _ => ⟨0, 0, false⟩) (O := []) (x := .p x) (U := U) hx (by cases x <;> first | exact h | trivial)).2
def srcA (O : Hp) (u8 : Bool) (s : Nat) (x : BV) (kk : Nat -> Sr -> Prop) : Prop :=
 match x with
 | .p (.bs l) => s = 1 /\ kk l.length (.bs l)
 | .p (.str l) => s = 1 /\ kk l.length (.bs l)
 | .p (.v (.slice none 0 0)) => match u8 with
  | true => kk 0 (.bs [])
  | false => kk 0 (.rows fun _ => .u8 0)
 | .p (.sl n s' g) => s' = s /\ (∀ j, j < n * s -> (g j).one) /\ kk n (.rows g)
 | .own t off n => match Hp.get O t with
  | some ob => ob.s = s /\ match ob.c with
   | .bs l => kk n (.bs ((l.drop off).take n))
   | .rows g => (∀ j, j < n * s -> (g (off + j)).one) /\ kk n (.rows fun j => g (off + j))
   | .cells _ => False
  | none => False
 | _ => False
def catA (c : OC) (off n s : Nat) (sr : Sr) : Option OC :=
 match c, sr with
 | .bs l0, .bs l => some (.bs ((l0.drop off).take n ++ l))
 | .rows f, .rows g => some (.rows fun j => if j < n * s then f (off + j) else g (j - n * s))
 | _, _ => none
def strOrSl (C : Ctx) (T : TypeId) : Bool :=
 match ((C.ty T).map (·.d) : Option TyD) with
 | some .string => true
 | some (.slice _) => true
 | _ => false
def appA (C : Ctx) (fr : Fr) (O : Hp) (T T2 : TypeId) (d x : BV) (k : OpK) : Prop :=
 match ((C.ty T).map (·.d) : Option TyD) with
 | some (.slice e) => match C.ty e with
  | none => False
  | some ty => ty.zero.isSome = true /\ (isU8 C e = true -> ty.size = 1) /\ 0 < ty.size /\ 0 < ty.bytes /\ strOrSl C T2 = true /\
   srcA O (isU8 C e) ty.size x fun m sr =>
    match d with
    | .p (.v (.slice none 0 0)) => (fresh O ∈ C.pins -> False) /\ m * ty.bytes <= 140737488355328 /\
      k fr (.own (fresh O) 0 m) ((fresh O, ⟨e, ty.size, m * ty.size, true, sr.oc⟩) :: O)
    | .own t off n => match Hp.get O t with
     | none => False
     | some ob => ob.whole = true /\ ob.s = ty.size /\ ob.E = e /\ (t ∈ C.pins -> False) /\ (n + m) * ty.bytes <= 140737488355328 /\
      match catA ob.c off n ty.size sr with
      | none => False
      | some c' => k (Fr.kill t fr) (.own t 0 (n + m)) ((t, ⟨e, ty.size, (n + m) * ty.size, true, c'⟩) :: Hp.kill t O)
    | _ => False
 | _ => False
theorem run_first {P : Program} (W : World) (s m : Nat) (A : Option Addr) (c : Nat) (news : List Value) (hl : news.length = m * s) (h : ∀ j v, news[j]? = some v -> ∃ a, A = some a /\ W.cell? (a.add j) = some v) :
  (Builtin.firstCells s m (.slice A m c)).run P W = .ok news.toArray W := by
 cases A with
 | none =>
  have : news = [] := by
   cases news with
   | nil => rfl
   | cons v r => obtain ⟨a, ha, _⟩ := h 0 v rfl; cases ha
  subst this
  exact run_firstCells_none W s m m c
 | some a =>
  exact run_firstCells_some W s m a m c news hl fun j v hj => by
   obtain ⟨a', ha, hc⟩ := h j v hj
   cases ha; exact hc
theorem srcA_ok {C : Ctx} {E : Env} {β : Loc} {fr : Fr} {O : Hp} {a : Act} {w : World} (hst : St C E β fr O a w) {u8 : Bool} {s : Nat} {x : BV} {kk : Nat -> Sr -> Prop} (hu8 : u8 = true -> s = 1) (h : srcA O u8 s x kk) {u : Value} (hx : x.Rep (Un E.N β O) β O w u) :
  ∃ m sr, kk m sr /\ ∃ news : List Value, news.length = m * s /\ (∀ j, j < m * s -> ∃ y, news[j]? = some y /\ (sr.get j).Rep (Un E.N β O) w y /\ y.oneCell' = true) /\
   (∀ l, sr = .bs l -> s = 1 /\ l.length = m) /\ (∀ W, (Builtin.lenOf u).run C.P W = .ok m W) /\ (∀ W, (W = w ∨ W = w.drew) -> (Builtin.firstCells s m u).run C.P W = .ok news.toArray W) := by
 have rd : ∀ (m : Nat) (A : Option Addr) (c : Nat) (g : Nat -> PV), (∀ j, j < m * s -> (g j).one) -> (∀ j, j < m * s -> ∃ a y, A = some a /\ w.cell? (a.add j) = some y /\ (g j).Rep (Un E.N β O) w y) ->
   ∃ news : List Value, news.length = m * s /\ (∀ j, j < m * s -> ∃ y, news[j]? = some y /\ (g j).Rep (Un E.N β O) w y /\ y.oneCell' = true) /\ (∀ W, (W = w ∨ W = w.drew) -> (Builtin.firstCells s m (.slice A m c)).run C.P W = .ok news.toArray W) := by
  intro m A c g hone hc
  have hlist : ∃ news : List Value, news.length = m * s /\ ∀ j, j < m * s -> ∃ y, news[j]? = some y /\ (∃ a, A = some a /\ w.cell? (a.add j) = some y) /\ (g j).Rep (Un E.N β O) w y := by
   refine ⟨(List.range (m * s)).map (fun j => match A with | some a => (w.cell? (a.add j)).getD undef | none => undef), by simp, fun j hj => ?_⟩
   obtain ⟨a, y, rfl, hy, hr⟩ := hc j hj
   exact ⟨y, by simp [hj, hy], ⟨a, rfl, hy⟩, hr⟩
  obtain ⟨news, hl, hn⟩ := hlist
  refine ⟨news, hl, fun j hj => ?_, fun W hW => ?_⟩
  ·obtain ⟨y, hy, _, hr⟩ := hn j hj
   exact ⟨y, hy, hr, PV.one_cells hr (hone j hj)⟩
  ·refine run_first W s m A c news hl fun j v hj => ?_
   have hjl : j < m * s := by rw [<- hl]; exact (List.getElem?_eq_some_iff.1 hj).1
   obtain ⟨y, hy, ⟨a, ha, hca⟩, _⟩ := hn j hjl
   rw [hj] at hy; cases hy
   refine ⟨a, ha, ?_⟩
   rcases hW with rfl | rfl
   ·exact hca
   ·exact hca
 unfold srcA at h
 split at h
 ·rename_i l
  obtain ⟨rfl, h⟩ := h
  obtain ⟨hn, A, c, rfl, hc, hcells⟩ := hx
  obtain ⟨news, h1, h2, h3⟩ := rd l.length A c (Sr.bs l).get (fun j _ => by simp [Sr.get, PV.one]) (fun j hj => by
   obtain ⟨a, hA, _, hy⟩ := hcells j (by omega)
   exact ⟨a, _, hA, hy, rfl⟩)
  exact ⟨_, _, h, news, h1, h2, fun l' e => by cases e; exact ⟨rfl, rfl⟩, fun W => by simp [Builtin.lenOf], h3⟩
 ·rename_i l
  obtain ⟨rfl, h⟩ := h
  have e : u = .string ⟨l.toArray⟩ := hx
  subst e
  have hsz : (⟨l.toArray⟩ : ByteArray).size = l.length := List.size_toArray ..
  refine ⟨_, _, h, l.map (fun b => .int .u8 (b.toNat : Int)), by simp, fun j hj => ?_, fun l' e => by cases e; exact ⟨rfl, rfl⟩, fun W => by simp [Builtin.lenOf, hsz], fun W _ => ?_⟩
  ·have hj' : j < l.length := by omega
   exact ⟨.int .u8 ((l[j]).toNat : Int), by simp [hj'], by simp [Sr.get, PV.Rep, List.getD_eq_getElem?_getD, List.getElem?_eq_getElem hj'], rfl⟩
  ·have hex : (⟨l.toArray⟩ : ByteArray).extract 0 l.length = ⟨l.toArray⟩ := by
    apply ByteArray.ext
    rw [ByteArray.data_extract]
    apply Array.ext'
    simp
   simp only [Builtin.firstCells, hex, Sem.run_pure]
   congr 1
   apply Array.ext'
   simp
 ·split at h
  ·have e : u = .slice none 0 0 := hx
   subst e
   exact ⟨_, _, h, [], by simp, fun j hj => by omega, fun l' e => by cases e; exact ⟨hu8 rfl, rfl⟩, fun W => by simp [Builtin.lenOf], fun W _ => run_firstCells_none W s 0 0 0⟩
  ·have e : u = .slice none 0 0 := hx
   subst e
   exact ⟨_, _, h, [], by simp, fun j hj => by omega, fun l' e => (by cases e), fun W => by simp [Builtin.lenOf], fun W _ => run_firstCells_none W s 0 0 0⟩
 ·rename_i n s' g
  obtain ⟨rfl, hone, h⟩ := h
  obtain ⟨hn, A, c, rfl, hc, hcells⟩ := hx
  obtain ⟨news, h1, h2, h3⟩ := rd n A c g hone (fun j hj => by
   obtain ⟨a, y, hA, _, hy, hr⟩ := hcells j hj
   exact ⟨a, y, hA, hy, hr⟩)
  exact ⟨_, _, h, news, h1, h2, fun l' e => (by cases e), fun W => by simp [Builtin.lenOf], h3⟩
 ·rename_i t off n
  split at h
  case h_2 => exact h.elim
  rename_i ob hob
  obtain ⟨rfl, h⟩ := h
  split at h
  ·rename_i l hl
   have hw := hst.core.mem.wf t ob hob
   rw [OB.wf, hl] at hw
   obtain ⟨A, c, rfl, hcap, hlen, hcells⟩ := hst.core.own_bs hob hl hx
   obtain ⟨news, h1, h2, h3⟩ := rd n A c (Sr.bs ((l.drop off).take n)).get (fun j _ => by simp [Sr.get, PV.one]) (fun j hj => by
    rw [hw.1] at hj
    obtain ⟨a, hA, hy⟩ := hcells j (by rw [hlen]; omega)
    exact ⟨a, _, hA, hy, rfl⟩)
   have hlen' := hlen
   rw [hlen]
   exact ⟨_, _, h, news, h1, h2, fun l' e => by cases e; exact ⟨hw.1, hlen'⟩, fun W => by simp [Builtin.lenOf], h3⟩
  ·rename_i g hg
   obtain ⟨hone, h⟩ := h
   obtain ⟨hn, A, c, rfl, hcap, hcells⟩ := hst.core.own_cells hob hx
   obtain ⟨news, h1, h2, h3⟩ := rd n A c (fun j => g (off + j)) hone (fun j hj => by
    obtain ⟨a, y, hA, _, _, hy, hr⟩ := hcells j hj
    rw [hg] at hr
    exact ⟨a, y, hA, hy, hr⟩)
   exact ⟨_, _, h, news, h1, h2, fun l' e => (by cases e), fun W => by simp [Builtin.lenOf], h3⟩
  ·exact h.elim
 ·exact h.elim
theorem Keep.setCells (b : Nat) : ∀ (vs : List Value) (o : Nat) (w : World), Keep (fun a => a.block = b) w (w.setCells b o vs)
 | [], o, w => Keep.refl _ _
 | v :: r, o, w => ((Keep.setCell w b o v).mono (fun a ha => by rw [ha])).then (Keep.setCells b r (o + 1) _) (fun a ha => .inl ha)
theorem heap_setCells (b : Nat) : ∀ (vs : List Value) (o : Nat) (w : World) (cs : Array Value) (E : TypeId) (fr : Nat × Nat), w.heap[b]? = some (.cells cs E fr) ->
  ∃ cs' : Array Value, (w.setCells b o vs).heap[b]? = some (.cells cs' E fr) /\ cs'.size = cs.size /\ ∀ i, i < cs.size -> cs'[i]? = if o <= i /\ i < o + vs.length then vs[i - o]? else cs[i]?
 | [], o, w, cs, E, fr, h => ⟨cs, h, rfl, fun i hi => by rw [if_neg (by simp)]⟩
 | v :: r, o, w, cs, E, fr, h => by
  obtain ⟨cs', h1, h2, h3⟩ := heap_setCells b r (o + 1) (w.setCell ⟨b, o, none⟩ v) _ E fr (heap_setCell_same h)
  refine ⟨cs', h1, by simpa using h2, fun i hi => ?_⟩
  rw [h3 i (by simpa using hi)]
  simp only [List.length_cons]
  by_cases h4 : o + 1 <= i /\ i < o + 1 + r.length
  ·rw [if_pos h4, if_pos (by omega), show i - o = (i - (o + 1)) + 1 from by omega, List.getElem?_cons_succ]
  ·rw [if_neg h4]
   by_cases h5 : i = o
   ·subst h5
    rw [if_pos (by omega), Array.getElem?_setIfInBounds_self_of_lt hi]
    simp
   ·rw [if_neg (by omega), Array.getElem?_setIfInBounds_ne (by omega)]
theorem Core.phantom {E : Env} {β : Loc} {O : Hp} {w : World} (h : Core E β O w) (t : Nat) (ht : Hp.get O t = none) (hp : t ∉ E.c.pins) (T : TypeId) (s : Nat) (c : OC) (hwf : OB.wf ⟨T, s, 0, true, c⟩) :
  Goes E β O w (β.set t ⟨0, 0, false⟩) ((t, ⟨T, s, 0, true, c⟩) :: O) w (fun _ => True) := by
 have hne : ∀ k o, Hp.get O k = some o -> k ≠ t := fun k o hk e => by subst e; rw [ht] at hk; cases hk
 have hcase : ∀ k o, Hp.get ((t, ⟨T, s, 0, true, c⟩) :: O) k = some o -> (k = t /\ o = ⟨T, s, 0, true, c⟩ /\ (β.set t ⟨0, 0, false⟩) k = ⟨0, 0, false⟩) ∨ (k ≠ t /\ Hp.get O k = some o /\ (β.set t ⟨0, 0, false⟩) k = β k) := by
  intro k o hk
  by_cases hkt : k = t
  ·subst hkt; rw [Hp.get_cons_same] at hk; cases hk; exact .inl ⟨rfl, rfl, by simp⟩
  ·rw [Hp.get_cons_other _ _ (Ne.symm hkt)] at hk; exact .inr ⟨hkt, hk, Loc.set_other β _ hkt⟩
 have hnc : ∀ o : OB, ∀ a, ¬ o.cov ⟨0, 0, false⟩ a := fun o a hc => by cases hc.1
 have hown : ∀ a, Owns (β.set t ⟨0, 0, false⟩) ((t, ⟨T, s, 0, true, c⟩) :: O) a -> Owns β O a := by
  rintro a ⟨k, o, hk, hc⟩
  rcases hcase k o hk with ⟨_, _, e⟩ | ⟨_, hg, e⟩
  ·rw [e] at hc; exact (hnc _ _ hc).elim
  ·rw [e] at hc; exact ⟨k, o, hg, hc⟩
 have hst : Stab (Un E.N β O) (Un E.N (β.set t ⟨0, 0, false⟩) ((t, ⟨T, s, 0, true, c⟩) :: O)) w w := fun a y hU hy => ⟨fun hx => hU (hx.imp id (hown a)), hy⟩
 have hk : ∀ k, KeepsTag β O w (β.set t ⟨0, 0, false⟩) ((t, ⟨T, s, 0, true, c⟩) :: O) w k := fun k o hk =>
  ⟨Loc.set_other β _ (hne k o hk), o, by rw [Hp.get_cons_other _ _ (Ne.symm (hne k o hk))]; exact hk, rfl, Nat.le_refl _, fun E0 sz hs => ⟨E0, sz, hs, Nat.le_refl _⟩⟩
 refine ⟨⟨h.ok, ⟨?_, ?_, ?_, ?_, ?_, ?_⟩, h.keep, ?_, ?_, h.rows⟩, hst, fun k _ => hk k⟩
 ·intro k o hk
  rcases hcase k o hk with ⟨_, rfl, _⟩ | ⟨_, hg, _⟩
  ·exact hwf
  ·exact h.mem.wf k o hg
 ·intro k o hk
  rcases hcase k o hk with ⟨_, rfl, _⟩ | ⟨_, hg, e⟩
  ·exact .inl rfl
  ·rw [e]; exact h.mem.pos k o hg
 ·intro k o hk hre
  rcases hcase k o hk with ⟨_, rfl, _⟩ | ⟨_, hg, e⟩
  ·rfl
  ·rw [e] at hre; exact h.mem.obj0 k o hg hre
 ·intro k o hk' hre
  rcases hcase k o hk' with ⟨_, rfl, e⟩ | ⟨_, hg, e⟩
  ·rw [e] at hre; cases hre
  ·rw [e] at hre ⊢
   obtain ⟨cs, fr, h1, h2, h3, h4, h5⟩ := h.mem.obj k o hg hre
   exact ⟨cs, fr, h1, h2, h3, h4, fun j hj => let ⟨u, hu, hr⟩ := h5 j hj; ⟨u, hu, BV.Rep.tr hst _ _ (fun t _ => hk t) hr⟩⟩
 ·intro k o k' o' hk hk' hne' a ha ha'
  rcases hcase k o hk with ⟨_, rfl, e⟩ | ⟨_, hg, e⟩
  ·rw [e] at ha; exact hnc _ _ ha
  ·rcases hcase k' o' hk' with ⟨_, rfl, e'⟩ | ⟨_, hg', e'⟩
   ·rw [e'] at ha'; exact hnc _ _ ha'
   ·rw [e] at ha; rw [e'] at ha'
    exact h.mem.disj k o k' o' hg hg' hne' a ha ha'
 ·intro k o hk a ha
  rcases hcase k o hk with ⟨_, rfl, e⟩ | ⟨_, hg, e⟩
  ·rw [e] at ha; exact (hnc _ _ ha).elim
  ·rw [e] at ha; exact h.mem.notN k o hg a ha
 ·intro k o hk a ha
  rcases hcase k o hk with ⟨_, rfl, e⟩ | ⟨_, hg, e⟩
  ·rw [e] at ha; exact (hnc _ _ ha).elim
  ·rw [e] at ha; exact h.dom k o hg a ha
 ·intro k hk'
  rw [Loc.set_other β _ (fun e => hp (by rw [<- e]; exact hk'))]
  exact h.pins k hk'
theorem catA_get {c c' : OC} {off n s : Nat} {sr : Sr} (h : catA c off n s sr = some c') {N m : Nat} (hw : ∀ l, c = .bs l -> s = 1 /\ l.length = N) (hfit : off + n * s <= N ∨ n = 0) (hsr : ∀ l, sr = .bs l -> s = 1 /\ l.length = m) :
  (∀ j, j < (n + m) * s -> c'.get j = if j < n * s then c.get (off + j) else .p (sr.get (j - n * s))) /\ OB.wf ⟨0, s, (n + m) * s, true, c'⟩ := by
 unfold catA at h
 split at h <;> cases h
 ·rename_i l0 l
  obtain ⟨rfl, hl0⟩ := hw l0 rfl
  obtain ⟨_, hl⟩ := hsr l rfl
  have hn : ((l0.drop off).take n).length = n := by simp; omega
  refine ⟨fun j hj => ?_, rfl, by simp only [List.length_append, hn, hl]; omega⟩
  simp only [OC.get, Sr.get]
  by_cases hjn : j < n * 1
  ·rw [if_pos hjn]
   congr 2
   simp only [List.getD_eq_getElem?_getD]
   rw [List.getElem?_append_left (by omega), List.getElem?_take, if_pos (by omega), List.getElem?_drop]
  ·rw [if_neg hjn]
   congr 2
   simp only [List.getD_eq_getElem?_getD]
   rw [List.getElem?_append_right (by omega), hn, Nat.mul_one]
 ·rename_i f g
  refine ⟨fun j hj => ?_, trivial⟩
  simp only [OC.get, Sr.get]
  split <;> rfl
theorem strOrSl_spec {C : Ctx} {E : Env} {β : Loc} {fr : Fr} {O : Hp} {a : Act} {w : World} (hst : St C E β fr O a w) {T : TypeId} (h : strOrSl C T = true) : ∃ d, C.P.underlying T = some d /\ (d = .string ∨ ∃ e, d = .slice e) := by
 unfold strOrSl at h
 split at h
 ·rename_i hT
  obtain ⟨ty, hty, hd⟩ := Option.map_eq_some_iff.1 hT
  have := (hst.ty hty).2
  rw [hd] at this
  exact ⟨_, this, .inl rfl⟩
 ·rename_i e hT
  obtain ⟨ty, hty, hd⟩ := Option.map_eq_some_iff.1 hT
  have := (hst.ty hty).2
  rw [hd] at this
  exact ⟨_, this, .inr ⟨e, rfl⟩⟩
 ·cases h
theorem appA_ok {C : Ctx} {o : Oper} {args : Array Operand} {ats : Array TypeId} {d x : Operand} {T T2 : TypeId} (ho : o.op = .call { callee := .builtin .append, args, argTypes := ats }) (ha : args = #[d, x]) (ht : ats = #[T, T2])
  {fr : Fr} {O : Hp} {k : OpK} (h : appA C fr O T T2 (Fr.ev C fr d) (Fr.ev C fr x) k) : OpOK C o fr O k := by
 subst ha; subst ht
 unfold appA at h
 split at h
 case h_2 => exact h.elim
 rename_i e hT
 split at h
 ·exact h.elim
 rename_i ty hty
 obtain ⟨hz, hu8, hs0, hb0, hT2, h⟩ := h
 intro E β a w hst K Q hK
 have hTT : C.P.underlying T = some (.slice e) := by
  obtain ⟨t, ht, hd⟩ := Option.map_eq_some_iff.1 hT
  have := (hst.ty ht).2
  rw [hd] at this
  exact this
 obtain ⟨d2, hd2, hd2'⟩ := strOrSl_spec hst hT2
 obtain ⟨z, hz⟩ := Option.isSome_iff_exists.1 hz
 obtain ⟨⟨inf, hinf, his, hib, hzz⟩, _⟩ := hst.ty hty
 obtain ⟨⟨zv, hzv, hzl⟩, _⟩ := hzz z hz
 have hzs : zv.cells.size = ty.size := by rw [<- Array.length_toList, hzl]; simp
 obtain ⟨m, sr, h, news, hnl, hnews, hsrl, hlen, hfirst⟩ := srcA_ok hst hu8 h (hst.ev x)
 have hrun : ∀ v w', (Builtin.append_ #[T, T2] o.type #[a.eval d, a.eval x]).run C.P w = .ok v w' -> (execOp a.eval o).run C.P w = .ok (.value v) w' := by
  intro v w' hr
  simp only [execOp, ho, resolve, pure_bind, invoke, builtin]
  rw [show (#[d, x].map a.eval : Array Value) = #[a.eval d, a.eval x] from by simp]
  exact run_v hr
 have hm1 : m <= m * ty.bytes := Nat.le_mul_of_pos_right _ hb0
 unfold Oper.wp
 split at h
 ·-- nil
  rename_i hd
  obtain ⟨hpin, hb, h⟩ := h
  have hdr := hst.ev d
  rw [hd] at hdr
  have ed : a.eval d = .slice none 0 0 := hdr
  rcases Nat.eq_zero_or_pos m with hm0 | hm0
  ·subst hm0
   have hr := run_app_room (P := C.P) w w T T2 o.type e inf d2 hTT hd2 hd2' hinf none 0 0 (a.eval x) 0 hlen news (by rw [his]; exact hfirst w (.inl rfl)) (Nat.le_refl _) (fun _ h => by cases h) (fun _ => rfl)
   rw [<- ed] at hr
   rw [hrun _ _ hr]
   have hwf : OB.wf ⟨e, ty.size, 0, true, sr.oc⟩ := by
    cases sr with
    | bs l => obtain ⟨h1, h2⟩ := hsrl l rfl; exact ⟨h1, h2⟩
    | rows g => trivial
   have g := hst.core.phantom (fresh O) (fresh_new O) (by rw [hst.ctx]; exact hpin) e ty.size sr.oc hwf
   rw [Nat.zero_mul] at h
   exact hK fr _ _ _ _ _ h (hst.goes g (fun _ _ _ => trivial)) ⟨Nat.zero_le _, .inr ⟨rfl, none, ed⟩⟩ (fun h => by simp [ho, loud] at h)
  ·have hcl := grownCap_ge w m 0 e
   have hr := run_app_grow (P := C.P) w T T2 o.type e inf zv d2 hTT hd2 hd2' hinf hzv none 0 0 [] (fun W _ => run_firstCells_none W inf.size 0 0 0) (a.eval x) m hlen news (by rw [his]; exact hfirst) (by omega) (by omega)
    (growslice_fits (by omega) (by rw [hib, Nat.zero_add]; exact hb))
   simp only [Nat.zero_add] at hr
   rw [<- ed] at hr
   rw [hrun _ _ hr]
   have g0 := hst.core.drew
   have hnj : ∀ j, j < m * ty.size -> ∃ u, ((([] : List Value).toArray ++ news.toArray) ++ Builtin.zeroCells zv.cells (grownCap w m 0 e - m))[j]? = some u /\ (sr.oc.get j).Rep (Un E.N β O) β O w.drew u := by
    intro j hj
    obtain ⟨y, hy, hr, _⟩ := hnews j hj
    refine ⟨y, ?_, ?_⟩
    ·rw [Array.getElem?_append_left (by simp [hnl]; exact hj)]
     simpa using hy
    ·rw [Sr.oc_get]; exact g0.rep (x := .p _) hr (fun _ h => h.elim)
   have g := g0.core.alloc ⟨e, ty.size, m * ty.size, true, sr.oc⟩ _ (fresh O) (fresh_new O) (by rw [hst.ctx]; exact hpin) rfl (by
    cases sr with
    | bs l => obtain ⟨h1, h2⟩ := hsrl l rfl; exact ⟨h1, by show l.length = m * ty.size; rw [h1, h2, Nat.mul_one]⟩
    | rows g => trivial) (by simp [hnl]) hnj
   have hst' := (hst.goes g0 (fun _ _ _ => trivial)).goes g (fun _ _ _ => trivial)
   refine hK fr _ _ _ _ _ h hst' ⟨by simp only [maxLen]; omega, .inl ⟨_, grownCap w m 0 e, e, m * ty.size + (grownCap w m 0 e - m) * zv.cells.size, Hp.get_cons_same _ _ _, by simp, by simp, hcl, by simp, ?_, ?_⟩⟩ (fun h => by simp [ho, loud] at h)
   ·simp only [Loc.set_same]
    have := shape_of_cells (heap_alloc_new w.drew (.cells (([] : List Value).toArray ++ news.toArray ++ Builtin.zeroCells zv.cells (grownCap w m 0 e - m)) e))
    refine Eq.trans this ?_
    simp [hnl, size_zeroCells]
   ·simp only [Loc.set_same]
    rw [hzs, <- Nat.add_mul, Nat.add_sub_cancel' hcl]
    omega
 ·-- own
  rename_i t off n hd
  split at h
  ·exact h.elim
  rename_i ob hob
  obtain ⟨hwh, hs, hE, hpin, hb, h⟩ := h
  split at h
  ·exact h.elim
  rename_i c' hc'
  have hdr := hst.ev d
  rw [hd] at hdr
  obtain ⟨hnmax, hdr⟩ := hdr
  have hobw := hst.core.mem.wf t ob hob
  have hnm1 : n + m <= (n + m) * ty.bytes := Nat.le_mul_of_pos_right _ hb0
  have hbs : ∀ l, ob.c = .bs l -> ty.size = 1 /\ l.length = ob.n := fun l hl => by rw [OB.wf, hl] at hobw; rw [<- hs]; exact hobw
  have hkill := fun (β' : Loc) (O' : Hp) (w' : World) (lc : Lc) (hr : (execOp a.eval o).run C.P w = .ok (.value (.slice (some ⟨lc.b, lc.o, none⟩) (n + m) 0)) w') => hr
  clear hkill
  have fin : ∀ (w' : World) (lc : Lc) (v : Value), (execOp a.eval o).run C.P w = .ok (.value v) w' ->
    Goes E β O w (β.set t lc) ((t, ⟨e, ty.size, (n + m) * ty.size, true, c'⟩) :: Hp.kill t O) w' (fun k => k ≠ t) ->
    (BV.own t 0 (n + m)).Rep (Un E.N (β.set t lc) ((t, ⟨e, ty.size, (n + m) * ty.size, true, c'⟩) :: Hp.kill t O)) (β.set t lc) ((t, ⟨e, ty.size, (n + m) * ty.size, true, c'⟩) :: Hp.kill t O) w' v ->
    o.upon C.P a K Q ((execOp a.eval o).run C.P w) := by
   intro w' lc v hr g hv
   rw [hr]
   exact hK _ _ _ _ _ v h ((hst.killed t).goes g (fun d k hk => Fr.kill_uses hk)) hv (fun h => by simp [ho, loud] at h)
  rcases hdr with ⟨ob', c, E0, sz, hob', hre, ed, hcap, hfit, hsh, hsz⟩ | ⟨hn0, A, ed⟩
  ·rw [hob] at hob'; cases hob'
   rw [hs] at hfit hsz
   obtain ⟨hget, hwf'⟩ := catA_get hc' hbs (.inl hfit) hsrl
   obtain ⟨cs, frz, hheap, hnofr, hcsz, hng, hcells⟩ := hst.core.mem.obj t ob hob hre
   have hszeq : cs.size = sz := by rw [shape_of_cells hheap] at hsh; cases hsh; rfl
   obtain ⟨olds, hol, holc, holr⟩ := cells_list (w := w) (a := ⟨(β t).b, (β t).o + off, none⟩) (n := n * ty.size) (R := fun j y => cs[(β t).o + off + j]? = some y /\ (ob.c.get (off + j)).Rep (Un E.N β O) β O w y) (fun j hj => by
    obtain ⟨u, hu, hr⟩ := hcells (off + j) (by omega)
    refine ⟨u, ?_, by rw [Nat.add_assoc]; exact hu, hr⟩
    rw [Addr.add_mid, Nat.add_assoc]
    simp [World.cell?, hheap, hu])
   by_cases hroom : n + m <= c
   ·-- in place
    have hle : (n + m) * ty.size <= c * ty.size := Nat.mul_le_mul_right _ hroom
    rw [Nat.add_mul] at hle
    have hstore : (storeCells ((⟨(β t).b, (β t).o + off, none⟩ : Addr).add (n * inf.size)) news).run C.P w = .ok () (w.setCells (β t).b ((β t).o + off + n * ty.size) news) := by
     rw [Addr.add_mid, his]
     have := run_storeCells_cells (P := C.P) (β t).b ((β t).o + off + n * ty.size) news 0 w (fun j hj => ?_) (fun j hj => ?_) (fun v hv => ?_)
     ·simpa using this
     ·rw [hnl] at hj
      have : (β t).o + off + n * ty.size + 0 + j < cs.size := by omega
      simp [World.cell?, hheap]
      omega
     ·rw [hnl] at hj
      have hlt : (β t).o + off + n * ty.size + 0 + j < cs.size := by omega
      have := hnofr.spec _ hlt
      simp only [World.frozen?, hheap]
      rw [Bool.and_eq_false_iff]
      by_cases h1 : frz.1 <= (β t).o + off + n * ty.size + 0 + j
      ·exact .inr (by simp; omega)
      ·exact .inl (by simp; omega)
     ·obtain ⟨j, hj⟩ := List.getElem?_of_mem hv
      have hj' : j < m * ty.size := by rw [<- hnl]; exact (List.getElem?_eq_some_iff.1 hj).1
      obtain ⟨y, hy, _, h1⟩ := hnews j hj'
      rw [hj] at hy; cases hy; exact h1
    have hr := run_app_room (P := C.P) w (w.setCells (β t).b ((β t).o + off + n * ty.size) news) T T2 o.type e inf d2 hTT hd2 hd2' hinf (some ⟨(β t).b, (β t).o + off, none⟩) n c (a.eval x) m hlen news (by rw [his]; exact hfirst w (.inl rfl)) hroom
     (fun a ha => by cases ha; exact hstore) (fun ha => by cases ha)
    rw [<- ed] at hr
    obtain ⟨cs', hh', hcs', hcell'⟩ := heap_setCells (β t).b news ((β t).o + off + n * ty.size) w cs ob.E frz hheap
    have g := hst.core.replace t (by rw [hst.ctx]; exact hpin) ⟨(β t).b, (β t).o + off, true⟩ ⟨e, ty.size, (n + m) * ty.size, true, c'⟩ hwf' (fun a => a.block = (β t).b) (Keep.setCells _ _ _ _)
     (fun b E1 sz1 hs1 => by
      by_cases hbb : b = (β t).b
      ·subst hbb
       rw [shape_of_cells hheap] at hs1; cases hs1
       exact ⟨_, _, shape_of_cells hh', by omega⟩
      ·refine ⟨E1, sz1, ?_, Nat.le_refl _⟩
       have hb1 := shape_lt hs1
       simp only [World.shape?] at hs1 ⊢
       rw [(Keep.setCells (β t).b news ((β t).o + off + n * ty.size) w).same b hb1 (fun i hi => hbb hi)]
       exact hs1)
     (fun a ha => ⟨ob, hob, hre, ha, .inl hwh⟩)
     (fun _ => ⟨rfl, hng, .inr ⟨ob, hob, hwh, hre, rfl⟩⟩) (fun h => by cases h)
     (fun _ => by
      refine ⟨cs', frz, by rw [hh', hE], hnofr.imp id (fun h => by omega), ?_, fun j hj => ?_⟩
      ·show (β t).o + off + (n + m) * ty.size <= cs'.size
       rw [Nat.add_mul]; omega
      ·have hj' : j < (n + m) * ty.size := hj
       have hlt : (β t).o + off + j < cs.size := by rw [Nat.add_mul] at hj'; omega
       show ∃ u, cs'[(β t).o + off + j]? = some u /\ (c'.get j).Rep _ _ _ _ _ /\ ¬ (c'.get j).uses t
       rw [hcell' _ hlt, hget j hj']
       by_cases hjn : j < n * ty.size
       ·obtain ⟨y, _, hy, hyr⟩ := holr j hjn
        rw [if_neg (by omega), if_pos hjn]
        refine ⟨y, hy, hyr, ?_⟩
        unfold catA at hc'
        split at hc' <;> cases hc'
        ·rename_i heq; rw [heq]; exact fun h => h
        ·rename_i heq; rw [heq]; exact fun h => h
       ·have hj2 : j - n * ty.size < m * ty.size := by rw [Nat.add_mul] at hj'; omega
        obtain ⟨y, hy, hyr, _⟩ := hnews _ hj2
        rw [if_pos (by rw [Nat.add_mul] at hj'; omega), if_neg hjn]
        refine ⟨y, ?_, hyr, fun h => h⟩
        rw [<- hy]
        congr 1
        omega)
    refine fin _ _ _ (hrun _ _ hr) g ⟨by simp only [maxLen]; omega, .inl ⟨_, c, e, cs'.size, Hp.get_cons_same _ _ _, by simp, by simp, hroom, by simp, ?_, ?_⟩⟩
    ·simp only [Loc.set_same]
     rw [shape_of_cells hh', hE]
    ·simp only [Loc.set_same]
     omega
   ·-- a new block
    have hcl := grownCap_ge w (n + m) c e
    have hr := run_app_grow (P := C.P) w T T2 o.type e inf zv d2 hTT hd2 hd2' hinf hzv (some ⟨(β t).b, (β t).o + off, none⟩) n c olds (fun W hW => by
      rw [his]
      refine run_firstCells_some W ty.size n _ n c olds hol fun j v hj => ?_
      have := holc j v hj
      rcases hW with rfl | rfl
      ·exact this
      ·exact this) (a.eval x) m hlen news (by rw [his]; exact hfirst) (by omega) (by omega)
     (growslice_fits (by omega) (by rw [hib]; exact hb))
    rw [<- ed] at hr
    have g0 := hst.core.drew
    have g := g0.core.replace t (by rw [hst.ctx]; exact hpin) ⟨w.heap.size, 0, true⟩ ⟨e, ty.size, (n + m) * ty.size, true, c'⟩ hwf' (fun _ => False) (Keep.alloc _ w.drew (.cells (olds.toArray ++ news.toArray ++ Builtin.zeroCells zv.cells (grownCap w (n + m) c e - (n + m))) e))
     (fun b E1 sz1 hs1 => ⟨E1, sz1, by
      have hb1 := shape_lt hs1
      simp only [World.shape?] at hs1 ⊢
      rw [RowKit.Below.heap_alloc w.drew _ _ hb1]
      exact hs1, Nat.le_refl _⟩)
     (fun a ha => ha.elim)
     (fun _ => ⟨rfl, Nat.le_trans hst.core.ok.ngs hst.core.keep.size, .inl (Nat.le_refl _)⟩) (fun h => by cases h)
     (fun _ => by
      refine ⟨_, (0, 0), heap_alloc_new w.drew _, .inl rfl, ?_, fun j hj => ?_⟩
      ·show 0 + (n + m) * ty.size <= _
       simp [hol, hnl, Nat.add_mul]
      ·have hj' : j < (n + m) * ty.size := hj
       show ∃ u, _[0 + j]? = some u /\ (c'.get j).Rep _ _ _ _ _ /\ ¬ (c'.get j).uses t
       rw [Nat.zero_add, hget j hj', Array.getElem?_append_left (by simp [hol, hnl]; rw [Nat.add_mul] at hj'; exact hj')]
       by_cases hjn : j < n * ty.size
       ·obtain ⟨y, hyo, hy, hyr⟩ := holr j hjn
        rw [if_pos hjn]
        refine ⟨y, ?_, g0.rep hyr (fun _ _ => trivial), ?_⟩
        ·rw [Array.getElem?_append_left (by simp [hol]; exact hjn)]
         simpa using hyo
        ·unfold catA at hc'
         split at hc' <;> cases hc'
         ·rename_i heq; rw [heq]; exact fun h => h
         ·rename_i heq; rw [heq]; exact fun h => h
       ·have hj2 : j - n * ty.size < m * ty.size := by rw [Nat.add_mul] at hj'; omega
        obtain ⟨y, hy, hyr, _⟩ := hnews _ hj2
        rw [if_neg hjn]
        refine ⟨y, ?_, g0.rep (x := .p _) hyr (fun _ h => h.elim), fun h => h⟩
        rw [Array.getElem?_append_right (by simp [hol]; omega)]
        simpa [hol] using hy)
    refine fin _ _ _ (hrun _ _ hr) ((g0.trans g).weaken (fun k hk => ⟨trivial, hk⟩)) ⟨by simp only [maxLen]; omega, .inl ⟨_, grownCap w (n + m) c e, e, (n + m) * ty.size + (grownCap w (n + m) c e - (n + m)) * zv.cells.size, Hp.get_cons_same _ _ _, by simp, by simp, hcl, by simp, ?_, ?_⟩⟩
    ·simp only [Loc.set_same]
     have := shape_of_cells (heap_alloc_new w.drew (.cells (olds.toArray ++ news.toArray ++ Builtin.zeroCells zv.cells (grownCap w (n + m) c e - (n + m))) e))
     refine Eq.trans this ?_
     simp [hol, hnl, size_zeroCells, Nat.add_mul]
    ·simp only [Loc.set_same]
     rw [hzs, <- Nat.add_mul, Nat.add_sub_cancel' hcl]
     omega
  ·-- empty, and perhaps nowhere
   subst hn0
   obtain ⟨hget, hwf'⟩ := catA_get hc' hbs (.inr rfl) hsrl
   rcases Nat.eq_zero_or_pos m with hm0 | hm0
   ·subst hm0
    have hnews0 : news = [] := List.eq_nil_of_length_eq_zero (by rw [hnl]; simp)
    have hr := run_app_room (P := C.P) w w T T2 o.type e inf d2 hTT hd2 hd2' hinf A 0 0 (a.eval x) 0 hlen news (by rw [his]; exact hfirst w (.inl rfl)) (Nat.le_refl _) (fun a _ => by rw [hnews0]; simp [storeCells]) (fun _ => rfl)
    rw [<- ed] at hr
    have g := hst.core.replace (w' := w) t (by rw [hst.ctx]; exact hpin) ⟨0, 0, false⟩ ⟨e, ty.size, (0 + 0) * ty.size, true, c'⟩ hwf' (fun _ => False) (Keep.refl _ _) (fun b E1 sz1 hs1 => ⟨E1, sz1, hs1, Nat.le_refl _⟩) (fun a ha => ha.elim)
     (fun h => by cases h) (fun _ => by simp) (fun h => by cases h)
    exact fin _ _ _ (hrun _ _ hr) g ⟨Nat.zero_le _, .inr ⟨rfl, A, ed⟩⟩
   ·have hcl := grownCap_ge w (0 + m) 0 e
    have hr := run_app_grow (P := C.P) w T T2 o.type e inf zv d2 hTT hd2 hd2' hinf hzv A 0 0 [] (fun W _ => by
      refine run_first W inf.size 0 A 0 [] (by simp) fun j v hj => by simp at hj) (a.eval x) m hlen news (by rw [his]; exact hfirst) (by omega) (by omega)
     (growslice_fits (by omega) (by rw [hib]; exact hb))
    rw [<- ed] at hr
    have g0 := hst.core.drew
    have g := g0.core.replace t (by rw [hst.ctx]; exact hpin) ⟨w.heap.size, 0, true⟩ ⟨e, ty.size, (0 + m) * ty.size, true, c'⟩ hwf' (fun _ => False) (Keep.alloc _ w.drew (.cells (([] : List Value).toArray ++ news.toArray ++ Builtin.zeroCells zv.cells (grownCap w (0 + m) 0 e - (0 + m))) e))
     (fun b E1 sz1 hs1 => ⟨E1, sz1, by
      have hb1 := shape_lt hs1
      simp only [World.shape?] at hs1 ⊢
      rw [RowKit.Below.heap_alloc w.drew _ _ hb1]
      exact hs1, Nat.le_refl _⟩)
     (fun a ha => ha.elim)
     (fun _ => ⟨rfl, Nat.le_trans hst.core.ok.ngs hst.core.keep.size, .inl (Nat.le_refl _)⟩) (fun h => by cases h)
     (fun _ => by
      refine ⟨_, (0, 0), heap_alloc_new w.drew _, .inl rfl, ?_, fun j hj => ?_⟩
      ·show 0 + (0 + m) * ty.size <= _
       simp [hnl]
      ·have hj' : j < (0 + m) * ty.size := hj
       have hj2 : j < m * ty.size := by rw [Nat.zero_add] at hj'; exact hj'
       show ∃ u, _[0 + j]? = some u /\ (c'.get j).Rep _ _ _ _ _ /\ ¬ (c'.get j).uses t
       rw [Nat.zero_add, hget j hj', Array.getElem?_append_left (by simp [hnl]; exact hj2), if_neg (by simp)]
       obtain ⟨y, hy, hyr, _⟩ := hnews _ hj2
       refine ⟨y, by simpa using hy, ?_, fun h => h⟩
       rw [Nat.zero_mul, Nat.sub_zero]
       exact g0.rep (x := .p _) hyr (fun _ h => h.elim))
    refine fin _ _ _ (hrun _ _ hr) ((g0.trans g).weaken (fun k hk => ⟨trivial, hk⟩)) ⟨by simp only [maxLen]; omega, .inl ⟨_, grownCap w (0 + m) 0 e, e, (0 + m) * ty.size + (grownCap w (0 + m) 0 e - (0 + m)) * zv.cells.size, Hp.get_cons_same _ _ _, by simp, by simp, hcl, by simp, ?_, ?_⟩⟩
    ·simp only [Loc.set_same]
     have := shape_of_cells (heap_alloc_new w.drew (.cells (([] : List Value).toArray ++ news.toArray ++ Builtin.zeroCells zv.cells (grownCap w (0 + m) 0 e - (0 + m))) e))
     refine Eq.trans this ?_
     simp [hnl, size_zeroCells]
    ·simp only [Loc.set_same]
     rw [hzs, <- Nat.add_mul, Nat.add_sub_cancel' hcl]
     omega
 ·exact h.elim
end Go.Vc
