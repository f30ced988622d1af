/- What is proved: rules for told frames and blocks (each step of a function, as a rule over what its slots hold); no condition. Used by the laws of this seat. -/
import Derived.Test.YtdpdgejnfhjomaaDoorFrame0
import Derived.StillTail
import Derived.Laws.IdiomStrings
import Derived.Laws.Tables
import Derived.Deep.LoopGhost
set_option linter.unusedVariables false
set_option linter.unusedSimpArgs false
namespace Go.Vc
open Go
def CV.ren (σ : Nat -> Nat) : CV -> CV
 | .p x => .p x
 | .ptr t off => .ptr (σ t) off
def BV.ren (σ : Nat -> Nat) : BV -> BV
 | .own t off n => .own (σ t) off n
 | .ptr t off => .ptr (σ t) off
 | .clo fn caps => .clo fn (caps.map (CV.ren σ))
 | .mv fn t off => .mv fn (σ t) off
 | .tup n f => .tup n (fun j => (f j).ren σ)
 | .ag n f => .ag n (fun j => (f j).ren σ)
 | x => x
def OC.ren (σ : Nat -> Nat) : OC -> OC
 | .bs l => .bs l
 | .rows f => .rows f
 | .cells l => .cells (l.map (BV.ren σ))
def OB.ren (σ : Nat -> Nat) (ob : OB) : OB := { ob with c := ob.c.ren σ }
def Hp.ren (σ : Nat -> Nat) : Hp -> Hp
 | [] => []
 | (t, ob) :: r => (σ t, ob.ren σ) :: Hp.ren σ r
theorem OC.get_ren (σ : Nat -> Nat) (c : OC) (j : Nat) : (c.ren σ).get j = (c.get j).ren σ := by
 cases c with
 | bs l => simp [OC.ren, OC.get, BV.ren]
 | rows f => simp [OC.ren, OC.get, BV.ren]
 | cells l =>
  simp only [OC.ren, OC.get, List.getD_eq_getElem?_getD, List.getElem?_map]
  cases l[j]? <;> simp [BV.ren]
theorem OB.wf_ren {σ : Nat -> Nat} {ob : OB} : (ob.ren σ).wf ↔ ob.wf := by
 obtain ⟨E, s, n, w, c⟩ := ob
 cases c <;> simp [OB.ren, OC.ren, OB.wf]
def InjH (σ : Nat -> Nat) (O : Hp) : Prop := ∀ t ob t' ob', Hp.get O t = some ob -> Hp.get O t' = some ob' -> σ t = σ t' -> t = t'
theorem Hp.get_ren {σ : Nat -> Nat} : ∀ {O : Hp}, InjH σ O -> ∀ {t : Nat} {ob : OB}, Hp.get O t = some ob -> Hp.get (Hp.ren σ O) (σ t) = some (ob.ren σ)
 | (k, o) :: r, hi, t, ob, h => by
  simp only [Hp.ren, Hp.get] at h ⊢
  by_cases hk : k = t
  ·subst hk
   rw [if_pos rfl] at h ⊢
   cases h; rfl
  ·rw [if_neg hk] at h
   have hne : σ k ≠ σ t := fun e => hk (hi k o t ob (by simp [Hp.get]) (by simp only [Hp.get]; rw [if_neg hk]; exact h) e)
   rw [if_neg hne]
   by_cases hr : InjH σ r
   ·exact Hp.get_ren hr h
   ·-- what is shadowed by the head plays no part
    clear hr
    induction r with
    | nil => simp [Hp.get] at h
    | cons p r ih =>
     obtain ⟨k2, o2⟩ := p
     simp only [Hp.get, Hp.ren] at h ⊢
     by_cases h2 : k2 = t
     ·subst h2; rw [if_pos rfl] at h ⊢; cases h; rfl
     ·rw [if_neg h2] at h
      by_cases h3 : σ k2 = σ t
      ·by_cases h4 : k = k2
       ·subst h4; exact absurd h3 hne
       ·exact absurd (hi k2 o2 t ob (by simp [Hp.get, h4]) (by simp only [Hp.get]; rw [if_neg hk, if_neg h2]; exact h) h3) h2
      ·rw [if_neg h3]
       refine ih ?_ h
       intro a oa b ob' ha hb e
       refine hi a (if k = a then o else if k2 = a then o2 else oa) b (if k = b then o else if k2 = b then o2 else ob') ?_ ?_ e
       ·simp only [Hp.get] at ha ⊢
        by_cases h5 : k = a
        ·simp [h5]
        ·simp only [if_neg h5] at ha ⊢
         by_cases h6 : k2 = a
         ·simp [h6]
         ·simp only [if_neg h6] at ha ⊢; exact ha
       ·simp only [Hp.get] at hb ⊢
        by_cases h5 : k = b
        ·simp [h5]
        ·simp only [if_neg h5] at hb ⊢
         by_cases h6 : k2 = b
         ·simp [h6]
         ·simp only [if_neg h6] at hb ⊢; exact hb
theorem Hp.get_ren_inv {σ : Nat -> Nat} : ∀ {O : Hp} {k : Nat} {ob : OB}, Hp.get (Hp.ren σ O) k = some ob -> ∃ t, σ t = k /\ (Hp.get O t).isSome = true
 | (t, o) :: r, k, ob, h => by
  simp only [Hp.ren, Hp.get] at h
  by_cases hk : σ t = k
  ·exact ⟨t, hk, by simp [Hp.get]⟩
  ·rw [if_neg hk] at h
   obtain ⟨t', h1, h2⟩ := Hp.get_ren_inv h
   refine ⟨t', h1, ?_⟩
   simp only [Hp.get]
   split
   ·rfl
   ·exact h2
theorem CV.Rep.ren {σ : Nat -> Nat} {U U' : Addr -> Prop} {β2 : Loc} {O2 : Hp} {β'' : Loc} {O'' : Hp} {w' : World} (hU : ∀ a, U' a -> U a)
  (hg : ∀ t ob, Hp.get O2 t = some ob -> Hp.get O'' (σ t) = some (ob.ren σ) /\ β'' (σ t) = β2 t) :
  ∀ (x : CV) (u : Value), x.Rep U β2 O2 w' u -> (x.ren σ).Rep U' β'' O'' w' u
 | .p x, u, h => PV.Rep.stab (fun a y h1 h2 => ⟨fun h3 => h1 (hU a h3), h2⟩) x u h
 | .ptr t off, u, h => by
  obtain ⟨ob, hob, hre, hoff, rfl⟩ := h
  obtain ⟨h1, h2⟩ := hg t ob hob
  exact ⟨_, h1, by rw [h2]; exact hre, hoff, by rw [h2]⟩
theorem BV.Rep.ren {σ : Nat -> Nat} {U U' : Addr -> Prop} {β2 : Loc} {O2 : Hp} {β'' : Loc} {O'' : Hp} {w' : World} (hU : ∀ a, U' a -> U a)
  (hg : ∀ t ob, Hp.get O2 t = some ob -> Hp.get O'' (σ t) = some (ob.ren σ) /\ β'' (σ t) = β2 t) :
  ∀ (x : BV) (u : Value), x.Rep U β2 O2 w' u -> (x.ren σ).Rep U' β'' O'' w' u
 | .dead, _, _ => trivial
 | .p x, u, h => PV.Rep.stab (fun a y h1 h2 => ⟨fun h3 => h1 (hU a h3), h2⟩) x u h
 | .own t off n, u, h => by
  obtain ⟨hn, h⟩ := h
  refine ⟨hn, ?_⟩
  rcases h with ⟨ob, c, E, sz, hob, hre, rfl, hc, hfit, hsh, hcap⟩ | h
  ·obtain ⟨h1, h2⟩ := hg t ob hob
   exact .inl ⟨_, c, E, sz, h1, by rw [h2]; exact hre, by rw [h2], hc, hfit, by rw [h2]; exact hsh, by rw [h2]; exact hcap⟩
  ·exact .inr h
 | .ptr t off, u, h => by
  obtain ⟨ob, hob, hre, hoff, rfl⟩ := h
  obtain ⟨h1, h2⟩ := hg t ob hob
  exact ⟨_, h1, by rw [h2]; exact hre, hoff, by rw [h2]⟩
 | .rp m f, u, h => by
  obtain ⟨a, rfl, hc⟩ := h
  refine ⟨a, rfl, fun j hj => ?_⟩
  obtain ⟨hx, y, hy, hr⟩ := hc j hj
  exact ⟨fun h3 => hx (hU _ h3), y, hy, PV.Rep.stab (fun a y h1 h2 => ⟨fun h3 => h1 (hU a h3), h2⟩) _ _ hr⟩
 | .agg n f, u, h => by
  obtain ⟨cs, rfl, hs, hc⟩ := h
  refine ⟨cs, rfl, hs, fun j hj => ?_⟩
  obtain ⟨y, hy, hr⟩ := hc j hj
  exact ⟨y, hy, PV.Rep.stab (fun a y h1 h2 => ⟨fun h3 => h1 (hU a h3), h2⟩) _ _ hr⟩
 | .mv fn t off, u, h => by
  obtain ⟨ob, hob, hre, hoff, rfl⟩ := h
  obtain ⟨h1, h2⟩ := hg t ob hob
  exact ⟨_, h1, by rw [h2]; exact hre, hoff, by rw [h2]⟩
 | .clo fn caps, u, h => by
  obtain ⟨vs, rfl, hs, hc⟩ := h
  refine ⟨vs, rfl, by simpa using hs, fun i c hi => ?_⟩
  rw [List.getElem?_map] at hi
  obtain ⟨c0, h1, rfl⟩ := Option.map_eq_some_iff.1 hi
  obtain ⟨y, hy, hr⟩ := hc i c0 h1
  exact ⟨y, hy, CV.Rep.ren hU hg _ _ hr⟩
 | .tup n f, u, h => by
  obtain ⟨vs, rfl, hs, hc⟩ := h
  refine ⟨vs, rfl, hs, fun j hj => ?_⟩
  obtain ⟨y, hy, hr⟩ := hc j hj
  exact ⟨y, hy, BV.Rep.ren hU hg (f j) y hr⟩
 | .ag n f, u, h => by
  obtain ⟨vs, rfl, hs, hc⟩ := h
  refine ⟨vs, rfl, hs, fun j hj => ?_⟩
  obtain ⟨y, hy, hr⟩ := hc j hj
  exact ⟨y, hy, BV.Rep.ren hU hg (f j) y hr⟩
def CV.inn (O : Hp) : CV -> Prop
 | .p _ => True
 | .ptr t _ => (Hp.get O t).isSome = true
def CV.innL (O : Hp) : List CV -> Prop
 | [] => True
 | c :: r => c.inn O /\ CV.innL O r
def BV.inn (O : Hp) : BV -> Prop
 | .own t _ _ => (Hp.get O t).isSome = true
 | .ptr t _ => (Hp.get O t).isSome = true
 | .clo _ caps => CV.innL O caps
 | .mv _ t _ => (Hp.get O t).isSome = true
 | .tup _ _ => False
 | .ag n f => ∀ j, j < n -> (f j).inn O
 | _ => True
def BV.innL (O : Hp) : List BV -> Prop
 | [] => True
 | x :: r => x.inn O /\ BV.innL O r
def OC.inn (O : Hp) : OC -> Prop
 | .cells l => BV.innL O l
 | _ => True
theorem CV.innL_mem {O : Hp} : ∀ {l : List CV}, CV.innL O l -> ∀ c, c ∈ l -> c.inn O
 | x :: r, h, c, hc => by
  rcases List.mem_cons.1 hc with rfl | hc
  ·exact h.1
  ·exact CV.innL_mem h.2 c hc
theorem BV.innL_mem {O : Hp} : ∀ {l : List BV}, BV.innL O l -> ∀ c, c ∈ l -> c.inn O
 | x :: r, h, c, hc => by
  rcases List.mem_cons.1 hc with rfl | hc
  ·exact h.1
  ·exact BV.innL_mem h.2 c hc
theorem BV.inn_uses {O : Hp} {x : BV} (h : x.inn O) {t : Nat} (ht : x.uses t) : (Hp.get O t).isSome = true := by
 induction x with
 | own t' off n => have e : t' = t := ht; subst e; exact h
 | ptr t' off => have e : t' = t := ht; subst e; exact h
 | mv fn t' off => have e : t' = t := ht; subst e; exact h
 | clo fn caps =>
  obtain ⟨c, hc, hu⟩ := ht
  have := CV.innL_mem h c hc
  cases c with
  | p x => exact hu.elim
  | ptr t' off => have e : t' = t := hu; subst e; exact this
 | tup n f => exact h.elim
 | ag n f ih =>
  obtain ⟨j, hj, hu⟩ := ht
  exact ih j (h j hj) hu
 | _ => exact ht.elim
theorem OC.inn_get {O : Hp} {c : OC} (h : c.inn O) (j : Nat) {t : Nat} (ht : (c.get j).uses t) : (Hp.get O t).isSome = true := by
 cases c with
 | bs l => exact ht.elim
 | rows f => exact ht.elim
 | cells l =>
  simp only [OC.get, List.getD_eq_getElem?_getD] at ht
  cases hj : l[j]? with
  | none => rw [hj] at ht; exact ht.elim
  | some x => rw [hj] at ht; exact BV.inn_uses (BV.innL_mem h x (List.mem_of_getElem? hj)) ht
theorem OC.inn_getI {O : Hp} {c : OC} (h : c.inn O) (j : Nat) : (c.get j).inn O := by
 cases c with
 | bs l => trivial
 | rows f => trivial
 | cells l =>
  simp only [OC.get, List.getD_eq_getElem?_getD]
  cases hj : l[j]? with
  | none => trivial
  | some x => exact BV.innL_mem h x (List.mem_of_getElem? hj)
def SubH (σ : Nat -> Nat) (O2 O : Hp) : Prop := ∀ t ob, Hp.get O2 t = some ob -> Hp.get O (σ t) = some (ob.ren σ)
def InnH (O : Hp) : Prop := ∀ t ob, Hp.get O t = some ob -> ob.c.inn O
theorem CV.Rep.unren {σ : Nat -> Nat} {U U' : Addr -> Prop} {β : Loc} {O O2 : Hp} {w' : World} (hU : ∀ a, U' a -> U a) (hs : SubH σ O2 O) :
  ∀ (x : CV) (u : Value), x.inn O2 -> (x.ren σ).Rep U β O w' u -> x.Rep U' (fun t => β (σ t)) O2 w' u
 | .p x, u, _, h => PV.Rep.stab (fun a y h1 h2 => ⟨fun h3 => h1 (hU a h3), h2⟩) x u h
 | .ptr t off, u, hi, h => by
  obtain ⟨ob, hob, hre, hoff, rfl⟩ := h
  obtain ⟨ob2, h2⟩ := Option.isSome_iff_exists.1 hi
  have h3 := hs t ob2 h2
  rw [h3] at hob; cases hob
  exact ⟨ob2, h2, hre, hoff, rfl⟩
theorem BV.Rep.unren {σ : Nat -> Nat} {U U' : Addr -> Prop} {β : Loc} {O O2 : Hp} {w' : World} (hU : ∀ a, U' a -> U a) (hs : SubH σ O2 O) :
  ∀ (x : BV) (u : Value), x.inn O2 -> (x.ren σ).Rep U β O w' u -> x.Rep U' (fun t => β (σ t)) O2 w' u
 | .dead, _, _, _ => trivial
 | .p x, u, _, h => PV.Rep.stab (fun a y h1 h2 => ⟨fun h3 => h1 (hU a h3), h2⟩) x u h
 | .own t off n, u, hi, h => by
  obtain ⟨hn, h⟩ := h
  refine ⟨hn, ?_⟩
  obtain ⟨ob2, h2⟩ := Option.isSome_iff_exists.1 hi
  have h3 := hs t ob2 h2
  rcases h with ⟨ob, c, E, sz, hob, hre, rfl, hc, hfit, hsh, hcap⟩ | h
  ·rw [h3] at hob; cases hob
   exact .inl ⟨ob2, c, E, sz, h2, hre, rfl, hc, hfit, hsh, hcap⟩
  ·exact .inr h
 | .ptr t off, u, hi, h => by
  obtain ⟨ob, hob, hre, hoff, rfl⟩ := h
  obtain ⟨ob2, h2⟩ := Option.isSome_iff_exists.1 hi
  have h3 := hs t ob2 h2
  rw [h3] at hob; cases hob
  exact ⟨ob2, h2, hre, hoff, rfl⟩
 | .rp m f, u, _, h => by
  obtain ⟨a, rfl, hc⟩ := h
  refine ⟨a, rfl, fun j hj => ?_⟩
  obtain ⟨hx, y, hy, hr⟩ := hc j hj
  exact ⟨fun h3 => hx (hU _ h3), y, hy, PV.Rep.stab (fun a y h1 h2 => ⟨fun h3 => h1 (hU a h3), h2⟩) _ _ hr⟩
 | .agg n f, u, _, h => by
  obtain ⟨cs, rfl, hs, hc⟩ := h
  refine ⟨cs, rfl, hs, fun j hj => ?_⟩
  obtain ⟨y, hy, hr⟩ := hc j hj
  exact ⟨y, hy, PV.Rep.stab (fun a y h1 h2 => ⟨fun h3 => h1 (hU a h3), h2⟩) _ _ hr⟩
 | .mv fn t off, u, hi, h => by
  obtain ⟨ob, hob, hre, hoff, rfl⟩ := h
  obtain ⟨ob2, h2⟩ := Option.isSome_iff_exists.1 hi
  have h3 := hs t ob2 h2
  rw [h3] at hob; cases hob
  exact ⟨ob2, h2, hre, hoff, rfl⟩
 | .clo fn caps, u, hi, h => by
  obtain ⟨vs, rfl, hsz, hc⟩ := h
  refine ⟨vs, rfl, by simpa using hsz, fun i c hic => ?_⟩
  obtain ⟨y, hy, hr⟩ := hc i (c.ren σ) (by rw [List.getElem?_map, hic]; rfl)
  exact ⟨y, hy, CV.Rep.unren hU hs c y (CV.innL_mem hi c (List.mem_of_getElem? hic)) hr⟩
 | .tup n f, _, hi, _ => hi.elim
 | .ag n f, u, hi, h => by
  obtain ⟨cs, rfl, hz, hc⟩ := h
  refine ⟨cs, rfl, hz, fun j hj => ?_⟩
  obtain ⟨y, hy, hr⟩ := hc j hj
  exact ⟨y, hy, BV.Rep.unren hU hs (f j) y (hi j hj) hr⟩
theorem BV.Rep.memU {U U' : Addr -> Prop} {β : Loc} {O : Hp} {w : World} (x : BV) (u : Value) (hU : ∀ a, U' a -> U a) (h : x.Rep U β O w u) : x.Rep U' β O w u :=
 BV.Rep.tr (fun a y h1 h2 => ⟨fun h3 => h1 (hU a h3), h2⟩) x u (fun t _ ob ht => ⟨rfl, ob, ht, rfl, Nat.le_refl _, fun E sz hs => ⟨E, sz, hs, Nat.le_refl _⟩⟩) h
def PV.scal : PV -> Prop
 | .v _ => True
 | .u8 _ => True
 | .u32 _ => True
 | .u64 _ => True
 | .str _ => True
 | .bs l => l = []
 | .sl n s _ => n * s = 0
 | .pp _ => False
def BV.scal : BV -> Prop
 | .dead => True
 | .p x => x.scal
 | .own _ _ _ => True
 | .ptr _ _ => True
 | .rp m _ => m = 0
 | .agg n f => ∀ j, j < n -> (f j).scal
 | .clo _ caps => caps = []
 | .mv _ _ _ => True
 | .tup n f => ∀ j, j < n -> (f j).scal
 | .ag n f => ∀ j, j < n -> (f j).scal
def OC.scal : OC -> Prop
 | .bs _ => True
 | .rows f => ∀ j, (f j).scal
 | .cells l => ∀ x, x ∈ l -> x.scal
theorem PV.scal_rep {U U' : Addr -> Prop} {w : World} {x : PV} {u : Value} (hs : x.scal) (h : x.Rep U w u) : x.Rep U' w u := by
 cases x with
 | bs l =>
  obtain ⟨hn, A, c, rfl, hc, hcells⟩ := h
  have hs' : l = [] := hs
  subst hs'
  exact ⟨hn, A, c, rfl, hc, fun j hj => by simp at hj⟩
 | sl n s f =>
  obtain ⟨hn, A, c, rfl, hc, hcells⟩ := h
  have hs' : n * s = 0 := hs
  exact ⟨hn, A, c, rfl, hc, fun j hj => by omega⟩
 | pp x => exact (show False from hs).elim
 | _ => exact h
theorem BV.scal_rep {U U' : Addr -> Prop} {β : Loc} {O : Hp} {w : World} : ∀ (x : BV) (u : Value), x.scal -> x.Rep U β O w u -> x.Rep U' β O w u
 | .dead, _, _, _ => trivial
 | .p x, u, hs, h => PV.scal_rep (x := x) hs h
 | .own _ _ _, u, _, h => h
 | .ptr _ _, u, _, h => h
 | .rp m f, u, hs, h => by
  have hs' : m = 0 := hs
  subst hs'
  obtain ⟨a, rfl, _⟩ := h
  exact ⟨a, rfl, fun j hj => by omega⟩
 | .agg n f, u, hs, h => by
  obtain ⟨cs, rfl, hsz, hc⟩ := h
  refine ⟨cs, rfl, hsz, fun j hj => ?_⟩
  obtain ⟨y, hy, hr⟩ := hc j hj
  exact ⟨y, hy, PV.scal_rep (hs j hj) hr⟩
 | .mv _ _ _, u, _, h => h
 | .clo fn caps, u, hs, h => by
  have hs' : caps = [] := hs
  subst hs'
  obtain ⟨vs, rfl, hsz, hc⟩ := h
  exact ⟨vs, rfl, hsz, fun i c hi => by simp at hi⟩
 | .tup n f, u, hs, h => by
  obtain ⟨vs, rfl, hsz, hc⟩ := h
  refine ⟨vs, rfl, hsz, fun j hj => ?_⟩
  obtain ⟨y, hy, hr⟩ := hc j hj
  exact ⟨y, hy, BV.scal_rep (f j) y (hs j hj) hr⟩
 | .ag n f, u, hs, h => by
  obtain ⟨vs, rfl, hsz, hc⟩ := h
  refine ⟨vs, rfl, hsz, fun j hj => ?_⟩
  obtain ⟨y, hy, hr⟩ := hc j hj
  exact ⟨y, hy, BV.scal_rep (f j) y (hs j hj) hr⟩
theorem OC.scal_get {c : OC} (h : c.scal) (j : Nat) : (c.get j).scal := by
 cases c with
 | bs l => trivial
 | rows f => exact h j
 | cells l =>
  simp only [OC.get, List.getD_eq_getElem?_getD]
  cases hj : l[j]? with
  | none => trivial
  | some x => exact h x (List.mem_of_getElem? hj)
def Hp.scal : Hp -> Prop
 | [] => True
 | (_, ob) :: r => ob.c.scal /\ Hp.scal r
theorem Hp.scal_get : ∀ (O : Hp) (t : Nat) (ob : OB), O.scal -> Hp.get O t = some ob -> ob.c.scal
 | (k, o) :: r, t, ob, h, hg => by
  simp only [Hp.get] at hg
  split at hg
  ·cases hg; exact h.1
  ·exact Hp.scal_get r t ob h.2 hg
def Hp.killL : List Nat -> Hp -> Hp
 | [], O => O
 | t :: r, O => Hp.killL r (Hp.kill t O)
theorem Hp.get_killL {k : Nat} {ob : OB} : ∀ {l : List Nat} {O : Hp}, Hp.get (Hp.killL l O) k = some ob -> k ∉ l /\ ∃ ob0, Hp.get O k = some ob0 /\ ob.E = ob0.E /\ ob.s = ob0.s /\ ob.n = ob0.n /\ ob.whole = ob0.whole /\ (ob0.wf -> ob.wf) /\
  ∀ j, (ob.c.get j = ob0.c.get j ∨ ob.c.get j = .dead) /\ ∀ t, t ∈ l -> ¬ (ob.c.get j).uses t
 | [], O, h => ⟨by simp, ob, h, rfl, rfl, rfl, rfl, id, fun j => ⟨.inl rfl, fun t ht => by simp at ht⟩⟩
 | a :: r, O, h => by
  simp only [Hp.killL] at h
  obtain ⟨h1, ob1, h2, h3, h4, h5, h6, h7, h8⟩ := Hp.get_killL h
  obtain ⟨hne, ob0, h9, rfl⟩ := Hp.get_kill_some h2
  refine ⟨by simp [hne, h1], ob0, h9, h3, h4, h5, h6, fun hw => h7 (OB.wf_kill a hw), fun j => ?_⟩
  obtain ⟨h10, h11⟩ := h8 j
  have e : (ob0.kill a).c.get j = (ob0.c.get j).kill a := OC.get_kill a ob0.c j
  refine ⟨?_, fun t ht hu => ?_⟩
  ·rcases h10 with h10 | h10
   ·rw [h10, e]
    have : (ob0.c.get j).kill a = ob0.c.get j ∨ (ob0.c.get j).kill a = .dead := by
     cases ob0.c.get j <;> simp only [BV.kill] <;> (try split) <;> simp
    exact this
   ·exact .inr h10
  ·rcases List.mem_cons.1 ht with rfl | ht
   ·rcases h10 with h10 | h10
    ·rw [h10, e] at hu
     exact BV.kill_uses _ _ hu
    ·rw [h10] at hu; exact hu
   ·exact h11 t ht hu
theorem Hp.get_killL_not {k : Nat} : ∀ {l : List Nat} {O : Hp} {ob0 : OB}, k ∉ l -> Hp.get O k = some ob0 -> ∃ ob, Hp.get (Hp.killL l O) k = some ob
 | [], O, ob0, _, h => ⟨ob0, h⟩
 | a :: r, O, ob0, hk, h => by
  simp only [List.mem_cons, not_or] at hk
  simp only [Hp.killL]
  exact Hp.get_killL_not hk.2 (by rw [Hp.get_kill_other _ hk.1, h]; rfl)
def doms : Hp -> List Nat
 | [] => []
 | (t, _) :: r => t :: doms r
theorem doms_mem {t : Nat} : ∀ {O : Hp}, t ∈ doms O ↔ (Hp.get O t).isSome = true
 | [] => by simp [doms, Hp.get]
 | (k, o) :: r => by
  simp only [doms, List.mem_cons, Hp.get]
  by_cases h : k = t
  ·subst h; simp
  ·rw [if_neg h, <- doms_mem (O := r)]
   constructor
   ·rintro (rfl | h1)
    ·exact absurd rfl h
    ·exact h1
   ·exact fun h1 => .inr h1
def τL (pins : List Nat) (σ : Nat -> Nat) (k : Nat) (t : Nat) : Nat := if t ∈ pins then σ t else t + k
theorem Hp.get_append {O R : Hp} {t : Nat} : Hp.get (O ++ R) t = match Hp.get O t with | some ob => some ob | none => Hp.get R t := by
 induction O with
 | nil => rfl
 | cons p r ih =>
  obtain ⟨k, o⟩ := p
  simp only [List.cons_append, Hp.get]
  split
  ·rfl
  ·exact ih
structure LendOK (E : Env) (β : Loc) (O Oc : Hp) (σ : Nat -> Nat) (pins : List Nat) (k : Nat) : Prop where
 sub : SubH σ Oc O
 inj : InjH σ Oc
 lt : ∀ t ob, Hp.get O t = some ob -> t < k
 cp : ∀ t, t ∈ E.c.pins -> t < k
def lendN (E : Env) (β : Loc) (O : Hp) (L : List Nat) (a : Addr) : Prop := E.N a ∨ ∃ k ob, Hp.get O k = some ob /\ ob.cov (β k) a /\ k ∉ L
theorem OB.cov_ren {σ : Nat -> Nat} {ob : OB} {b : Lc} {a : Addr} : (ob.ren σ).cov b a ↔ ob.cov b a := Iff.rfl
theorem Core.lent_mem {E : Env} {β : Loc} {O Oc : Hp} {w : World} (h : Core E β O w) {σ : Nat -> Nat} {L : List Nat} (hs : SubH σ Oc O) (hi : InjH σ Oc) (hin : InnH Oc) (hL : ∀ t, (Hp.get Oc t).isSome = true -> σ t ∈ L) :
  Mem (lendN E β O L) E.ng (fun t => β (σ t)) Oc w := by
 have hU : ∀ a, Un (lendN E β O L) (fun t => β (σ t)) Oc a -> Un E.N β O a := by
  rintro a ((h1 | ⟨k, ob, h1, h2, _⟩) | ⟨t, ob, h1, h2⟩)
  ·exact .inl h1
  ·exact .inr ⟨k, ob, h1, h2⟩
  ·exact .inr ⟨σ t, _, hs t ob h1, OB.cov_ren.2 h2⟩
 refine ⟨fun t ob ht => OB.wf_ren.1 (h.mem.wf _ _ (hs t ob ht)), fun t ob ht => by have := h.mem.pos _ _ (hs t ob ht); exact this, fun t ob ht hre => by have := h.mem.obj0 _ _ (hs t ob ht) hre; exact this, fun t ob ht hre => ?_, fun t ob t' ob' ht ht' hne a ha ha' => ?_, fun t ob ht a ha => ?_⟩
 ·obtain ⟨cs, fr, h1, h2, h3, h4, h5⟩ := h.mem.obj _ _ (hs t ob ht) hre
  refine ⟨cs, fr, h1, h2, h3, h4, fun j hj => ?_⟩
  obtain ⟨u, hu, hr⟩ := h5 j hj
  refine ⟨u, hu, BV.Rep.unren hU hs _ _ (OC.inn_getI (hin t ob ht) j) ?_⟩
  rw [<- OC.get_ren]; exact hr
 ·exact h.mem.disj _ _ _ _ (hs t ob ht) (hs t' ob' ht') (fun e => hne (hi t ob t' ob' ht ht' e)) a (OB.cov_ren.2 ha) (OB.cov_ren.2 ha')
 ·rintro (h1 | ⟨k, ob', h1, h2, h3⟩)
  ·exact h.mem.notN _ _ (hs t ob ht) a (OB.cov_ren.2 ha) h1
  ·exact h.mem.disj _ _ _ _ (hs t ob ht) h1 (fun e => h3 (e ▸ hL t (by rw [ht]; rfl))) a (OB.cov_ren.2 ha) h2
theorem Core.lent_back {E : Env} {β : Loc} {O Oc : Hp} {w w' : World} (h : Core E β O w) {σ : Nat -> Nat} {L : List Nat} {pins : List Nat} {k : Nat} (hs : SubH σ Oc O) (hi : InjH σ Oc) (hL : ∀ t, (Hp.get Oc t).isSome = true -> σ t ∈ L)
  (hlt : ∀ t ob, Hp.get O t = some ob -> t < k) (hcp : ∀ t, t ∈ E.c.pins -> t < k) {lent : List Nat} (hlent : lent = (doms Oc).map σ) {β2 : Loc} {O2 : Hp}
  (hm : Mem (lendN E β O L) E.ng β2 O2 w') (hkeep : Keep (Owns (fun t => β (σ t)) Oc) w w') (hpin : ∀ t, t ∈ pins -> β2 t = β (σ t))
  (hdom : ∀ t ob a, Hp.get O2 t = some ob -> ob.cov (β2 t) a -> Owns (fun t => β (σ t)) Oc a ∨ w.heap.size <= a.block)
  (hpk : ∀ t, t ∈ pins -> ∃ ob ob2, Hp.get Oc t = some ob /\ Hp.get O2 t = some ob2 /\ ob2.s = ob.s /\ ob.n <= ob2.n)
  (hsc : (∀ t ob, Hp.get O t = some ob -> t ∉ lent -> t ∉ L) ∨ O2.scal) :
  let τ := τL pins σ k
  let β'' : Loc := fun t => if t < k then β t else β2 (t - k)
  InjH τ O2 /\ (∀ t ob, Hp.get O2 t = some ob -> Hp.get (Hp.ren τ O2 ++ Hp.killL lent O) (τ t) = some (ob.ren τ) /\ β'' (τ t) = β2 t) /\
  (∀ a, Un E.N β'' (Hp.ren τ O2 ++ Hp.killL lent O) a -> (Un (lendN E β O L) β2 O2 a ∨ ∃ t ob, Hp.get O t = some ob /\ t ∉ lent /\ t ∈ L /\ ob.cov (β t) a)) /\
  Goes E β O w β'' (Hp.ren τ O2 ++ Hp.killL lent O) w' (fun t => t ∈ lent -> ∃ tc, tc ∈ pins /\ σ tc = t) := by
 intro τ β''
 have hτp : ∀ t, t ∈ pins -> τ t = σ t := fun t ht => by simp only [τ, τL]; rw [if_pos ht]
 have hτn : ∀ t, t ∉ pins -> τ t = t + k := fun t ht => by simp only [τ, τL]; rw [if_neg ht]
 have hOc : ∀ t, t ∈ pins -> ∃ ob, Hp.get Oc t = some ob := fun t ht => let ⟨ob, _, h1, _⟩ := hpk t ht; ⟨ob, h1⟩
 have hpk_lt : ∀ t, t ∈ pins -> σ t < k := fun t ht => let ⟨ob, h1⟩ := hOc t ht; hlt _ _ (hs t ob h1)
 have hinj : InjH τ O2 := by
  intro t ob t' ob' ht ht' he
  by_cases hp : t ∈ pins
  ·by_cases hp' : t' ∈ pins
   ·rw [hτp t hp, hτp t' hp'] at he
    obtain ⟨o1, h1⟩ := hOc t hp
    obtain ⟨o2, h2⟩ := hOc t' hp'
    exact hi t o1 t' o2 h1 h2 he
   ·rw [hτp t hp, hτn t' hp'] at he
    have := hpk_lt t hp
    omega
  ·by_cases hp' : t' ∈ pins
   ·rw [hτn t hp, hτp t' hp'] at he
    have := hpk_lt t' hp'
    omega
   ·rw [hτn t hp, hτn t' hp'] at he
    omega
 have hβ : ∀ t, β'' (τ t) = if t ∈ pins then β (σ t) else β2 t := by
  intro t
  by_cases hp : t ∈ pins
  ·rw [hτp t hp, if_pos hp]
   simp only [β'', hpk_lt t hp, if_true]
  ·rw [hτn t hp, if_neg hp]
   simp only [β'']
   rw [if_neg (by omega), Nat.add_sub_cancel]
 have hβ2 : ∀ t, β'' (τ t) = β2 t := fun t => by
  rw [hβ]
  split
  ·rename_i hp; exact (hpin t hp).symm
  ·rfl
 have hget : ∀ t ob, Hp.get O2 t = some ob -> Hp.get (Hp.ren τ O2 ++ Hp.killL lent O) (τ t) = some (ob.ren τ) := by
  intro t ob ht
  rw [Hp.get_append, Hp.get_ren hinj ht]
 have hmem_lent : ∀ t, t ∈ lent ↔ ∃ tc, (Hp.get Oc tc).isSome = true /\ σ tc = t := by
  intro t
  rw [hlent, List.mem_map]
  constructor
  ·rintro ⟨tc, h1, h2⟩; exact ⟨tc, doms_mem.1 h1, h2⟩
  ·rintro ⟨tc, h1, h2⟩; exact ⟨tc, doms_mem.2 h1, h2⟩
 have hcase : ∀ t ob, Hp.get (Hp.ren τ O2 ++ Hp.killL lent O) t = some ob -> (∃ t0 ob0, Hp.get O2 t0 = some ob0 /\ t = τ t0 /\ ob = ob0.ren τ) ∨ (t < k /\ Hp.get (Hp.killL lent O) t = some ob) := by
  intro t ob ht
  rw [Hp.get_append] at ht
  cases hr : Hp.get (Hp.ren τ O2) t with
  | some o =>
   rw [hr] at ht
   obtain ⟨t0, rfl, h2⟩ := Hp.get_ren_inv hr
   obtain ⟨ob0, h3⟩ := Option.isSome_iff_exists.1 h2
   rw [Hp.get_ren hinj h3] at hr
   cases hr; cases ht
   exact .inl ⟨t0, ob0, h3, rfl, rfl⟩
  | none =>
   rw [hr] at ht
   obtain ⟨_, ob0, h1, _⟩ := Hp.get_killL ht
   exact .inr ⟨hlt t ob0 h1, ht⟩
 have hβl : ∀ t, t < k -> β'' t = β t := fun t ht => by simp only [β'', ht, if_true]
 have hapart : ∀ t ob, Hp.get O t = some ob -> t ∉ lent -> ∀ a, ob.cov (β t) a -> ¬ Owns (fun t => β (σ t)) Oc a := by
  rintro t ob ht hnl a ha ⟨tc, obc, h1, h2⟩
  exact h.mem.disj t ob (σ tc) _ ht (hs tc obc h1) (fun e => hnl ((hmem_lent t).2 ⟨tc, by rw [h1]; rfl, e.symm⟩)) a ha (OB.cov_ren.2 h2)
 have hold : ∀ t ob a, Hp.get O t = some ob -> ob.cov (β t) a -> a.block < w.heap.size := by
  intro t ob a ht hc
  rw [hc.2.1]; exact h.mem.lt ht hc.1
 have hownU : ∀ a, Owns (fun t => β (σ t)) Oc a -> Un E.N β O a := fun a ⟨tc, obc, h1, h2⟩ => .inr ⟨σ tc, _, hs tc obc h1, OB.cov_ren.2 h2⟩
 have hUn : ∀ a, Un E.N β'' (Hp.ren τ O2 ++ Hp.killL lent O) a -> (Un (lendN E β O L) β2 O2 a ∨ ∃ t ob, Hp.get O t = some ob /\ t ∉ lent /\ t ∈ L /\ ob.cov (β t) a) := by
  rintro a (h1 | ⟨t, ob, ht, hc⟩)
  ·exact .inl (.inl (.inl h1))
  ·rcases hcase t ob ht with ⟨t0, ob0, h2, rfl, rfl⟩ | ⟨h2, h3⟩
   ·rw [hβ2] at hc
    exact .inl (.inr ⟨t0, ob0, h2, OB.cov_ren.1 hc⟩)
   ·obtain ⟨h4, ob0, h5, _, _, h6, h7, _⟩ := Hp.get_killL h3
    rw [hβl t h2] at hc
    have hc0 : ob0.cov (β t) a := by
     unfold OB.cov at hc ⊢
     rw [<- h6, <- h7]; exact hc
    by_cases hl : t ∈ L
    ·exact .inr ⟨t, ob0, h5, h4, hl, hc0⟩
    ·exact .inl (.inl (.inr ⟨t, ob0, h5, hc0, hl⟩))
 have hstab : Stab (Un E.N β O) (Un E.N β'' (Hp.ren τ O2 ++ Hp.killL lent O)) w w' := by
  intro a y hU hy
  have hlta := World.block_lt_of_cell? w a hy
  refine ⟨fun hx => ?_, hkeep.cell hy (fun hd => hU (hownU a hd))⟩
  rcases hUn a hx with (h1 | ⟨t, ob, h1, h2⟩) | ⟨t, ob, h1, _, _, h4⟩
  ·rcases h1 with h1 | ⟨kk, ob, h1, h2, _⟩
   ·exact hU (.inl h1)
   ·exact hU (.inr ⟨kk, ob, h1, h2⟩)
  ·rcases hdom t ob a h1 h2 with h3 | h3
   ·exact hU (hownU a h3)
   ·omega
  ·exact hU (.inr ⟨t, ob, h1, h4⟩)
 have htags : ∀ t, (t ∈ lent -> ∃ tc, tc ∈ pins /\ σ tc = t) -> KeepsTag β O w β'' (Hp.ren τ O2 ++ Hp.killL lent O) w' t := by
  intro t hK ob ht
  have htk := hlt t ob ht
  refine ⟨hβl t htk, ?_⟩
  have hshape : ∀ E0 sz, w.shape? (β t).b = some (E0, sz) -> ∃ E' sz', w'.shape? (β t).b = some (E', sz') /\ sz <= sz' := fun E0 sz hs0 => hkeep.shp _ _ _ hs0
  by_cases hl : t ∈ lent
  ·obtain ⟨tc, h1, rfl⟩ := hK hl
   obtain ⟨obc, ob2, h2, h3, h4, h5⟩ := hpk tc h1
   have h6 := hs tc obc h2
   rw [ht] at h6; cases h6
   have h7 := hget tc ob2 h3
   rw [hτp tc h1] at h7
   exact ⟨_, h7, h4, h5, hshape⟩
  ·obtain ⟨ob', h1⟩ := Hp.get_killL_not hl ht
   obtain ⟨_, ob0, h2, _, h3, h4, _, _, _⟩ := Hp.get_killL h1
   rw [ht] at h2; cases h2
   have hnone : Hp.get (Hp.ren τ O2) t = none := by
    cases hr : Hp.get (Hp.ren τ O2) t with
    | none => rfl
    | some o =>
     obtain ⟨t0, h5, h6⟩ := Hp.get_ren_inv hr
     by_cases hp : t0 ∈ pins
     ·rw [hτp t0 hp] at h5
      obtain ⟨oc, h7⟩ := hOc t0 hp
      exact absurd ((hmem_lent t).2 ⟨t0, by rw [h7]; rfl, h5⟩) hl
     ·rw [hτn t0 hp] at h5
      omega
   refine ⟨ob', by rw [Hp.get_append, hnone]; exact h1, h3, by omega, hshape⟩
 refine ⟨hinj, fun t ob ht => ⟨hget t ob ht, hβ2 t⟩, hUn, ⟨h.ok, ⟨?_, ?_, ?_, ?_, ?_, ?_⟩, h.keep.then hkeep ?_, ?_, ?_, rows_keep h.ok h.rows hkeep (fun a ⟨t, ob, h1, h2⟩ => h.cov_cells (hs t ob h1) (OB.cov_ren.2 h2))⟩, hstab, htags⟩
 ·intro t ob ht
  rcases hcase t ob ht with ⟨t0, ob0, h1, rfl, rfl⟩ | ⟨h1, h2⟩
  ·exact OB.wf_ren.2 (hm.wf t0 ob0 h1)
  ·obtain ⟨_, ob0, h3, _, _, _, _, h4, _⟩ := Hp.get_killL h2
   exact h4 (h.mem.wf t ob0 h3)
 ·intro t ob ht
  rcases hcase t ob ht with ⟨t0, ob0, h1, rfl, rfl⟩ | ⟨h1, h2⟩
  ·rw [hβ2]; exact hm.pos t0 ob0 h1
  ·obtain ⟨_, ob0, h3, _, _, h5, h6, _, _⟩ := Hp.get_killL h2
   rw [hβl t h1, h5, h6]; exact h.mem.pos t ob0 h3
 ·intro t ob ht hre
  rcases hcase t ob ht with ⟨t0, ob0, h1, rfl, rfl⟩ | ⟨h1, h2⟩
  ·rw [hβ2] at hre; exact hm.obj0 t0 ob0 h1 hre
  ·obtain ⟨_, ob0, h3, _, _, h5, h6, _, _⟩ := Hp.get_killL h2
   rw [hβl t h1] at hre
   rw [h5]; exact h.mem.obj0 t ob0 h3 hre
 ·intro t ob ht hre
  rcases hcase t ob ht with ⟨t0, ob0, h1, rfl, rfl⟩ | ⟨h1, h2⟩
  ·rw [hβ2] at hre ⊢
   obtain ⟨cs, fr, h3, h4, h5, h6, h7⟩ := hm.obj t0 ob0 h1 hre
   refine ⟨cs, fr, h3, h4, h5, h6, fun j hj => ?_⟩
   obtain ⟨u, hu, hr⟩ := h7 j hj
   refine ⟨u, hu, ?_⟩
   show ((ob0.c.ren τ).get j).Rep _ _ _ _ _
   rw [OC.get_ren]
   rcases hsc with hsc | hsc
   ·refine BV.Rep.ren (U := Un (lendN E β O L) β2 O2) (fun a ha => ?_) (fun t ob ht => ⟨hget t ob ht, hβ2 t⟩) _ _ hr
    rcases hUn a ha with h8 | ⟨t, ob, h8, h9, h10, _⟩
    ·exact h8
    ·exact absurd h10 (hsc t ob h8 h9)
   ·exact BV.Rep.ren (fun a ha => ha) (fun t ob ht => ⟨hget t ob ht, hβ2 t⟩) _ _ (BV.scal_rep _ _ (OC.scal_get (Hp.scal_get O2 t0 ob0 hsc h1) j) hr)
  ·obtain ⟨hnl, ob0, h3, hE, _, h5, hw, _, h6⟩ := Hp.get_killL h2
   rw [hβl t h1] at hre ⊢
   obtain ⟨cs, fr, g1, g2, g3, g4, g5⟩ := h.mem.obj t ob0 h3 hre
   have hcov : ∀ i, (ob0.whole = true ∨ ((β t).o <= i /\ i < (β t).o + ob0.n)) -> ¬ Owns (fun t => β (σ t)) Oc ⟨(β t).b, i, none⟩ := fun i hi => hapart t ob0 h3 hnl _ ⟨hre, rfl, hi⟩
   have hblk : ∃ cs' : Array Value, w'.heap[(β t).b]? = some (.cells cs' ob0.E fr) /\ cs'.size = cs.size /\ ∀ i, (β t).o <= i -> i < (β t).o + ob0.n -> cs'[i]? = cs[i]? := by
    rcases h.mem.pos t ob0 h3 with hp | hp | hp
    ·obtain ⟨cs', k1, k2, k3⟩ := hkeep.part _ cs ob0.E fr g1 ⟨0, hcov 0 (.inl hp)⟩
     exact ⟨cs', k1, k2, fun i hi1 hi2 => k3 i (hcov i (.inl hp))⟩
    ·obtain ⟨cs', k1, k2, k3⟩ := hkeep.part _ cs ob0.E fr g1 ⟨(β t).o, hcov _ (.inr ⟨Nat.le_refl _, by omega⟩)⟩
     exact ⟨cs', k1, k2, fun i hi1 hi2 => k3 i (hcov i (.inr ⟨hi1, hi2⟩))⟩
    ·rw [hre] at hp; cases hp
   obtain ⟨cs', k1, k2, k3⟩ := hblk
   refine ⟨cs', fr, by rw [hE]; exact k1, g2.imp id (fun h => by omega), by rw [h5, k2]; exact g3, g4, fun j hj => ?_⟩
   rw [h5] at hj
   obtain ⟨u, hu, hr⟩ := g5 j hj
   refine ⟨u, by rw [k3 _ (by omega) (by omega)]; exact hu, ?_⟩
   obtain ⟨h7, h8⟩ := h6 j
   rcases h7 with h7 | h7
   ·rw [<- h7] at hr
    exact BV.Rep.tr hstab _ _ (fun t' ht' => htags t' (fun hl => absurd ht' (h8 t' hl))) hr
   ·rw [h7]; trivial
 ·intro t ob t' ob' ht ht' hne a ha ha'
  rcases hcase t ob ht with ⟨t0, ob0, h1, rfl, rfl⟩ | ⟨h1, h2⟩
  ·rw [hβ2] at ha
   rcases hcase t' ob' ht' with ⟨t0', ob0', h1', rfl, rfl⟩ | ⟨h1', h2'⟩
   ·rw [hβ2] at ha'
    exact hm.disj t0 ob0 t0' ob0' h1 h1' (fun e => hne (by rw [e])) a (OB.cov_ren.1 ha) (OB.cov_ren.1 ha')
   ·obtain ⟨hnl, obk, h3, _, _, h5, h6, _, _⟩ := Hp.get_killL h2'
    rw [hβl t' h1'] at ha'
    have hak : obk.cov (β t') a := by unfold OB.cov at ha' ⊢; rw [<- h5, <- h6]; exact ha'
    rcases hdom t0 ob0 a h1 (OB.cov_ren.1 ha) with h7 | h7
    ·exact hapart t' obk h3 hnl a hak h7
    ·have := hold t' obk a h3 hak
     omega
  ·obtain ⟨hnl, obk, h3, _, _, h5, h6, _, _⟩ := Hp.get_killL h2
   rw [hβl t h1] at ha
   have hak : obk.cov (β t) a := by unfold OB.cov at ha ⊢; rw [<- h5, <- h6]; exact ha
   rcases hcase t' ob' ht' with ⟨t0', ob0', h1', rfl, rfl⟩ | ⟨h1', h2'⟩
   ·rw [hβ2] at ha'
    rcases hdom t0' ob0' a h1' (OB.cov_ren.1 ha') with h7 | h7
    ·exact hapart t obk h3 hnl a hak h7
    ·have := hold t obk a h3 hak
     omega
   ·obtain ⟨_, obk', h3', _, _, h5', h6', _, _⟩ := Hp.get_killL h2'
    rw [hβl t' h1'] at ha'
    have hak' : obk'.cov (β t') a := by unfold OB.cov at ha' ⊢; rw [<- h5', <- h6']; exact ha'
    exact h.mem.disj t obk t' obk' h3 h3' hne a hak hak'
 ·intro t ob ht a ha hN
  rcases hcase t ob ht with ⟨t0, ob0, h1, rfl, rfl⟩ | ⟨h1, h2⟩
  ·rw [hβ2] at ha
   exact hm.notN t0 ob0 h1 a (OB.cov_ren.1 ha) (.inl hN)
  ·obtain ⟨_, obk, h3, _, _, h5, h6, _, _⟩ := Hp.get_killL h2
   rw [hβl t h1] at ha
   exact h.mem.notN t obk h3 a (by unfold OB.cov at ha ⊢; rw [<- h5, <- h6]; exact ha) hN
 ·rintro a ⟨tc, obc, h1, h2⟩
  exact h.dom _ _ (hs tc obc h1) a (OB.cov_ren.2 h2)
 ·intro t ob ht a ha
  have hsz := h.keep.size
  rcases hcase t ob ht with ⟨t0, ob0, h1, rfl, rfl⟩ | ⟨h1, h2⟩
  ·rw [hβ2] at ha
   rcases hdom t0 ob0 a h1 (OB.cov_ren.1 ha) with ⟨tc, obc, h3, h4⟩ | h3
   ·exact h.dom _ _ (hs tc obc h3) a (OB.cov_ren.2 h4)
   ·exact .inr (by omega)
  ·obtain ⟨_, obk, h3, _, _, h5, h6, _, _⟩ := Hp.get_killL h2
   rw [hβl t h1] at ha
   exact h.dom t obk h3 a (by unfold OB.cov at ha ⊢; rw [<- h5, <- h6]; exact ha)
 ·intro t ht
  rw [hβl t (hcp t ht)]
  exact h.pins t ht
def OV (P : Program) (s : Sem Next) : Prop := ∀ w n w', s.run P w = .ok n w' -> ∃ v, n = .value v
theorem OV.ret {P : Program} (v : Value) : OV P (pure (Next.value v)) := by
 intro w n w' h
 rw [Sem.run_pure] at h
 cases h
 exact ⟨v, rfl⟩
theorem OV.bind {P : Program} {α : Type} {s : Sem α} {f : α -> Sem Next} (h : ∀ x, OV P (f x)) : OV P (s >>= f) := by
 intro w n w' hr
 rw [Sem.run_bind] at hr
 cases hx : s.run P w with
 | ok u w1 => rw [hx] at hr; exact h u w1 n w' hr
 | halt e w1 => rw [hx] at hr; simp [Result.andThen] at hr
theorem OV.v {P : Program} {s : Sem Value} : OV P (do pure (Next.value (<- s))) := OV.bind fun x => OV.ret x
theorem OV.halt {P : Program} {s : Sem Next} (h : ∀ w, ∃ e w', s.run P w = .halt e w') : OV P s := by
 intro w n w' hr
 obtain ⟨e, w1, h1⟩ := h w
 rw [h1] at hr
 cases hr
theorem quiet_value {C : Ctx} {P : Program} {ρ : Operand -> Value} {o : Oper} (h : loud C o.op = false) {w w' : World} {n : Next} (hr : (execOp ρ o).run P w = .ok n w') : ∃ v, n = .value v := by
 suffices hh : OV P (execOp ρ o) from hh _ _ _ hr
 clear hr
 cases hop : o.op <;> rw [hop] at h <;> first | (simp [loud] at h; done) | skip
 case call c =>
  simp only [execOp, hop, resolve]
  simp only [loud] at h
  cases hc : c.callee with
  | builtin b =>
   rw [hc] at h
   simp only [pure_bind, invoke]
   cases b <;> first | (simp at h; done) | exact OV.v
  | _ => rw [hc] at h; simp at h
 case nilCheck x =>
  simp only [execOp, hop]
  split
  ·exact OV.halt fun w => ⟨_, _, rfl⟩
  ·exact OV.halt fun w => ⟨_, _, rfl⟩
  ·exact OV.halt fun w => ⟨_, _, rfl⟩
  ·split
   ·exact OV.halt fun w => ⟨_, _, rfl⟩
   ·refine OV.bind fun _ => OV.bind fun _ => ?_
    split
    ·exact OV.bind fun _ => OV.ret _
    ·exact OV.ret _
   ·exact OV.ret _
  ·exact OV.ret _
 all_goals (simp only [execOp, hop])
 all_goals first
  | exact OV.v
  | exact OV.ret _
  | exact OV.bind fun _ => OV.ret _
theorem OpOK.value {C : Ctx} {o : Oper} {fr : Fr} {O : Hp} {k : OpK} (h : OpOK C o fr O k) (hl : loud C o.op = false) {E : Env} {β : Loc} {a : Act} {w : World} (hst : St C E β fr O a w) :
  ∃ v u fr' x O' β', (execOp a.eval o).run C.P w = .ok (.value v) w /\ a.put o.dst v = a.put o.dst u /\ k fr' x O' /\ St C E β' fr' O' a w /\ x.Rep (Un E.N β' O') β' O' w u := by
 have hw := h E β a w hst (fun a' w' => ∃ u fr' x O' β', a' = a.put o.dst u /\ w' = w /\ k fr' x O' /\ St C E β' fr' O' a w' /\ x.Rep (Un E.N β' O') β' O' w' u) (fun _ _ _ => False)
  (fun fr' x O' β' w' u h1 h2 h3 h4 => ⟨u, fr', x, O', β', rfl, h4 hl, h1, h2, h3⟩)
 unfold Oper.wp at hw
 cases hr : (execOp a.eval o).run C.P w with
 | halt e w' => rw [hr] at hw; cases e <;> simp [Oper.upon] at hw
 | ok n w' =>
  obtain ⟨v, rfl⟩ := quiet_value hl hr
  rw [hr] at hw
  obtain ⟨u, fr', x, O', β', h1, rfl, h2, h3, h4⟩ := hw
  exact ⟨v, u, fr', x, O', β', rfl, h1, h2, h3, h4⟩
abbrev Spec := List BV -> Hp -> (List BV -> Hp -> Prop) -> Prop
def resV : List BV -> BV
 | [x] => x
 | l => .tup l.length (fun j => l.getD j .dead)
def GlOK (gl : Nat -> Option (Nat × (Nat -> GV))) (N : Addr -> Prop) (ng : Nat) (w : World) : Prop :=
 ∀ g m f, gl g = some (m, f) -> ∀ j, j < m -> w.cell? ⟨g, j, none⟩ = some (f j).val /\ ¬ N ⟨g, j, none⟩ /\ g < ng
def noLoc : Loc := fun _ => ⟨0, 0, false⟩
structure Sp where
 pins : List Nat
 sp : Spec
def FPost (N : Addr -> Prop) (ng : Nat) (β : Loc) (O : Hp) (w : World) (pins : List Nat) (kk : List BV -> Hp -> Prop) (e : Ending) (w' : World) : Prop :=
 ∃ v β2 O2 rs, e = .returned v /\ kk rs O2 /\ Mem N ng β2 O2 w' /\ Keep (Owns β O) w w' /\ (∀ t, t ∈ pins -> β2 t = β t) /\
  (∀ t ob a, Hp.get O2 t = some ob -> ob.cov (β2 t) a -> Owns β O a ∨ w.heap.size <= a.block) /\ (resV rs).Rep (Un N β2 O2) β2 O2 w' v
def FOK (P : Program) (gl : Nat -> Option (Nat × (Nat -> GV))) (f : FuncId) (s : Sp) : Prop :=
 (∀ args w, (callFunc f args).run P w = .ok (.enter f args) w) /\
 ∀ (N : Addr -> Prop) (ng : Nat) (β : Loc) (O : Hp) (w : World) (xs : List BV) (vals : Array Value) (kk : List BV -> Hp -> Prop), (∀ a, N a -> a.block < w.heap.size) -> ng <= w.heap.size -> GlOK gl N ng w -> Mem N ng β O w -> vals.size = xs.length ->
  (∀ (i : Nat) (x : BV), xs[i]? = some x -> ∃ u, vals[i]? = some u /\ x.Rep (Un N β O) β O w u) -> s.sp xs O kk -> Calls P f vals w (FPost N ng β O w s.pins kk)
theorem BV.Rep.bare {U : Addr -> Prop} {β β' : Loc} {O O' : Hp} {w : World} {x : BV} {u : Value} (hx : ∀ t, ¬ x.uses t) (h : x.Rep U β O w u) : x.Rep U β' O' w u :=
 BV.Rep.tr (Stab.refl U w) x u (fun t ht => absurd ht (hx t)) h
def BV.bare : BV -> Prop
 | .own _ _ _ => False
 | .ptr _ _ => False
 | .mv _ _ _ => False
 | .clo _ caps => ∀ c, c ∈ caps -> match c with | .p _ => True | .ptr _ _ => False
 | .tup _ _ => False
 | .ag _ _ => False
 | _ => True
theorem BV.bare_uses {x : BV} (h : x.bare) (t : Nat) : ¬ x.uses t := by
 cases x with
 | own t' off n => exact h.elim
 | ptr t' off => exact h.elim
 | mv fn t' off => exact h.elim
 | clo fn caps =>
  rintro ⟨c, hc, hu⟩
  have := h c hc
  cases c <;> simp_all [CV.uses]
 | tup n f => exact h.elim
 | ag n f => exact h.elim
 | _ => exact fun h => h
def bareL : List BV -> Prop
 | [] => True
 | x :: r => x.bare /\ bareL r
theorem bareL_spec : ∀ {l : List BV}, bareL l -> ∀ (i : Nat) (x : BV), l[i]? = some x -> x.bare
 | y :: r, h, 0, x, hi => by simp at hi; subst hi; exact h.1
 | y :: r, h, i + 1, x, hi => bareL_spec h.2 i x (by simpa using hi)
def pinL (k : Nat) : List Nat -> Prop
 | [] => True
 | t :: r => t < k /\ pinL k r
theorem pinL_spec {k : Nat} : ∀ {l : List Nat}, pinL k l -> ∀ t, t ∈ l -> t < k
 | t :: r, h, t', ht => by
  rcases List.mem_cons.1 ht with rfl | ht
  ·exact h.1
  ·exact pinL_spec h.2 t' ht
def lendV (O : Hp) : BV -> BV
 | .own t off n => match Hp.get O t with
  | some ob => ob.pv off n
  | none => .dead
 | x => x
def lendR (O : Hp) : BV -> BV
 | .own t off n => match Hp.get O t with
  | some ob => ob.pv off n
  | none => .dead
 | .ptr _ _ => .dead
 | .clo _ _ => .dead
 | .mv _ _ _ => .dead
 | .tup n f => .tup n (fun j => lendR O (f j))
 | .ag _ _ => .dead
 | x => x
def lendL (C : Ctx) (fr : Fr) (O : Hp) : List Operand -> List BV
 | [] => []
 | x :: r => lendV O (Fr.ev C fr x) :: lendL C fr O r
def bareA (C : Ctx) (fr : Fr) : List Operand -> Prop
 | [] => True
 | x :: r => (Fr.ev C fr x).bare /\ bareA C fr r
theorem Mem.frozen {N U : Addr -> Prop} {ng : Nat} {β : Loc} {O : Hp} {w : World} (h : Mem N ng β O w) {t : Nat} {ob : OB} (ht : Hp.get O t = some ob) {off n : Nat} {u : Value} (hx : (BV.own t off n).Rep (Un N β O) β O w u)
  (hnew : ∀ a, ob.cov (β t) a -> ¬ U a) (hU : (∀ a, U a -> Un N β O a) ∨ ob.c.scal) {β' : Loc} {O' : Hp} : (ob.pv off n).Rep U β' O' w u := by
 have hw := h.wf t ob ht
 obtain ⟨hn, hu⟩ := hx
 have cells : ∃ A c, u = .slice A n c /\ n <= c /\ ∀ j, j < n * ob.s -> ∃ a y, A = some a /\ ¬ U (a.add j) /\ off + j < ob.n /\ w.cell? (a.add j) = some y /\ (ob.c.get (off + j)).Rep (Un N β O) β O w y := by
  rcases hu with ⟨ob', c, E0, sz, hob, hre, rfl, hcap, hfit, _, _⟩ | ⟨rfl, A, rfl⟩
  ·rw [ht] at hob; cases hob
   refine ⟨_, c, rfl, hcap, fun j hj => ?_⟩
   obtain ⟨y, hy, _, hr⟩ := h.cell ht (j := off + j) (by omega)
   have e : (⟨(β t).b, (β t).o + off, none⟩ : Addr).add j = ⟨(β t).b, (β t).o + (off + j), none⟩ := by rw [Addr.add_mid, Nat.add_assoc]
   exact ⟨_, y, rfl, by rw [e]; exact hnew _ ⟨hre, rfl, .inr ⟨by simp, by simp; omega⟩⟩, by omega, by rw [e]; exact hy, hr⟩
  ·exact ⟨A, 0, rfl, Nat.le_refl _, fun j hj => by omega⟩
 obtain ⟨A, c, rfl, hcap, hc⟩ := cells
 unfold OB.pv
 cases hcc : ob.c with
 | bs l =>
  rw [OB.wf, hcc] at hw
  obtain ⟨hs, hl⟩ := hw
  have hlen : ((l.drop off).take n).length = n := by
   rcases Nat.eq_zero_or_pos n with h0 | h0
   ·simp [h0]
   ·obtain ⟨_, _, _, _, hlt, _⟩ := hc (n - 1) (by rw [hs]; omega)
    simp; omega
  refine ⟨by rw [hlen]; exact hn, A, c, by rw [hlen], by rw [hlen]; exact hcap, fun j hj => ?_⟩
  rw [hlen] at hj
  obtain ⟨a, y, hA, hUa, _, hy, hr⟩ := hc j (by rw [hs]; omega)
  rw [hcc] at hr
  have hr' : y = .int .u8 ((l.getD (off + j) 0).toNat : Int) := hr
  refine ⟨a, hA, hUa, ?_⟩
  rw [hy, hr']
  congr 4
  simp [List.getD_eq_getElem?_getD, List.getElem?_drop, hj]
 | rows f =>
  refine ⟨hn, A, c, rfl, hcap, fun j hj => ?_⟩
  obtain ⟨a, y, hA, hUa, _, hy, hr⟩ := hc j hj
  rw [hcc] at hr
  refine ⟨a, y, hA, hUa, hy, ?_⟩
  rcases hU with hU | hsc
  ·exact PV.Rep.stab (fun a y h1 h2 => ⟨fun h3 => h1 (hU a h3), h2⟩) _ _ hr
  ·rw [hcc] at hsc; exact PV.scal_rep (hsc _) hr
 | cells l => trivial
theorem lendR_rep {N U : Addr -> Prop} {ng : Nat} {β : Loc} {O : Hp} {w : World} (h : Mem N ng β O w) (hnew : ∀ t ob a, Hp.get O t = some ob -> ob.cov (β t) a -> ¬ U a) {β' : Loc} {O' : Hp} :
  ∀ (x : BV) (u : Value), ((∀ a, U a -> Un N β O a) ∨ (x.scal /\ O.scal)) -> x.Rep (Un N β O) β O w u -> (lendR O x).Rep U β' O' w u
 | .own t off n, u, hU, hx => by
  simp only [lendR]
  cases ht : Hp.get O t with
  | none => trivial
  | some ob => exact h.frozen ht hx (fun a ha => hnew t ob a ht ha) (hU.imp id fun hs => Hp.scal_get O t ob hs.2 ht)
 | .ptr _ _, u, _, _ => trivial
 | .clo _ _, u, _, _ => trivial
 | .mv _ _ _, u, _, _ => trivial
 | .dead, u, _, _ => trivial
 | .p x, u, hU, hx => by
  rcases hU with hU | hs
  ·exact PV.Rep.stab (fun a y h1 h2 => ⟨fun h3 => h1 (hU a h3), h2⟩) x u hx
  ·exact PV.scal_rep (x := x) hs.1 hx
 | .rp m f, u, hU, hx => by
  rcases hU with hU | hs
  ·obtain ⟨a, rfl, hc⟩ := hx
   exact ⟨a, rfl, fun j hj => let ⟨h1, y, h2, h3⟩ := hc j hj; ⟨fun h4 => h1 (hU _ h4), y, h2, PV.Rep.stab (fun a y h1 h2 => ⟨fun h3 => h1 (hU a h3), h2⟩) _ _ h3⟩⟩
  ·exact BV.Rep.bare (fun t h => h) (BV.scal_rep _ _ hs.1 hx)
 | .agg n f, u, hU, hx => by
  rcases hU with hU | hs
  ·obtain ⟨cs, rfl, hsz, hc⟩ := hx
   exact ⟨cs, rfl, hsz, fun j hj => let ⟨y, h2, h3⟩ := hc j hj; ⟨y, h2, PV.Rep.stab (fun a y h1 h2 => ⟨fun h3 => h1 (hU a h3), h2⟩) _ _ h3⟩⟩
  ·exact BV.Rep.bare (fun t h => h) (BV.scal_rep _ _ hs.1 hx)
 | .ag _ _, _, _, _ => trivial
 | .tup n f, u, hU, hx => by
  obtain ⟨vs, rfl, hsz, hc⟩ := hx
  exact ⟨vs, rfl, hsz, fun j hj => let ⟨y, h2, h3⟩ := hc j hj; ⟨y, h2, lendR_rep h hnew (f j) y (hU.imp id fun hs => ⟨hs.1 j hj, hs.2⟩) h3⟩⟩
def tagsL (C : Ctx) (fr : Fr) : List Operand -> List Nat
 | [] => []
 | x :: r => match Fr.ev C fr x with
  | .own t _ _ => t :: tagsL C fr r
  | _ => tagsL C fr r
theorem tagsL_bare {C : Ctx} {fr : Fr} : ∀ {l : List Operand}, bareA C fr l -> tagsL C fr l = []
 | [], _ => rfl
 | x :: r, h => by
  simp only [tagsL]
  cases hx : Fr.ev C fr x with
  | own t off n => have := h.1; rw [hx] at this; exact this.elim
  | _ => exact tagsL_bare h.2
theorem tagsL_mem {C : Ctx} {fr : Fr} : ∀ {l : List Operand} {x : Operand} {t off n : Nat}, x ∈ l -> Fr.ev C fr x = .own t off n -> t ∈ tagsL C fr l
 | y :: r, x, t, off, n, hm, hx => by
  simp only [tagsL]
  rcases List.mem_cons.1 hm with rfl | hm
  ·rw [hx]; exact List.mem_cons.2 (.inl rfl)
  ·have := tagsL_mem hm hx
   cases hy : Fr.ev C fr y with
   | own t' off' n' => exact List.mem_cons_of_mem _ this
   | _ => exact this
theorem lendL_congr {C : Ctx} {fr fr' : Fr} {O : Hp} : ∀ {l : List Operand}, (∀ x, x ∈ l -> Fr.ev C fr' x = Fr.ev C fr x) -> lendL C fr' O l = lendL C fr O l
 | [], _ => rfl
 | x :: r, h => by simp only [lendL]; rw [h x List.mem_cons_self, lendL_congr fun y hy => h y (List.mem_cons_of_mem _ hy)]
theorem bareA_congr {C : Ctx} {fr fr' : Fr} : ∀ {l : List Operand}, (∀ x, x ∈ l -> Fr.ev C fr' x = Fr.ev C fr x) -> bareA C fr l -> bareA C fr' l
 | [], _, _ => trivial
 | x :: r, h, hb => ⟨by rw [h x List.mem_cons_self]; exact hb.1, bareA_congr (fun y hy => h y (List.mem_cons_of_mem _ hy)) hb.2⟩
def CV.bv : CV -> BV
 | .p x => .p x
 | .ptr t off => .ptr t off
def capL : List CV -> List BV
 | [] => []
 | c :: r => c.bv :: capL r
theorem lendL_get {C : Ctx} {fr : Fr} {O : Hp} : ∀ {l : List Operand}, (lendL C fr O l).length = l.length /\ ∀ (i : Nat) (x : BV), (lendL C fr O l)[i]? = some x -> ∃ y, l[i]? = some y /\ x = lendV O (Fr.ev C fr y)
 | [] => ⟨rfl, fun i x h => by simp [lendL] at h⟩
 | y :: r => by
  obtain ⟨h1, h2⟩ := lendL_get (C := C) (fr := fr) (O := O) (l := r)
  refine ⟨by simp [lendL, h1], fun i x h => ?_⟩
  cases i with
  | zero => simp only [lendL, List.getElem?_cons_zero, Option.some.injEq] at h; exact ⟨y, rfl, h.symm⟩
  | succ i => simpa using h2 i x (by simpa [lendL] using h)
def lendK (L : List Nat) (O : Hp) : BV -> BV
 | .own t off n => if t ∈ L then .own t off n else lendV O (.own t off n)
 | x => x
def lendKL (C : Ctx) (fr : Fr) (O : Hp) (L : List Nat) : List Operand -> List BV
 | [] => []
 | x :: r => lendK L O (Fr.ev C fr x) :: lendKL C fr O L r
def tagsKL (C : Ctx) (fr : Fr) (L : List Nat) : List Operand -> List Nat
 | [] => []
 | x :: r => match Fr.ev C fr x with
  | .own t _ _ => if t ∈ L then tagsKL C fr L r else t :: tagsKL C fr L r
  | _ => tagsKL C fr L r
theorem lendKL_nil {C : Ctx} {fr : Fr} {O : Hp} : ∀ {l : List Operand}, lendKL C fr O [] l = lendL C fr O l
 | [] => rfl
 | x :: r => by
  have e : lendK [] O (Fr.ev C fr x) = lendV O (Fr.ev C fr x) := by
   cases Fr.ev C fr x <;> simp [lendK, lendV]
  simp only [lendKL, lendL, lendKL_nil (l := r), e]
theorem tagsKL_nil {C : Ctx} {fr : Fr} : ∀ {l : List Operand}, tagsKL C fr [] l = tagsL C fr l
 | [] => rfl
 | x :: r => by
  simp only [tagsKL, tagsL, tagsKL_nil (l := r)]
  cases Fr.ev C fr x <;> simp
theorem tagsKL_mem {C : Ctx} {fr : Fr} {L : List Nat} : ∀ {l : List Operand} {x : Operand} {t off n : Nat}, x ∈ l -> Fr.ev C fr x = .own t off n -> t ∉ L -> t ∈ tagsKL C fr L l
 | y :: r, x, t, off, n, hm, hx, hn => by
  simp only [tagsKL]
  rcases List.mem_cons.1 hm with rfl | hm
  ·rw [hx]; simp [hn]
  ·have := tagsKL_mem hm hx hn
   cases hy : Fr.ev C fr y with
   | own t' off' n' => simp only []; split <;> first | exact this | exact List.mem_cons_of_mem _ this
   | _ => exact this
theorem lendKL_get {C : Ctx} {fr : Fr} {O : Hp} {L : List Nat} : ∀ {l : List Operand}, (lendKL C fr O L l).length = l.length /\ ∀ (i : Nat) (x : BV), (lendKL C fr O L l)[i]? = some x -> ∃ y, l[i]? = some y /\ x = lendK L O (Fr.ev C fr y)
 | [] => ⟨rfl, fun i x h => by simp [lendKL] at h⟩
 | y :: r => by
  obtain ⟨h1, h2⟩ := lendKL_get (C := C) (fr := fr) (O := O) (L := L) (l := r)
  refine ⟨by simp [lendKL, h1], fun i x h => ?_⟩
  cases i with
  | zero => simp only [lendKL, List.getElem?_cons_zero, Option.some.injEq] at h; exact ⟨y, rfl, h.symm⟩
  | succ i => simpa using h2 i x (by simpa [lendKL] using h)
def callW (lead : List BV) (C : Ctx) (fr : Fr) (O : Hp) (s : Sp) (args : List Operand) (caps : List CV) (xs : List BV) (Oc : Hp) (σ : Nat -> Nat) (k : OpK) : Prop :=
 lead ++ (lendKL C fr O ((doms Oc).map σ) args ++ capL caps) = xs.map (BV.ren σ) /\ SubH σ Oc O /\ InjH σ Oc /\ InnH Oc /\ BV.innL Oc xs /\ pinL (fresh O) C.pins /\
 (∀ t, t ∈ doms Oc -> t ∉ s.pins -> σ t ∉ C.pins) /\
 s.sp xs Oc fun rs O2 =>
  (∀ t, t ∈ s.pins -> ∃ ob ob2, Hp.get Oc t = some ob /\ Hp.get O2 t = some ob2 /\ ob2.s = ob.s /\ ob.n <= ob2.n) /\
  (tagsKL C fr ((doms Oc).map σ) args = [] ∨ ((resV rs).scal /\ O2.scal)) /\
  k (((doms Oc).filter (fun t => t ∉ s.pins)).foldr (fun t fr => Fr.kill (σ t) fr) fr) ((resV rs).ren (τL s.pins σ (fresh O))) (Hp.ren (τL s.pins σ (fresh O)) O2 ++ Hp.killL ((doms Oc).map σ) O)
def callA (C : Ctx) (S : FuncId -> Option Sp) (fr : Fr) (O : Hp) (x : BV) (args : List Operand) (k : OpK) : Prop :=
 match x with
 | .clo f caps => match S f with
  | some s => ∃ xs Oc σ, callW [] C fr O s args caps xs Oc σ k
  | none => False
 | .mv f t off => match S f with
  | some s => ∃ xs Oc σ, callW [.ptr t off] C fr O s args [] xs Oc σ k
  | none => False
 | _ => False
theorem St.glOK {C : Ctx} {E : Env} {β : Loc} {fr : Fr} {O : Hp} {a : Act} {w : World} (h : St C E β fr O a w) : GlOK C.gl (Un E.N β O) E.ng w := by
 intro g m f hg j hj
 have hg' : E.c.gl g = some (m, f) := by rw [h.ctx]; exact hg
 obtain ⟨h1, h2, h3, h4⟩ := h.core.ok.gl g m f hg' j hj
 refine ⟨h.core.keep.cell h1 h3, ?_, h4⟩
 rintro (hN | ⟨t, ob, ht, hre, hb, _⟩)
 ·exact h2 hN
 ·obtain ⟨cs, fr, _, _, _, hng, _⟩ := h.core.mem.obj t ob ht hre
  simp at hb
  omega
theorem Fr.get_killF {σ : Nat -> Nat} : ∀ {l : List Nat} {fr : Fr} {d : Nat}, (Fr.get (l.foldr (fun t fr => Fr.kill (σ t) fr) fr) d = Fr.get fr d ∨ Fr.get (l.foldr (fun t fr => Fr.kill (σ t) fr) fr) d = .dead) /\ ∀ t, t ∈ l -> ¬ (Fr.get (l.foldr (fun t fr => Fr.kill (σ t) fr) fr) d).uses (σ t)
 | [], fr, d => ⟨.inl rfl, fun t ht => by simp at ht⟩
 | a :: r, fr, d => by
  obtain ⟨h1, h2⟩ := Fr.get_killF (σ := σ) (l := r) (fr := fr) (d := d)
  simp only [List.foldr_cons]
  have e := Fr.get_kill (σ a) (r.foldr (fun t fr => Fr.kill (σ t) fr) fr) d
  have hk : (Fr.get (r.foldr (fun t fr => Fr.kill (σ t) fr) fr) d).kill (σ a) = Fr.get (r.foldr (fun t fr => Fr.kill (σ t) fr) fr) d ∨ (Fr.get (r.foldr (fun t fr => Fr.kill (σ t) fr) fr) d).kill (σ a) = .dead := by
   cases Fr.get (r.foldr (fun t fr => Fr.kill (σ t) fr) fr) d <;> simp only [BV.kill] <;> (try split) <;> simp
  refine ⟨?_, fun t ht hu => ?_⟩
  ·rw [e]
   rcases hk with hk | hk
   ·rw [hk]; exact h1
   ·exact .inr hk
  ·rw [e] at hu
   rcases List.mem_cons.1 ht with rfl | ht
   ·exact BV.kill_uses _ _ hu
   ·rcases hk with hk | hk
    ·rw [hk] at hu; exact h2 t ht hu
    ·rw [hk] at hu; exact hu
theorem CV.bv_rep {U : Addr -> Prop} {β : Loc} {O : Hp} {w : World} {c : CV} {u : Value} (h : c.Rep U β O w u) : c.bv.Rep U β O w u := by
 cases c <;> exact h
theorem capL_get : ∀ {caps : List CV}, (capL caps).length = caps.length /\ ∀ (i : Nat) (x : BV), (capL caps)[i]? = some x -> ∃ c, caps[i]? = some c /\ x = c.bv
 | [] => ⟨rfl, fun i x h => by simp [capL] at h⟩
 | c :: r => by
  obtain ⟨h1, h2⟩ := capL_get (caps := r)
  refine ⟨by simp [capL, h1], fun i x h => ?_⟩
  cases i with
  | zero => simp only [capL, List.getElem?_cons_zero, Option.some.injEq] at h; exact ⟨c, rfl, h.symm⟩
  | succ i => simpa using h2 i x (by simpa [capL] using h)
theorem ren_dead {σ : Nat -> Nat} {y : BV} (h : y.ren σ = .dead) : y = .dead := by cases y <;> first | rfl | cases h
theorem ren_p {σ : Nat -> Nat} {y : BV} {x : PV} (h : y.ren σ = .p x) : y = .p x := by cases y <;> first | exact h | cases h
theorem ren_pv {σ : Nat -> Nat} {y : BV} {ob : OB} {off n : Nat} (h : y.ren σ = ob.pv off n) : y = ob.pv off n := by
 unfold OB.pv at h ⊢
 split at h
 ·exact ren_p h
 ·exact ren_p h
 ·exact ren_dead h
theorem callW_ok {C : Ctx} {f : FuncId} {s : Sp} (hF : FOK C.P C.gl f s) {o : Oper} {x : Operand} {args : Array Operand} {ats : Array TypeId} (ho : o.op = .call { callee := .value x, args, argTypes := ats })
  {fr : Fr} {O : Hp} {k : OpK} {lead : List BV} {caps : List CV} (h : ∃ xs Oc σ, callW lead C fr O s args.toList caps xs Oc σ k)
  (hval : ∀ (E : Env) (β : Loc) (a : Act) (w : World), St C E β fr O a w -> ∃ (ls : List Value) (vs : Array Value), a.eval x = .func (.func f) ls.toArray vs /\ ls.length = lead.length /\ (∀ (i : Nat) (y : BV), lead[i]? = some y -> ∃ u, ls[i]? = some u /\ y.Rep (Un E.N β O) β O w u) /\
   vs.size = caps.length /\ ∀ (i : Nat) (c : CV), caps[i]? = some c -> ∃ y, vs[i]? = some y /\ c.Rep (Un E.N β O) β O w y) : OpOK C o fr O k := by
 obtain ⟨xs, Oc, σ, hargs, hsub, hinj, hinn, hinx, hpl, hcp, hsp⟩ := h
 obtain ⟨hrun1, hcall⟩ := hF
 intro E β a w hst K Q hK
 obtain ⟨ls, vs, ex, hll, hlr, hvs, hvc⟩ := hval E β a w hst
 have hrun : (execOp a.eval o).run C.P w = .ok (.enter f (ls.toArray ++ args.map a.eval ++ vs)) w := by
  simp only [execOp, ho, resolve, Deferred.ofValue, ex, pure_bind, invoke]
  exact hrun1 _ _
 unfold Oper.wp
 rw [hrun]
 show Calls C.P f _ w _
 let lent := (doms Oc).map σ
 replace hargs : lead ++ (lendKL C fr O lent args.toList ++ capL caps) = xs.map (BV.ren σ) := hargs
 let L := tagsKL C fr lent args.toList ++ lent
 have hLl : ∀ t, (Hp.get Oc t).isSome = true -> σ t ∈ lent := fun t ht => List.mem_map.2 ⟨t, doms_mem.2 ht, rfl⟩
 have hL : ∀ t, (Hp.get Oc t).isSome = true -> σ t ∈ L := fun t ht => List.mem_append_right _ (hLl t ht)
 have hm := hst.core.lent_mem (L := L) hsub hinj hinn hL
 have hNU : ∀ b, lendN E β O L b -> Un E.N β O b := by
  rintro b (h1 | ⟨k, ob, h1, h2, _⟩)
  ·exact .inl h1
  ·exact .inr ⟨k, ob, h1, h2⟩
 have hUU : ∀ b, Un (lendN E β O L) (fun t => β (σ t)) Oc b -> Un E.N β O b := by
  rintro b (h1 | ⟨t, ob, h1, h2⟩)
  ·exact hNU b h1
  ·exact .inr ⟨σ t, _, hsub t ob h1, OB.cov_ren.2 h2⟩
 have hgl : GlOK C.gl (lendN E β O L) E.ng w := fun g m f hg j hj => ⟨(hst.glOK g m f hg j hj).1, fun h => (hst.glOK g m f hg j hj).2.1 (hNU _ h), (hst.glOK g m f hg j hj).2.2⟩
 obtain ⟨hlen, hget⟩ := lendKL_get (C := C) (fr := fr) (O := O) (L := lent) (l := args.toList)
 obtain ⟨hclen, hcget⟩ := capL_get (caps := caps)
 have hsz : (ls.toArray ++ args.map a.eval ++ vs).size = xs.length := by
  have := congrArg List.length hargs
  simp only [List.length_append, List.length_map, hlen, hclen, Array.length_toList] at this
  simp [hvs, hll]; omega
 have hv : ls.toArray ++ args.map a.eval ++ vs = (ls ++ (args.toList.map a.eval ++ vs.toList)).toArray := by
  apply Array.ext'; simp
 have hrep : ∀ (i : Nat) (y : BV), xs[i]? = some y -> ∃ u, (ls.toArray ++ args.map a.eval ++ vs)[i]? = some u /\ y.Rep (Un (lendN E β O L) (fun t => β (σ t)) Oc) (fun t => β (σ t)) Oc w u := by
  intro i y hy
  have hyi := BV.innL_mem hinx y (List.mem_of_getElem? hy)
  have hy0 : (lead ++ (lendKL C fr O lent args.toList ++ capL caps))[i]? = some (y.ren σ) := by rw [hargs, List.getElem?_map, hy]; rfl
  rw [hv, List.getElem?_toArray]
  rcases Nat.lt_or_ge i lead.length with hi0 | hi0
  ·rw [List.getElem?_append_left hi0] at hy0
   rw [List.getElem?_append_left (by omega)]
   obtain ⟨u, hu, hr⟩ := hlr i _ hy0
   exact ⟨u, hu, BV.Rep.unren hUU hsub y _ hyi hr⟩
  rw [List.getElem?_append_right hi0] at hy0
  rw [List.getElem?_append_right (by omega), hll]
  have hy' := hy0
  clear hy0 hy
  generalize i - lead.length = i at hy' ⊢
  rcases Nat.lt_or_ge i args.toList.length with hi | hi
  ·rw [List.getElem?_append_left (by rw [hlen]; exact hi)] at hy'
   rw [List.getElem?_append_left (by simpa using hi)]
   obtain ⟨z, hz, hyz⟩ := hget i _ hy'
   refine ⟨a.eval z, by rw [List.getElem?_map, hz]; rfl, ?_⟩
   have hzr := hst.ev z
   have hzm : z ∈ args.toList := List.mem_of_getElem? hz
   cases hev : Fr.ev C fr z with
   | own t off n =>
    rw [hev] at hzr hyz
    by_cases htl : t ∈ lent
    ·simp only [lendK, if_pos htl] at hyz
     refine BV.Rep.unren hUU hsub y _ hyi ?_
     rw [hyz]; exact hzr
    simp only [lendK, if_neg htl, lendV] at hyz
    cases ht : Hp.get O t with
    | none =>
     rw [ht] at hyz
     rw [ren_dead hyz]; trivial
    | some ob =>
     rw [ht] at hyz
     have hfz := hst.core.mem.frozen ht hzr (U := Un (lendN E β O L) (fun t => β (σ t)) Oc) (β' := fun t => β (σ t)) (O' := Oc) (fun b hb => ?_) (.inl hUU)
     ·rw [ren_pv hyz]; exact hfz
     ·rintro ((h1 | ⟨k, ob', h1, h2, h3⟩) | ⟨tc, obc, h1, h2⟩)
      ·exact hst.core.mem.notN t ob ht b hb h1
      ·exact hst.core.mem.disj t ob k ob' ht h1 (fun e => h3 (e ▸ List.mem_append_left _ (tagsKL_mem hzm hev htl))) b hb h2
      ·exact hst.core.mem.disj t ob (σ tc) _ ht (hsub tc obc h1) (fun e => htl (e ▸ hLl tc (by rw [h1]; rfl))) b hb (OB.cov_ren.2 h2)
   | _ =>
    rw [hev] at hzr hyz
    refine BV.Rep.unren hUU hsub y _ hyi ?_
    rw [hyz]; exact hzr
  ·rw [List.getElem?_append_right (by rw [hlen]; exact hi)] at hy'
   rw [List.getElem?_append_right (by simpa using hi)]
   obtain ⟨c, hc, hyc⟩ := hcget _ _ hy'
   obtain ⟨u, hu, hr⟩ := hvc _ c hc
   refine ⟨u, ?_, BV.Rep.unren hUU hsub y _ hyi ?_⟩
   ·rw [<- hu, hlen]; simp
   ·rw [hyc]; exact CV.bv_rep hr
 refine Calls.mono (hcall (lendN E β O L) E.ng (fun t => β (σ t)) Oc w xs _ _ (fun b hb => Un.of_lt hst.core (hNU b hb)) (Nat.le_trans hst.core.ok.ngs hst.core.keep.size) hgl hm hsz hrep hsp) ?_
 rintro e w' ⟨v, β2, O2, rs, rfl, ⟨hpk, hsc, hk⟩, hm2, hkeep, hpin, hdom, hr⟩
 obtain ⟨hinj2, hget2, hUn2, g⟩ := hst.core.lent_back (k := fresh O) (pins := s.pins) hsub hinj hL (fresh_lt O) (pinL_spec (by rw [hst.ctx]; exact hpl)) rfl hm2 hkeep hpin hdom hpk
  (by
   rcases hsc with h1 | h1
   ·refine .inl fun t ob _ hnl hl => ?_
    rcases List.mem_append.1 hl with h2 | h2
    ·rw [h1] at h2; simp at h2
    ·exact hnl h2
   ·exact .inr h1.2)
 refine hK _ _ _ (fun t => if t < fresh O then β t else β2 (t - fresh O)) w' v hk ?_ ?_ (fun h => by rw [ho] at h; cases h)
 ·have hst2 : St C E β (((doms Oc).filter (fun t => t ∉ s.pins)).foldr (fun t fr => Fr.kill (σ t) fr) fr) O a w := by
   refine ⟨hst.ctx, hst.good, hst.core, hst.defers, hst.size, fun d => ?_, hst.xs, hst.tok.mono fun d _ e1 => ?_⟩
   ·rcases (Fr.get_killF (σ := σ) (l := (doms Oc).filter (fun t => t ∉ s.pins)) (fr := fr) (d := d)).1 with e | e
    ·rw [e]; exact hst.slot d
    ·rw [e]; trivial
   ·rcases (Fr.get_killF (σ := σ) (l := (doms Oc).filter (fun t => t ∉ s.pins)) (fr := fr) (d := d)).1 with e | e
    ·rw [<- e]; exact e1
    ·rw [e] at e1; cases e1
  refine hst2.goes g fun d t hu hl => ?_
  obtain ⟨tc, h1, h2⟩ := List.mem_map.1 hl
  by_cases hp : tc ∈ s.pins
  ·exact ⟨tc, hp, h2⟩
  ·refine absurd hu ?_
   rw [<- h2]
   exact (Fr.get_killF (σ := σ) (fr := fr) (d := d)).2 tc (List.mem_filter.2 ⟨h1, by simpa using hp⟩)
 ·rcases hsc with h1 | h1
  ·refine BV.Rep.ren (fun b hb => ?_) hget2 _ _ hr
   rcases hUn2 b hb with h3 | ⟨t, ob, h3, h4, h5, _⟩
   ·exact h3
   ·rcases List.mem_append.1 h5 with h6 | h6
    ·rw [h1] at h6; simp at h6
    ·exact absurd h6 h4
  ·exact BV.Rep.ren (fun b hb => hb) hget2 _ _ (BV.scal_rep _ _ h1.1 hr)
theorem callA_ok {C : Ctx} {S : FuncId -> Option Sp} (hS : ∀ f s, S f = some s -> FOK C.P C.gl f s) {o : Oper} {x : Operand} {args : Array Operand} {ats : Array TypeId} (ho : o.op = .call { callee := .value x, args, argTypes := ats })
  {fr : Fr} {O : Hp} {k : OpK} (h : callA C S fr O (Fr.ev C fr x) args.toList k) : OpOK C o fr O k := by
 unfold callA at h
 split at h
 ·rename_i f caps hx
  split at h
  ·rename_i s hs
   refine callW_ok (hS f s hs) ho h fun E β a w hst => ?_
   have hxr := hst.ev x
   rw [hx] at hxr
   obtain ⟨vs, ex, hvs, hvc⟩ := hxr
   exact ⟨[], vs, ex, rfl, fun i y hi => by simp at hi, hvs, hvc⟩
  ·exact h.elim
 ·rename_i f t off hx
  split at h
  ·rename_i s hs
   refine callW_ok (hS f s hs) ho h fun E β a w hst => ?_
   have hxr := hst.ev x
   rw [hx] at hxr
   obtain ⟨ob, h1, h2, h3, h4⟩ := hxr
   refine ⟨[_], #[], h4, rfl, fun i y hi => ?_, rfl, fun i c hi => by simp at hi⟩
   cases i with
   | zero => cases hi; exact ⟨_, rfl, ob, h1, h2, h3, rfl⟩
   | succ i => simp at hi
  ·exact h.elim
 ·exact h.elim
theorem heap_freeze {w : World} {b : Nat} {cs : Array Value} {E : TypeId} {fr : Nat × Nat} (h : w.heap[b]? = some (.cells cs E fr)) (n : Nat) :
  (w.freeze ⟨b, n, none⟩ 1).heap[b]? = some (.cells cs E (if fr.1 == fr.2 then (n, n + 1) else (min fr.1 n, max fr.2 (n + 1)))) /\ (∀ k, k ≠ b -> (w.freeze ⟨b, n, none⟩ 1).heap[k]? = w.heap[k]?) /\ (w.freeze ⟨b, n, none⟩ 1).heap.size = w.heap.size := by
 obtain ⟨lo, hi⟩ := fr
 unfold World.freeze
 rw [if_neg (by decide)]
 refine ⟨?_, fun k hk => ?_, by simp⟩
 ·simp only [Array.getElem?_modify, if_true, h, Option.map_some]
 ·simp only [Array.getElem?_modify, if_neg (Ne.symm hk)]
theorem cell_freeze {w : World} {b : Nat} {cs : Array Value} {E : TypeId} {fr : Nat × Nat} (h : w.heap[b]? = some (.cells cs E fr)) (n : Nat) (a : Addr) : (w.freeze ⟨b, n, none⟩ 1).cell? a = w.cell? a := by
 obtain ⟨h1, h2, _⟩ := heap_freeze h n
 by_cases ha : a.block = b
 ·unfold World.cell?
  rw [ha, h1, h]
 ·unfold World.cell?
  rw [h2 _ ha]
theorem Core.mark {E : Env} {β : Loc} {O : Hp} {w : World} (h : Core E β O w) {t : Nat} {ob : OB} (ht : Hp.get O t = some ob) (hw : ob.whole = true) (hre : (β t).re = true) {cs : Array Value} {fr : Nat × Nat} (hh : w.heap[(β t).b]? = some (.cells cs ob.E fr)) :
  Goes E β O w β O (w.freeze ⟨(β t).b, cs.size, none⟩ 1) (fun _ => True) := by
 obtain ⟨h1, h2, h3⟩ := heap_freeze hh cs.size
 have hcell := cell_freeze hh cs.size
 have hshape : ∀ k, (w.freeze ⟨(β t).b, cs.size, none⟩ 1).shape? k = w.shape? k := by
  intro k
  simp only [World.shape?]
  by_cases hk : k = (β t).b
  ·subst hk; rw [h1, hh]
  ·rw [h2 k hk]
 have hstab : Stab (Un E.N β O) (Un E.N β O) w (w.freeze ⟨(β t).b, cs.size, none⟩ 1) := fun a y hU hy => ⟨hU, by rw [hcell]; exact hy⟩
 have htags : ∀ k, KeepsTag β O w β O (w.freeze ⟨(β t).b, cs.size, none⟩ 1) k := fun k o hk => ⟨rfl, o, hk, rfl, Nat.le_refl _, fun E0 sz hs => ⟨E0, sz, by rw [hshape]; exact hs, Nat.le_refl _⟩⟩
 have hD : ∀ a : Addr, a.block = (β t).b -> E.D a ∨ E.w0.heap.size <= a.block := fun a ha => h.dom t ob ht a ⟨hre, ha, .inl hw⟩
 have hkeep : Keep (fun a => a.block = (β t).b) w (w.freeze ⟨(β t).b, cs.size, none⟩ 1) := by
  refine ⟨?_, ?_, ?_, by omega, fun k hk hn => ?_, fun k cs1 E1 fr1 hh1 hx => ?_, fun k E1 sz hs => ⟨E1, sz, by rw [hshape]; exact hs, Nat.le_refl _⟩⟩
  ·unfold World.freeze; rw [if_neg (by decide)]
  ·unfold World.freeze; rw [if_neg (by decide)]
  ·unfold World.freeze; rw [if_neg (by decide)]
  ·exact h2 k (fun e => hn 0 e)
  ·obtain ⟨i, hi⟩ := hx
   have : k ≠ (β t).b := fun e => hi e
   exact ⟨cs1, by rw [h2 k this]; exact hh1, rfl, fun _ _ => rfl⟩
 have hC : ∀ a : Addr, a.block = (β t).b -> ∃ cs e fr, w.heap[a.block]? = some (.cells cs e fr) := fun a ha => ⟨cs, ob.E, fr, by rw [ha]; exact hh⟩
 refine ⟨⟨h.ok, ⟨h.mem.wf, h.mem.pos, h.mem.obj0, fun k ob' hk hre' => ?_, h.mem.disj, h.mem.notN⟩, h.keep.then hkeep (fun a ha => hD a ha), h.dom, h.pins, rows_keep h.ok h.rows hkeep (fun a ha => hC a ha)⟩, hstab, fun k _ => htags k⟩
 obtain ⟨cs1, fr1, g1, g2, g3, g4, g5⟩ := h.mem.obj k ob' hk hre'
 by_cases hb : (β k).b = (β t).b
 ·rw [hb] at g1
  rw [hh] at g1
  injection g1 with g1
  injection g1 with e1 e2 e3
  subst e1; subst e3
  refine ⟨cs, _, by rw [hb, h1, e2], ?_, g3, g4, fun j hj => let ⟨u, hu, hr⟩ := g5 j hj; ⟨u, hu, BV.Rep.tr hstab _ _ (fun t' _ => htags t') hr⟩⟩
  split
  ·exact .inr (Nat.le_refl _)
  ·rename_i hne
   rcases g2 with g2 | g2
   ·exact absurd (by simpa using g2) hne
   ·exact .inr (by simp only; omega)
 ·refine ⟨cs1, fr1, by rw [h2 _ hb]; exact g1, g2, g3, g4, fun j hj => let ⟨u, hu, hr⟩ := g5 j hj; ⟨u, hu, BV.Rep.tr hstab _ _ (fun t' _ => htags t') hr⟩⟩
theorem freeze_alloc (w : World) (C : Array Value) (e : TypeId) (n : Nat) : (w.alloc (.cells C e)).freeze ⟨w.heap.size, n, none⟩ 1 = w.alloc (.cells C e (n, n + 1)) := by
 have hm : ∀ (a : Array Obj) (x : Obj) (f : Obj -> Obj), (a.push x).modify a.size f = a.push (f x) := by
  intro a x f
  apply Array.ext
  ·simp
  ·intro i h1 h2
   simp only [Array.getElem_modify, Array.getElem_push]
   by_cases h : a.size = i
   ·subst h
    simp
   ·have hi : i < a.size := by simp at h1; omega
    simp [h, hi]
 unfold World.freeze
 rw [if_neg (by decide)]
 show ({ w.alloc (.cells C e) with heap := (w.heap.push (.cells C e)).modify w.heap.size _ } : World) = _
 rw [hm]
 rfl
def cvbA (C : Ctx) (fr : Fr) (O : Hp) (s d : TypeId) (x : BV) (k : OpK) : Prop :=
 match ((C.ty d).map (·.d) : Option TyD) with
 | some (.slice e) => isU8 C e = true /\ match x with
  | .p (.str l) => ((C.ty s).map (·.d) : Option TyD) = some .string /\ l.length <= 140737488355328 /\ pinL (fresh O) C.pins /\ k fr (.own (fresh O) 0 l.length) ((fresh O, ⟨e, 1, l.length, true, .bs l⟩) :: O)
  | .own t off n => s = d /\ 0 < n /\ match Hp.get O t with
   | some ob => ob.whole = true /\ k fr (.own t off n) O
   | none => False
  | _ => False
 | _ => False
theorem cvbA_ok {C : Ctx} {o : Oper} {s d : TypeId} {x : Operand} (ho : o.op = .convert s d x) {fr : Fr} {O : Hp} {k : OpK} (h : cvbA C fr O s d (Fr.ev C fr x) k) : OpOK C o fr O k := by
 unfold cvbA at h
 split at h
 case h_2 => exact h.elim
 rename_i e hT
 obtain ⟨hu, h⟩ := h
 have hl : loud C o.op = true := by rw [ho]; simp [loud, hT]
 have hd_of : ∀ {E : Env} {β : Loc} {a : Act} {w : World}, St C E β fr O a w -> C.P.underlying d = some (.slice e) /\ C.P.underlying e = some (.int .u8) := by
  intro E β a w hst
  obtain ⟨ty, hty, hd⟩ := Option.map_eq_some_iff.1 hT
  have h1 := (hst.ty hty).2
  rw [hd] at h1
  unfold isU8 at hu
  split at hu
  ·rename_i hE
   obtain ⟨te, hte, hde⟩ := Option.map_eq_some_iff.1 hE
   have h2 := (hst.ty hte).2
   rw [hde] at h2
   exact ⟨h1, h2⟩
  ·cases hu
 split at h
 ·rename_i l hx
  obtain ⟨hs, hlen, hpin, hk⟩ := h
  intro E β a w hst K Q hK
  obtain ⟨hd, he⟩ := hd_of hst
  have hsS : C.P.underlying s = some .string := by
   obtain ⟨ty, hty, hd⟩ := Option.map_eq_some_iff.1 hs
   have h1 := (hst.ty hty).2
   rw [hd] at h1
   exact h1
  have hxr := hst.ev x
  rw [hx] at hxr
  have ex : a.eval x = .string ⟨l.toArray⟩ := hxr
  have hcl := grownCap_ge w l.length 0 e
  let news : Array Value := l.toArray.map fun b => Value.int .u8 (b.toNat : Int)
  let cs : Array Value := news ++ Array.replicate (grownCap w l.length 0 e - l.length) (Value.int .u8 0)
  have hcs : cs.size = grownCap w l.length 0 e := by simp [cs, news]; omega
  have hh : (w.drew.alloc (.cells cs e)).heap[w.heap.size]? = some (.cells cs e (0, 0)) := heap_alloc_new w.drew (.cells cs e)
  have hrun : (execOp a.eval o).run C.P w = .ok (.value (.slice (some ⟨w.heap.size, 0, none⟩) l.length (grownCap w l.length 0 e))) ((w.drew.alloc (.cells cs e)).freeze ⟨w.heap.size, cs.size, none⟩ 1) := by
   simp only [execOp, ho]
   refine run_v ?_
   rw [ex, run_bytes_of_string w s d e ⟨l.toArray⟩ hsS hd he]
   have e1 : (⟨l.toArray⟩ : ByteArray).size = l.length := by simp [ByteArray.size]
   rw [e1]
   have e2 : bytesRow ⟨l.toArray⟩ (grownCap w l.length 0 e) = cs := by simp only [bytesRow, cs, news, e1]
   rw [e2, <- freeze_alloc]
   rfl
  have g0 := hst.core.drew
  have g1 := g0.core.alloc ⟨e, 1, l.length, true, .bs l⟩ cs (fresh O) (fresh_new O) (fun hx => absurd (pinL_spec hpin _ (by rw [hst.ctx] at hx; exact hx)) (by omega)) rfl ⟨rfl, rfl⟩ (by rw [hcs]; exact hcl) (fun j hj => by
   have hj' : j < l.length := hj
   refine ⟨.int .u8 ((l.getD j 0).toNat : Int), ?_, rfl⟩
   simp only [cs, news]
   rw [Array.getElem?_append_left (by simpa using hj')]
   simp [List.getElem?_eq_getElem hj', List.getD_eq_getElem?_getD])
  have g2 := g1.core.mark (t := fresh O) (ob := ⟨e, 1, l.length, true, .bs l⟩) (Hp.get_cons_same _ _ _) rfl (by simp) (cs := cs) (fr := (0, 0)) (by simpa using hh)
  have hst' := ((hst.goes g0 (fun _ _ _ => trivial)).goes g1 (fun _ _ _ => trivial)).goes g2 (fun _ _ _ => trivial)
  unfold Oper.wp
  rw [hrun]
  simp only [Loc.set_same] at hst'
  refine hK fr _ _ (β.set (fresh O) ⟨w.drew.heap.size, 0, true⟩) _ _ hk hst' ⟨by simp only [maxLen]; omega, .inl ⟨_, grownCap w l.length 0 e, e, cs.size, Hp.get_cons_same _ _ _, by simp, by simp, hcl, by simp, ?_, ?_⟩⟩ (fun h => by rw [hl] at h; cases h)
  ·simp only [Loc.set_same]
   have := (heap_freeze hh cs.size).1
   show World.shape? _ w.heap.size = _
   simp only [World.shape?, this]
  ·simp [hcs]
 ·rename_i t off n hx
  obtain ⟨rfl, hn0, h⟩ := h
  split at h
  case h_2 => exact h.elim
  rename_i ob hob
  obtain ⟨hw, hk⟩ := h
  intro E β a w hst K Q hK
  obtain ⟨hd, he⟩ := hd_of hst
  have hxr := hst.ev x
  rw [hx] at hxr
  have hxr0 := hxr
  obtain ⟨hn, hv⟩ := hxr
  rcases hv with ⟨ob', c, E0, sz, hob', hre, ev, hc, hfit, hsh, hcap⟩ | ⟨rfl, A, ev⟩
  ·rw [hob] at hob'; cases hob'
   obtain ⟨cs, fz, hh, _⟩ := hst.core.mem.obj t ob hob hre
   have hsh2 := shape_of_cells hh
   have hrun : (execOp a.eval o).run C.P w = .ok (.value (a.eval x)) (w.freeze ⟨(β t).b, cs.size, none⟩ 1) := by
    simp only [execOp, ho]
    refine run_v ?_
    rw [ev]
    have hsh3 : w.shape? (β t).b = some (ob.E, cs.size) := hsh2
    simp [convert, run_underlying hd, run_underlying he, markStringish, hsh3]
   have g := hst.core.mark hob hw hre hh
   unfold Oper.wp
   rw [hrun]
   exact hK fr _ _ _ _ _ hk (hst.goes g (fun _ _ _ => trivial)) (g.rep hxr0 (fun _ _ => trivial)) (fun h => by rw [hl] at h; cases h)
  ·omega
 ·exact h.elim
theorem run_newVar {P : Program} (T : TypeId) (v : Value) (w : World) : (newVar T v).run P w = .ok ⟨w.heap.size, 0, none⟩ (w.alloc (.cells v.cells T)) := by
 simp [newVar, newRow]
def allocA (C : Ctx) (fr : Fr) (O : Hp) (T : TypeId) (k : OpK) : Prop :=
 match C.ty T with
 | none => False
 | some ty => match ty.zero with
  | none => False
  | some z => ∃ s c, OB.wf ⟨T, s, ty.size, true, c⟩ /\ (∀ j, j < ty.size -> c.get j = .p (cst (z j))) /\ fresh O ∉ C.pins /\
    k fr (.ptr (fresh O) 0) ((fresh O, ⟨T, s, ty.size, true, c⟩) :: O)
theorem allocA_ok {C : Ctx} {o : Oper} {T : TypeId} (ho : o.op = .alloc T) {fr : Fr} {O : Hp} {k : OpK} (h : allocA C fr O T k) : OpOK C o fr O k := by
 unfold allocA at h
 split at h
 ·exact h.elim
 rename_i ty hty
 split at h
 ·exact h.elim
 rename_i z hz
 obtain ⟨s, c, hwf, hget, hfr, h⟩ := h
 intro E β a w hst K Q hK
 obtain ⟨zv, hzr, hzs, hzc⟩ := zero_cells hst hty hz
 have hrun : (execOp a.eval o).run C.P w = .ok (.value (.pointer (some ⟨w.heap.size, 0, none⟩))) (w.alloc (.cells zv.cells T)) := by
  simp only [execOp, ho]
  refine run_v ?_
  simp only [Instr.alloc, Sem.run_bind, hzr, Result.andThen_ok, run_newVar, Sem.run_pure]
 have g := hst.core.alloc ⟨T, s, ty.size, true, c⟩ zv.cells (fresh O) (fresh_new O) (by rw [hst.ctx]; exact hfr) rfl hwf (by rw [hzs]; exact Nat.le_refl _) (fun j hj => by
  obtain ⟨u, hu, hr, _⟩ := hzc j hj
  exact ⟨u, hu, by rw [show (OB.c ⟨T, s, ty.size, true, c⟩).get j = _ from hget j hj]; exact hr⟩)
 unfold Oper.wp
 rw [hrun]
 exact hK fr _ _ _ _ _ h (hst.goes g (fun _ _ _ => trivial)) ⟨_, Hp.get_cons_same _ _ _, by simp, Nat.zero_le _, by simp⟩ (fun h => by rw [ho] at h; cases h)
def cellsB : BV -> Nat × (Nat -> BV)
 | .agg n f => (n, fun j => .p (f j))
 | .ag n f => (n, f)
 | x => (1, fun _ => x)
def boxA (C : Ctx) (fr : Fr) (O : Hp) (T : TypeId) (x : BV) (k : OpK) : Prop :=
 x.lay /\ ∃ s c, OB.wf ⟨T, s, (cellsB x).1, true, c⟩ /\ (∀ j, j < (cellsB x).1 -> c.get j = (cellsB x).2 j) /\ fresh O ∉ C.pins /\
  k fr (.ptr (fresh O) 0) ((fresh O, ⟨T, s, (cellsB x).1, true, c⟩) :: O)
theorem cellsB_ok {U : Addr -> Prop} {β : Loc} {O : Hp} {w : World} {x : BV} {u : Value} (hx : x.Rep U β O w u) (h : x.lay) :
  u.cells.size = (cellsB x).1 /\ ∀ j, j < (cellsB x).1 -> ∃ y, u.cells[j]? = some y /\ ((cellsB x).2 j).Rep U β O w y /\ y.oneCell' = true := by
 have scal : x.one -> cellsB x = (1, fun _ => x) -> u.cells.size = (cellsB x).1 /\ ∀ j, j < (cellsB x).1 -> ∃ y, u.cells[j]? = some y /\ ((cellsB x).2 j).Rep U β O w y /\ y.oneCell' = true := by
  intro h1 h2
  obtain ⟨e1, e2⟩ := BV.one_cells hx h1
  rw [h2, e1]
  exact ⟨rfl, fun j hj => by
   have hj0 : j = 0 := by simp at hj; omega
   subst hj0
   exact ⟨u, rfl, hx, e2⟩⟩
 cases x with
 | agg n f =>
  obtain ⟨cs, rfl, hs, hc⟩ := hx
  refine ⟨hs, fun j hj => ?_⟩
  obtain ⟨y, hy, hr⟩ := hc j hj
  exact ⟨y, hy, hr, (BV.one_cells (U := U) (β := β) (O := O) (w := w) (x := .p (f j)) hr (h j hj)).2⟩
 | ag n f =>
  obtain ⟨cs, rfl, hs, hc⟩ := hx
  refine ⟨hs, fun j hj => ?_⟩
  obtain ⟨y, hy, hr⟩ := hc j hj
  exact ⟨y, hy, hr, (BV.one_cells hr (h j hj)).2⟩
 | _ => exact scal h rfl
theorem boxA_ok {C : Ctx} {o : Oper} {T : TypeId} {x : Operand} (ho : o.op = .box T x) {fr : Fr} {O : Hp} {k : OpK} (h : boxA C fr O T (Fr.ev C fr x) k) : OpOK C o fr O k := by
 obtain ⟨hl, s, c, hwf, hget, hfr, h⟩ := h
 intro E β a w hst K Q hK
 obtain ⟨hs, hc⟩ := cellsB_ok (hst.ev x) hl
 have hrun : (execOp a.eval o).run C.P w = .ok (.value (.pointer (some ⟨w.heap.size, 0, none⟩))) (w.alloc (.cells (a.eval x).cells T)) := by
  simp only [execOp, ho]
  refine run_v ?_
  simp only [Instr.box, Sem.run_bind, Result.andThen_ok, run_newVar, Sem.run_pure]
 have g := hst.core.alloc ⟨T, s, (cellsB (Fr.ev C fr x)).1, true, c⟩ (a.eval x).cells (fresh O) (fresh_new O) (by rw [hst.ctx]; exact hfr) rfl hwf (by rw [hs]; exact Nat.le_refl _) (fun j hj => by
  obtain ⟨u, hu, hr, _⟩ := hc j hj
  exact ⟨u, hu, by rw [show (OB.c ⟨T, s, (cellsB (Fr.ev C fr x)).1, true, c⟩).get j = _ from hget j hj]; exact hr⟩)
 unfold Oper.wp
 rw [hrun]
 exact hK fr _ _ _ _ _ h (hst.goes g (fun _ _ _ => trivial)) ⟨_, Hp.get_cons_same _ _ _, by simp, Nat.zero_le _, by simp⟩ (fun h => by rw [ho] at h; cases h)
theorem fillF_mono {N : Nat} {p p' : Nat -> Option (Nat × Nat)} (h : ∀ i x, p i = some x -> p' i = some x) : ∀ (l : List (Nat × BV)) (f F : Nat -> BV), fillF N p f l = some F -> fillF N p' f l = some F
 | [], f, F, hf => hf
 | (i, x) :: r, f, F, hf => by
  simp only [fillF] at hf ⊢
  cases hp : p i with
  | none => rw [hp] at hf; cases hf
  | some os =>
   rw [h i os hp]
   rw [hp] at hf
   obtain ⟨off, s⟩ := os
   simp only at hf ⊢
   split at hf
   case isFalse => cases hf
   rename_i hle
   rw [if_pos hle]
   cases hput : putF f off x s with
   | none => rw [hput] at hf; cases hf
   | some f' =>
    rw [hput] at hf
    exact fillF_mono h r f' F hf
def bldF (C : Ctx) (ty : Ty) (z : Nat -> Value) (l : List (Nat × BV)) (F : Nat -> BV) : Prop :=
 match ty.d with
 | .struct fs => (fs.all fun p => (elt C p.2).isSome) = true /\ fillF ty.size (placeS C fs) (zeroF z) l = some F
 | .array _ e => match elt C e with
  | some (_, s) => fillF ty.size (fun i => some (i * s, s)) (zeroF z) l = some F
  | none => False
 | _ => False
def bldA (C : Ctx) (fr : Fr) (O : Hp) (T : TypeId) (parts : List (Nat × Operand)) (k : OpK) : Prop :=
 match C.ty T with
 | none => False
 | some ty => match ty.zero with
  | none => False
  | some z => (frzL C (parts.map (·.2)) fr O fun fr O =>
    layL (evs C fr parts) /\ ∃ F, bldF C ty z (evs C fr parts) F /\ ∃ f : Nat -> PV, (∀ j, j < ty.size -> F j = .p (f j)) /\ k fr (.agg ty.size f) O) ∨
    (layL (evs C fr parts) /\ ∃ F, bldF C ty z (evs C fr parts) F /\ k fr (.ag ty.size F) O)
theorem places_ok {C : Ctx} (hg : C.Good) : ∀ (gs : List Field), ((gs.map fun f => (f.offset, f.type)).all fun p => (elt C p.2).isSome) = true ->
  ∃ places, gs.mapM (fun f => (C.P.info? f.type).map fun i => (f.offset, i.size)) = some places /\ ∀ i x, placeS C (gs.map fun f => (f.offset, f.type)) i = some x -> places[i]? = some x
 | [], _ => ⟨[], rfl, fun i x h => by simp [placeS] at h⟩
 | g :: r, h => by
  simp only [List.map_cons, List.all_cons, Bool.and_eq_true] at h
  obtain ⟨ps, h1, h2⟩ := places_ok hg r h.2
  obtain ⟨bs, hb⟩ := Option.isSome_iff_exists.1 h.1
  obtain ⟨ty, hty, he⟩ := Option.map_eq_some_iff.1 hb
  obtain ⟨inf, hi, his, _⟩ := (hg _ _ hty).info
  refine ⟨(g.offset, inf.size) :: ps, by simp [List.mapM_cons, hi, h1], fun i x hx => ?_⟩
  cases i with
  | zero =>
   simp only [placeS, List.map_cons, List.getElem?_cons_zero, hb] at hx
   rw [<- he] at hx
   simp only [Option.some.injEq] at hx
   rw [<- hx, his]
   rfl
  | succ i =>
   rw [List.getElem?_cons_succ]
   exact h2 i x (by simpa [placeS] using hx)
theorem bldA_ok {C : Ctx} {o : Oper} {T : TypeId} {parts : Array (Nat × Operand)} (ho : o.op = .build T parts) {fr : Fr} {O : Hp} {k : OpK} (h : bldA C fr O T parts.toList k) : OpOK C o fr O k := by
 unfold bldA at h
 split at h
 ·exact h.elim
 rename_i ty hty
 split at h
 ·exact h.elim
 rename_i z hz
 intro E β a w hst0 K Q hK
 obtain ⟨fr', O', hlay, F, hF, hk, hst⟩ : ∃ fr' O', layL (evs C fr' parts.toList) /\ ∃ F, bldF C ty z (evs C fr' parts.toList) F /\ ((∃ f : Nat -> PV, (∀ j, j < ty.size -> F j = .p (f j)) /\ k fr' (.agg ty.size f) O') ∨ k fr' (.ag ty.size F) O') /\ St C E β fr' O' a w := by
  rcases h with h | ⟨hlay, F, hF, hk⟩
  ·obtain ⟨fr', O', ⟨hlay, F, hF, hk⟩, hst, _⟩ := frzL_ok h hst0
   exact ⟨fr', O', hlay, F, hF, .inl hk, hst⟩
  ·exact ⟨fr, O, hlay, F, hF, .inr hk, hst0⟩
 obtain ⟨⟨inf, hi, his, _, hzz⟩, hund⟩ := hst.ty hty
 obtain ⟨⟨zv, hzv, hzl⟩, hz1⟩ := hzz z hz
 have hzs : zv.cells.size = ty.size := by rw [<- Array.length_toList, hzl]; simp
 have hzc : ∀ j, j < ty.size -> ∃ u, zv.cells[j]? = some u /\ (zeroF z j).Rep (Un E.N β O') β O' w u /\ u.oneCell' = true := fun j hj => by
  refine ⟨z j, ?_, cst_rep _ _ _, hz1 j hj⟩
  have : zv.cells.toList[j]? = some (z j) := by rw [hzl]; simp [hj]
  simpa using this
 obtain ⟨hl1, hl2⟩ := evs_parts hst parts.toList hlay
 have hpl : (parts.map fun (i, x) => (i, a.eval x)).toList = parts.toList.map fun (i, x) => (i, a.eval x) := by simp
 have hcells : ∃ cs : Array Value, C.P.built T (parts.map fun (i, x) => (i, a.eval x)).toList = some cs /\ cs.size = ty.size /\ ∀ j, j < ty.size -> ∃ u, cs[j]? = some u /\ (F j).Rep (Un E.N β O') β O' w u /\ u.oneCell' = true := by
  rw [hpl]
  unfold bldF at hF
  unfold Program.built
  split at hF
  ·rename_i fs hd
   rw [hd] at hund
   obtain ⟨gs, hgs, hgm⟩ := hund
   rw [<- hgm] at hF
   obtain ⟨places, h1, h2⟩ := places_ok hst.good gs.toList hF.1
   obtain ⟨cs, hfill, hcs⟩ := fill_ok (U := Un E.N β O') (β := β) (O := O') (w := w) (fun i => places.toArray[i]?) ty.size (evs C fr' parts.toList) (parts.toList.map fun (i, x) => (i, a.eval x)) _ F zv.cells hl1 hl2 (fillF_mono (fun i x hx => by rw [List.getElem?_toArray]; exact h2 i x hx) _ _ _ hF.2) hzs hzc
   refine ⟨cs, ?_, hcs⟩
   simp only [hi, hgs, hzv, h1]
   exact hfill
  ·rename_i n e hd
   rw [hd] at hund
   split at hF
   case h_2 => exact hF.elim
   rename_i b s he
   obtain ⟨te, hte, hee⟩ := Option.map_eq_some_iff.1 he
   obtain ⟨ie, hie, hies, _⟩ := (hst.ty hte).info
   simp only [Prod.mk.injEq] at hee
   obtain ⟨cs, hfill, hcs⟩ := fill_ok (U := Un E.N β O') (β := β) (O := O') (w := w) (fun i => some (i * s, s)) ty.size (evs C fr' parts.toList) (parts.toList.map fun (i, x) => (i, a.eval x)) _ F zv.cells hl1 hl2 hF hzs hzc
   refine ⟨cs, ?_, hcs⟩
   simp only [hi, hund, hzv, hie, hies, hee.2]
   exact hfill
  ·exact hF.elim
 obtain ⟨cs, hb, hcs, hcc⟩ := hcells
 have hrun : (execOp a.eval o).run C.P w = .ok (.value (.agg cs)) w := by
  simp only [execOp, ho]
  exact run_v (run_build w T _ cs hb)
 unfold Oper.wp
 rw [hrun]
 rcases hk with ⟨f, hf, hk⟩ | hk
 ·refine hK fr' _ _ _ _ _ hk hst ⟨cs, rfl, hcs, fun j hj => ?_⟩ (fun _ => rfl)
  obtain ⟨u, hu, hr, _⟩ := hcc j hj
  rw [hf j hj] at hr
  exact ⟨u, hu, hr⟩
 ·refine hK fr' _ _ _ _ _ hk hst ⟨cs, rfl, hcs, fun j hj => ?_⟩ (fun _ => rfl)
  obtain ⟨u, hu, hr, _⟩ := hcc j hj
  exact ⟨u, hu, hr⟩
theorem Hp.set_set {t : Nat} {x y : OB} : ∀ O : Hp, Hp.set (Hp.set O t x) t y = Hp.set O t y
 | [] => rfl
 | (k, o) :: r => by
  by_cases h : k = t
  ·simp [Hp.set, h]
  ·simp [Hp.set, h, Hp.set_set r]
theorem storeL {E : Env} {β : Loc} {P : Program} {t : Nat} (off : Nat) (f : Nat -> BV) : ∀ (vs : List Value) (i : Nat) (O : Hp) (w : World) (ob : OB), Core E β O w -> Hp.get O t = some ob -> off + i + vs.length <= ob.n ->
  (∀ j v, vs[j]? = some v -> (f (i + j)).Rep (Un E.N β O) β O w v /\ v.oneCell' = true) -> ∀ c', OB.wf { ob with c := c' } ->
  (∀ j, j < ob.n -> c'.get j = if off + i <= j /\ j < off + i + vs.length then f (j - off) else ob.c.get j) -> vs ≠ [] ->
  ∃ w', (storeCells ⟨(β t).b, (β t).o + off, none⟩ vs i).run P w = .ok () w' /\ Goes E β O w β (Hp.set O t { ob with c := c' }) w' (fun _ => True)
 | [], _, _, _, _, _, _, _, _, _, _, _, hn => absurd rfl hn
 | [v], i, O, w, ob, h, ht, hle, hv, c', hwf, hc, _ => by
  obtain ⟨hr, h1⟩ := hv 0 v rfl
  rw [Nat.add_zero] at hr
  simp only [List.length_cons, List.length_nil] at hle hc
  have hoff : off + i < ob.n := by omega
  obtain ⟨y, hy, hf, _⟩ := h.mem.cell ht hoff
  have g := h.store ht hoff c' v (f i) hr (fun j hj => by
   rw [hc j hj]
   by_cases e : j = off + i
   ·rw [if_pos (by omega), if_pos e, show j - off = i by omega]
   ·rw [if_neg (by omega), if_neg e]) hwf
  have ha : (⟨(β t).b, (β t).o + off, none⟩ : Addr).add i = ⟨(β t).b, (β t).o + (off + i), none⟩ := by rw [Addr.add_mid, Nat.add_assoc]
  refine ⟨_, ?_, g⟩
  have hst : (store ⟨(β t).b, (β t).o + (off + i), none⟩ v).run P w = .ok () (w.setCell ⟨(β t).b, (β t).o + (off + i), none⟩ v) := by rw [run_store P w _ v .plain h1, hy]; simp [hf]
  simp [storeCells, ha, hst]
 | v :: v2 :: r, i, O, w, ob, h, ht, hle, hv, c', hwf, hc, _ => by
  obtain ⟨hr, h1⟩ := hv 0 v rfl
  rw [Nat.add_zero] at hr
  simp only [List.length_cons] at hle hc
  have hoff : off + i < ob.n := by omega
  obtain ⟨y, hy, hf, _⟩ := h.mem.cell ht hoff
  let F : Nat -> BV := fun j => if j = off + i then f i else ob.c.get j
  obtain ⟨tl, tg⟩ := tab_get ob.n 0 F
  have hget : ∀ j, j < ob.n -> (OC.cells (tab ob.n 0 F)).get j = F j := fun j hj => by
   show (tab ob.n 0 F).getD j .dead = _
   rw [List.getD_eq_getElem?_getD, tg j hj, Option.getD_some, Nat.zero_add]
  have g := h.store ht hoff (.cells (tab ob.n 0 F)) v (f i) hr (fun j hj => hget j hj) tl
  have hst : (store ⟨(β t).b, (β t).o + (off + i), none⟩ v).run P w = .ok () (w.setCell ⟨(β t).b, (β t).o + (off + i), none⟩ v) := by rw [run_store P w _ v .plain h1, hy]; simp [hf]
  have ha : (⟨(β t).b, (β t).o + off, none⟩ : Addr).add i = ⟨(β t).b, (β t).o + (off + i), none⟩ := by rw [Addr.add_mid, Nat.add_assoc]
  obtain ⟨w', hrun, g2⟩ := storeL (P := P) off f (v2 :: r) (i + 1) _ _ _ g.core (Hp.get_set_same _ ht) (by simp only [List.length_cons]; omega) (fun j u hu => by
   obtain ⟨h2, h3⟩ := hv (j + 1) u (by simpa using hu)
   rw [show i + (j + 1) = i + 1 + j by omega] at h2
   exact ⟨g.rep h2 (fun _ _ => trivial), h3⟩) c' hwf (fun j hj => by
   have hj' : j < ob.n := hj
   rw [hc j hj']
   show _ = if _ then _ else (OC.cells (tab ob.n 0 F)).get j
   rw [hget j hj']
   simp only [List.length_cons, F]
   by_cases e : j = off + i
   ·rw [if_pos (by omega), if_neg (by omega), if_pos e, show j - off = i by omega]
   ·rw [if_neg (show ¬ j = off + i from e)]
    by_cases e2 : off + (i + 1) <= j /\ j < off + (i + 1) + (r.length + 1)
    ·rw [if_pos e2, if_pos (by omega)]
    ·rw [if_neg e2, if_neg (by omega)]) (by simp)
  rw [Hp.set_set] at g2
  refine ⟨w', ?_, (g.trans g2).weaken (fun _ _ => ⟨trivial, trivial⟩)⟩
  rw [storeCells, ha]
  simp only [Sem.run_bind, hst, Result.andThen_ok]
  exact hrun
def stoB (C : Ctx) (O : Hp) (T : TypeId) (p x : BV) (kk : Hp -> Prop) : Prop :=
 match C.ty T, p, x with
 | some ty, .ptr t off, .agg n f => ty.size = n /\ 0 < n /\ (∀ j, j < n -> (BV.p (f j)).one) /\ ∃ ob c', Hp.get O t = some ob /\ off + n <= ob.n /\ OB.wf { ob with c := c' } /\
   (∀ j, j < ob.n -> c'.get j = if off <= j /\ j < off + n then .p (f (j - off)) else ob.c.get j) /\ kk (Hp.set O t { ob with c := c' })
 | some ty, .ptr t off, .ag n f => ty.size = n /\ 0 < n /\ (∀ j, j < n -> (f j).one) /\ ∃ ob c', Hp.get O t = some ob /\ off + n <= ob.n /\ OB.wf { ob with c := c' } /\
   (∀ j, j < ob.n -> c'.get j = if off <= j /\ j < off + n then f (j - off) else ob.c.get j) /\ kk (Hp.set O t { ob with c := c' })
 | _, _, _ => False
theorem stoB_ok {C : Ctx} {o : Oper} {T : TypeId} {p x : Operand} (ho : o.op = .store T p x) {fr : Fr} {O : Hp} {k : OpK} (h : stoB C O T (Fr.ev C fr p) (Fr.ev C fr x) fun O' => k fr .dead O') : OpOK C o fr O k := by
 unfold stoB at h
 split at h
 case h_3 => exact h.elim
 ·rename_i ty t off n f hty hp hx
  obtain ⟨hs, hn, hone, ob, c', hob, hle, hwf, hget, h⟩ := h
  refine OpOK.skip (by rw [ho]; rfl) h fun E β a w hst => ?_
  have hpr := hst.ev p
  rw [hp] at hpr
  obtain ⟨ob', hob', hre, _, ep⟩ := hpr
  have hxr := hst.ev x
  rw [hx] at hxr
  obtain ⟨cs, ex, hcs, hcc⟩ := hxr
  have hl : cs.toList.length = n := by simpa using hcs
  obtain ⟨w', hrun, g⟩ := storeL (P := C.P) off (fun j => .p (f j)) cs.toList 0 O w ob hst.core hob (by omega) (fun j v hv => by
   have hj : j < n := by rw [<- hl]; exact (List.getElem?_eq_some_iff.1 hv).1
   obtain ⟨y, hy, hr⟩ := hcc j hj
   have e : y = v := by
    rw [Array.getElem?_toList] at hv
    exact Option.some.inj (hy.symm.trans hv)
   subst e
   rw [Nat.zero_add]
   exact ⟨hr, (BV.one_cells (U := Un E.N β O) (β := β) (O := O) (w := w) (x := .p (f j)) hr (hone j hj)).2⟩) c' hwf (fun j hj => by rw [hget j hj, Nat.add_zero, hl]) (fun e => by rw [e] at hl; simp at hl; omega)
  refine ⟨β, w', ?_, hst.goes g (fun _ _ _ => trivial)⟩
  obtain ⟨inf, hi, his, _⟩ := (hst.ty hty).info
  simp only [execOp, ho]
  rw [ep, ex]
  have hr : (Instr.storeAt T (.pointer (some ⟨(β t).b, (β t).o + off, none⟩)) (.agg cs)).run C.P w = .ok () w' := by
   have hsz : ¬ (Value.agg cs).cells.size ≠ inf.size := by rw [his, hs]; simpa [Value.cells] using hcs
   simp only [Instr.storeAt, Instr.sureAddr, storeVar, Sem.run_bind, Sem.run_pure, Result.andThen_ok, sizeOf, typeInfo, run_program, hi, Sem.run_ite, if_neg hsz]
   exact hrun
  simp [hr]
 ·rename_i ty t off n f hty hp hx
  obtain ⟨hs, hn, hone, ob, c', hob, hle, hwf, hget, h⟩ := h
  refine OpOK.skip (by rw [ho]; rfl) h fun E β a w hst => ?_
  have hpr := hst.ev p
  rw [hp] at hpr
  obtain ⟨ob', hob', hre, _, ep⟩ := hpr
  have hxr := hst.ev x
  rw [hx] at hxr
  obtain ⟨cs, ex, hcs, hcc⟩ := hxr
  have hl : cs.toList.length = n := by simpa using hcs
  obtain ⟨w', hrun, g⟩ := storeL (P := C.P) off f cs.toList 0 O w ob hst.core hob (by omega) (fun j v hv => by
   have hj : j < n := by rw [<- hl]; exact (List.getElem?_eq_some_iff.1 hv).1
   obtain ⟨y, hy, hr⟩ := hcc j hj
   have e : y = v := by
    rw [Array.getElem?_toList] at hv
    exact Option.some.inj (hy.symm.trans hv)
   subst e
   rw [Nat.zero_add]
   exact ⟨hr, (BV.one_cells hr (hone j hj)).2⟩) c' hwf (fun j hj => by rw [hget j hj, Nat.add_zero, hl]) (fun e => by rw [e] at hl; simp at hl; omega)
  refine ⟨β, w', ?_, hst.goes g (fun _ _ _ => trivial)⟩
  obtain ⟨inf, hi, his, _⟩ := (hst.ty hty).info
  simp only [execOp, ho]
  rw [ep, ex]
  have hr : (Instr.storeAt T (.pointer (some ⟨(β t).b, (β t).o + off, none⟩)) (.agg cs)).run C.P w = .ok () w' := by
   have hsz : ¬ (Value.agg cs).cells.size ≠ inf.size := by rw [his, hs]; simpa [Value.cells] using hcs
   simp only [Instr.storeAt, Instr.sureAddr, storeVar, Sem.run_bind, Sem.run_pure, Result.andThen_ok, sizeOf, typeInfo, run_program, hi, Sem.run_ite, if_neg hsz]
   exact hrun
  simp [hr]
def pbP (b : Builtin) (xs : List PV) : Option PV :=
 match b, xs with
 | .min, [.v (.int .i64 a), .v (.int .i64 c)] => some (.v (.int .i64 (if c < a then c else a)))
 | .max, [.v (.int .i64 a), .v (.int .i64 c)] => some (.v (.int .i64 (if a < c then c else a)))
 | .real, [.v (.complex k re _)] => some (.v (.float k re))
 | .imag, [.v (.complex k _ im)] => some (.v (.float k im))
 | .complex, [.v (.float .f64 re), .v (.float .f64 im)] => some (.v (.complex .f64 re im))
 | _, _ => none
theorem pbP_run {P : Program} {b : Builtin} {xs : List PV} {r : PV} (h : pbP b xs = some r) {U : Addr -> Prop} {w : World} {us : List Value} (hl : us.length = xs.length) (hx : ∀ (i : Nat) (x : PV), xs[i]? = some x -> ∃ u, us[i]? = some u /\ x.Rep U w u) (ats : Array TypeId) (ty : TypeId) :
  ∃ v, (∀ cs, (builtin b ats ty cs us.toArray).run P w = .ok (.value v) w) /\ r.Rep U w v := by
 unfold pbP at h
 split at h
 ·rename_i a c
  match us, hl with
  | [u0, u1], _ =>
   obtain ⟨_, e0, r0⟩ := hx 0 _ rfl
   obtain ⟨_, e1, r1⟩ := hx 1 _ rfl
   simp at e0 e1; subst e0; subst e1
   cases h
   have r0' : u0 = _ := r0
   have r1' : u1 = _ := r1
   subst r0'; subst r1'
   exact ⟨_, fun cs => by simp [builtin, Builtin.min_, Builtin.min2], rfl⟩
 ·rename_i a c
  match us, hl with
  | [u0, u1], _ =>
   obtain ⟨_, e0, r0⟩ := hx 0 _ rfl
   obtain ⟨_, e1, r1⟩ := hx 1 _ rfl
   simp at e0 e1; subst e0; subst e1
   cases h
   have r0' : u0 = _ := r0
   have r1' : u1 = _ := r1
   subst r0'; subst r1'
   exact ⟨_, fun cs => by simp [builtin, Builtin.max_, Builtin.max2], rfl⟩
 ·match us, hl with
  | [u0], _ =>
   obtain ⟨_, e0, r0⟩ := hx 0 _ rfl
   simp at e0; subst e0
   cases h
   have r0' : u0 = _ := r0
   subst r0'
   exact ⟨_, fun cs => rfl, rfl⟩
 ·match us, hl with
  | [u0], _ =>
   obtain ⟨_, e0, r0⟩ := hx 0 _ rfl
   simp at e0; subst e0
   cases h
   have r0' : u0 = _ := r0
   subst r0'
   exact ⟨_, fun cs => rfl, rfl⟩
 ·match us, hl with
  | [u0, u1], _ =>
   obtain ⟨_, e0, r0⟩ := hx 0 _ rfl
   obtain ⟨_, e1, r1⟩ := hx 1 _ rfl
   simp at e0 e1; subst e0; subst e1
   cases h
   have r0' : u0 = _ := r0
   have r1' : u1 = _ := r1
   subst r0'; subst r1'
   exact ⟨_, fun cs => rfl, rfl⟩
 ·cases h
def pvL : List BV -> Option (List PV)
 | [] => some []
 | .p x :: r => (pvL r).map (x :: ·)
 | _ :: _ => none
theorem pvL_get : ∀ {l : List BV} {ps : List PV}, pvL l = some ps -> ps.length = l.length /\ ∀ (i : Nat) (x : PV), ps[i]? = some x -> l[i]? = some (.p x)
 | [], ps, h => by cases h; exact ⟨rfl, fun i x h => by simp at h⟩
 | .p y :: r, ps, h => by
  simp only [pvL, Option.map_eq_some_iff] at h
  obtain ⟨q, hq, rfl⟩ := h
  obtain ⟨h1, h2⟩ := pvL_get hq
  refine ⟨by simp [h1], fun i x hx => ?_⟩
  cases i with
  | zero => simpa using hx
  | succ i => simpa using h2 i x (by simpa using hx)
 | .dead :: _, _, h => by cases h
 | .own _ _ _ :: _, _, h => by cases h
 | .ptr _ _ :: _, _, h => by cases h
 | .rp _ _ :: _, _, h => by cases h
 | .agg _ _ :: _, _, h => by cases h
 | .clo _ _ :: _, _, h => by cases h
 | .mv _ _ _ :: _, _, h => by cases h
 | .tup _ _ :: _, _, h => by cases h
 | .ag _ _ :: _, _, h => by cases h
def pbA (C : Ctx) (fr : Fr) (b : Builtin) (args : List Operand) (kk : BV -> Prop) : Prop :=
 match pvL (args.map (Fr.ev C fr)) with
 | some ps => match pbP b ps with
  | some r => kk (.p r)
  | none => False
 | none => False
theorem pbA_ok {C : Ctx} {o : Oper} {b : Builtin} {args : Array Operand} {ats : Array TypeId} (ho : o.op = .call { callee := .builtin b, args, argTypes := ats })
  {fr : Fr} {O : Hp} {k : OpK} (h : pbA C fr b args.toList fun r => k fr r O) : OpOK C o fr O k := by
 unfold pbA at h
 split at h
 case h_2 => exact h.elim
 rename_i ps hps
 split at h
 case h_2 => exact h.elim
 rename_i r hr
 refine OpOK.val _ h fun E β a w hst => ?_
 obtain ⟨h1, h2⟩ := pvL_get hps
 obtain ⟨v, hv, hrep⟩ := pbP_run (P := C.P) hr (U := Un E.N β O) (w := w) (us := args.toList.map a.eval) (by rw [h1]; simp) (fun i x hx => by
  have := h2 i x hx
  rw [List.getElem?_map] at this
  obtain ⟨y, hy, e⟩ := Option.map_eq_some_iff.1 this
  have hs := hst.ev y
  rw [e] at hs
  exact ⟨a.eval y, by simp [List.getElem?_map, hy], hs⟩) ats o.type
 refine ⟨v, ?_, hrep⟩
 simp only [execOp, ho, resolve, pure_bind, invoke]
 have e : (args.toList.map a.eval).toArray = args.map a.eval := by apply Array.ext'; simp
 rw [e] at hv
 exact hv _
def capA (C : Ctx) (T : TypeId) (x : BV) (kk : BV -> Prop) : Prop :=
 match ((C.ty T).map (·.d) : Option TyD), x with
 | some (.slice _), .p (.v (.slice none 0 0)) => kk (.p (.v (.int .i64 0)))
 | _, _ => False
theorem capA_ok {C : Ctx} {o : Oper} {args : Array Operand} {ats : Array TypeId} {x : Operand} {T : TypeId} (ho : o.op = .call { callee := .builtin .cap, args, argTypes := ats }) (ha : args = #[x]) (ht : ats = #[T])
  {fr : Fr} {O : Hp} {k : OpK} (h : capA C T (Fr.ev C fr x) fun r => k fr r O) : OpOK C o fr O k := by
 subst ha; subst ht
 unfold capA at h
 split at h
 case h_2 => exact h.elim
 rename_i e hT hx
 refine OpOK.val _ h fun E β a w hst => ⟨.int .i64 0, ?_, rfl⟩
 have hxr := hst.ev x
 rw [hx] at hxr
 have ex : a.eval x = .slice none 0 0 := hxr
 have hTT : C.P.underlying T = some (.slice e) := by
  obtain ⟨t, ht, hd⟩ := Option.map_eq_some_iff.1 hT
  have := (hst.ty ht).2
  rw [hd] at this
  exact this
 simp only [execOp, ho, resolve, pure_bind, invoke, builtin]
 rw [show (#[x].map a.eval : Array Value) = #[a.eval x] from by simp, ex]
 exact run_v (by simp [Builtin.cap_, run_underlying hTT, goInt])
theorem run_apz {P : Program} (w : World) (T T' ty e : TypeId) (i : TypeInfo) (z : Value) (k : IntKind) (ht : P.underlying T = some (.slice e)) (ht' : P.underlying T' = some (.int k)) (hi : P.info? e = some i) (hz : i.zero = some z) (m : Nat) (hm : 0 < m) (hsz : 0 < i.size)
  (hb : m * i.bytes <= 140737488355328) (h1 : m <= 140737488355328) (k' : IntKind) :
  (Builtin.append_ #[T, T'] ty #[.slice none 0 0, .int k' m]).run P w =
   .ok (.slice (some ⟨w.heap.size, 0, none⟩) m (grownCap w m 0 e))
    (w.drew.alloc (.cells (Builtin.zeroCells z.cells m ++ Builtin.zeroCells z.cells (grownCap w m 0 e - m)) e)) := by
 have hw : IntKind.i64.wrap (m : Int) = m := wrap_i64 (by omega) (by omega)
 have hn : ¬ (m <= 0) := by omega
 have hneg : ¬ ((m : Int) < 0) := by omega
 have hfit : ¬ (281474976710656 < (m : Int) * (i.bytes : Int)) := by
  have : ((m * i.bytes : Nat) : Int) <= ((140737488355328 : Nat) : Int) := Int.ofNat_le.2 hb
  rw [Int.natCast_mul] at this
  have h9 : ((140737488355328 : Nat) : Int) = 140737488355328 := rfl
  omega
 have hfit2 : ¬ (281474976710656 < Builtin.nextslicecap m 0 * i.bytes) := by
  have := growslice_fits (need := m) (old := 0) (bytes := i.bytes) (by omega) (by omega)
  omega
 have h63 : ¬ (9223372036854775807 < (m : Int)) := by omega
 have hms : ¬ (m * i.size = 0) := fun h => by rcases Nat.mul_eq_zero.1 h with h | h <;> omega
 have hm' : ¬ (m = 0) := by omega
 simp [Builtin.append_, run_underlying ht, run_underlying ht', sizeOf, typeInfo, zeroValue, hi, hz, asInt, asIntOf, hw, hneg, hfit, hm', h63, hfit2, hms, Question.forced, newRow, grownCap, Builtin.firstCells]
def isB1 (C : Ctx) (e : TypeId) : Option (Nat -> Value) :=
 match C.ty e with
 | some ⟨.int .u8, 1, 1, some z⟩ => some z
 | _ => none
def apzA (C : Ctx) (fr : Fr) (O : Hp) (T T2 : TypeId) (d x : BV) (k : OpK) : Prop :=
 match ((C.ty T).map (·.d) : Option TyD), ((C.ty T2).map (·.d) : Option TyD), d, x with
 | some (.slice e), some (.int _), .p (.v (.slice none 0 0)), .p (.v (.int _ m)) => match isB1 C e with
  | some z => cst (z 0) = .u8 0 /\ (0 <= m /\ m <= 140737488355328) /\ (fresh O ∈ C.pins -> False) /\
    k fr (.own (fresh O) 0 m.toNat) ((fresh O, ⟨e, 1, m.toNat, true, .bs (List.replicate m.toNat 0)⟩) :: O)
  | none => False
 | _, _, _, _ => False
theorem isB1_spec {C : Ctx} {e : TypeId} {z : Nat -> Value} (h : isB1 C e = some z) : C.ty e = some ⟨.int .u8, 1, 1, some z⟩ := by
 unfold isB1 at h
 split at h
 ·cases h; assumption
 ·cases h
theorem zeroCells1 {zv : Value} {z : Nat -> Value} (h : zv.cells.toList = (List.range 1).map z) (m : Nat) : Builtin.zeroCells zv.cells m = (Array.range m).map fun _ => z 0 := by
 have e : zv.cells = #[z 0] := by apply Array.ext'; rw [h]; rfl
 unfold Builtin.zeroCells
 rw [e]
 apply Array.ext'
 simp [Nat.mod_one]
theorem apzA_ok {C : Ctx} {o : Oper} {args : Array Operand} {ats : Array TypeId} {d x : Operand} {T T2 : TypeId} (ho : o.op = .call { callee := .builtin .append, args, argTypes := ats }) (ha : args = #[d, x]) (ht : ats = #[T, T2])
  {fr : Fr} {O : Hp} {k : OpK} (h : apzA C fr O T T2 (Fr.ev C fr d) (Fr.ev C fr x) k) : OpOK C o fr O k := by
 subst ha; subst ht
 unfold apzA at h
 split at h
 case h_2 => exact h.elim
 rename_i e kd kx m hT hT2 hd hx
 split at h
 case h_2 => exact h.elim
 rename_i z hz
 obtain ⟨hz0, ⟨hm0, hm1⟩, hpin, h⟩ := h
 have hz := isB1_spec hz
 intro E β a w hst K Q hK
 have hTT : C.P.underlying T = some (.slice e) := by
  obtain ⟨t, ht, hd⟩ := Option.map_eq_some_iff.1 hT
  have := (hst.ty ht).2
  rw [hd] at this
  exact this
 have hTT2 : C.P.underlying T2 = some (.int kd) := by
  obtain ⟨t, ht, hd⟩ := Option.map_eq_some_iff.1 hT2
  have := (hst.ty ht).2
  rw [hd] at this
  exact this
 obtain ⟨⟨inf, hinf, his, hib, hzz⟩, _⟩ := hst.ty hz
 obtain ⟨⟨zv, hzv, hzl⟩, _⟩ := hzz z rfl
 have hdr := hst.ev d
 rw [hd] at hdr
 have ed : a.eval d = .slice none 0 0 := hdr
 have hxr := hst.ev x
 rw [hx] at hxr
 have ex : a.eval x = .int kx m := hxr
 obtain ⟨n, rfl⟩ := Int.eq_ofNat_of_zero_le hm0
 have hrun : ∀ v w', (Builtin.append_ #[T, T2] o.type #[.slice none 0 0, .int kx n]).run C.P w = .ok v w' -> (execOp a.eval o).run C.P w = .ok (.value v) w' := by
  intro v w' hr
  simp only [execOp, ho, resolve, pure_bind, invoke, builtin]
  rw [show (#[d, x].map a.eval : Array Value) = #[a.eval d, a.eval x] from by simp, ed, ex]
  exact run_v hr
 have his' : inf.size = 1 := his
 have hib' : inf.bytes = 1 := hib
 rw [Int.toNat_natCast] at h
 unfold Oper.wp
 rcases Nat.eq_zero_or_pos n with hn | hn
 ·subst hn
  have hr : (Builtin.append_ #[T, T2] o.type #[.slice none 0 0, .int kx (0 : Nat)]).run C.P w = .ok (.slice none 0 0) w := by
   have hw : IntKind.i64.wrap (0 : Int) = 0 := rfl
   simp [Builtin.append_, run_underlying hTT, run_underlying hTT2, sizeOf, typeInfo, hinf, asInt, asIntOf, hw]
  rw [hrun _ _ hr]
  have g := hst.core.phantom (fresh O) (fresh_new O) (by rw [hst.ctx]; exact hpin) e 1 (.bs []) ⟨rfl, rfl⟩
  exact hK fr _ _ _ _ _ h (hst.goes g (fun _ _ _ => trivial)) ⟨Nat.zero_le _, .inr ⟨rfl, none, rfl⟩⟩ (fun h => by simp [ho, loud] at h)
 ·have hcl := grownCap_ge w n 0 e
  have hr := run_apz (P := C.P) w T T2 o.type e inf zv kd hTT hTT2 hinf hzv n hn (by omega) (by rw [hib']; omega) (by omega) kx
  rw [hrun _ _ hr]
  have g0 := hst.core.drew
  have hcs : ∀ j, j < n -> (Builtin.zeroCells zv.cells n ++ Builtin.zeroCells zv.cells (grownCap w n 0 e - n))[j]? = some (z 0) := by
   intro j hj
   rw [zeroCells1 hzl n, Array.getElem?_append_left (by simpa using hj)]
   simp [hj]
  have g1 := g0.core.alloc ⟨e, 1, n, true, .bs (List.replicate n 0)⟩ (Builtin.zeroCells zv.cells n ++ Builtin.zeroCells zv.cells (grownCap w n 0 e - n)) (fresh O) (fresh_new O) (by rw [hst.ctx]; exact hpin) rfl ⟨rfl, by simp⟩
   (by rw [zeroCells1 hzl n]; simp) (fun j hj => by
    have hj' : j < n := hj
    refine ⟨z 0, hcs j hj', ?_⟩
    have hget : (List.replicate n (0 : UInt8)).getD j 0 = 0 := by simp [List.getD_eq_getElem?_getD, hj']
    show (PV.u8 ((List.replicate n (0 : UInt8)).getD j 0)).Rep _ _ _
    rw [hget, <- hz0]
    exact cst_rep _ _ _)
  have g := g0.trans g1
  refine hK fr _ _ _ _ _ h (hst.goes g (fun _ _ _ => ⟨trivial, trivial⟩)) ⟨by simp only [maxLen]; omega, .inl ⟨_, grownCap w n 0 e, e, (Builtin.zeroCells zv.cells n ++ Builtin.zeroCells zv.cells (grownCap w n 0 e - n)).size, Hp.get_cons_same _ _ _, by simp, ?_, hcl, by simp, ?_, ?_⟩⟩ (fun h => by simp [ho, loud] at h)
  ·simp
  ·simp only [Loc.set_same]
   exact shape_of_cells (heap_alloc_new w.drew _)
  ·simp only [Loc.set_same, Array.size_append, zeroCells1 hzl, Array.size_map, Array.size_range]
   omega
def apzR (C : Ctx) (fr : Fr) (O : Hp) (T T2 : TypeId) (d x : BV) (k : OpK) : Prop :=
 match ((C.ty T).map (·.d) : Option TyD), ((C.ty T2).map (·.d) : Option TyD), d, x with
 | some (.slice e), some (.int _), .p (.v (.slice none 0 0)), .p (.v (.int _ m)) => match C.ty e with
  | some ⟨_, s, b, some z⟩ => 0 < s /\ (0 <= m /\ m.toNat * b <= 140737488355328 /\ m <= 140737488355328) /\ (fresh O ∈ C.pins -> False) /\
    k fr (.own (fresh O) 0 m.toNat) ((fresh O, ⟨e, s, m.toNat * s, true, .rows (fun j => cst (z (j % s)))⟩) :: O)
  | _ => False
 | _, _, _, _ => False
theorem zeroCellsR {zv : Value} {z : Nat -> Value} {s : Nat} (h : zv.cells.toList = (List.range s).map z) (hs : 0 < s) (m : Nat) : Builtin.zeroCells zv.cells m = (Array.range (m * s)).map fun j => z (j % s) := by
 have hsz : zv.cells.size = s := by
  have := congrArg List.length h
  simpa using this
 unfold Builtin.zeroCells
 rw [hsz]
 apply Array.ext
 ·simp
 ·intro j h1 h2
  simp only [Array.getElem_map, Array.getElem_range]
  have hj : j % s < s := Nat.mod_lt _ hs
  have hl : zv.cells.toList[j % s]? = some (z (j % s)) := by rw [h]; simp [hj]
  have hl2 : zv.cells[j % s]? = some (z (j % s)) := by simpa using hl
  rw [getElem!_def, hl2]
theorem apzR_ok {C : Ctx} {o : Oper} {args : Array Operand} {ats : Array TypeId} {d x : Operand} {T T2 : TypeId} (ho : o.op = .call { callee := .builtin .append, args, argTypes := ats }) (ha : args = #[d, x]) (ht : ats = #[T, T2])
  {fr : Fr} {O : Hp} {k : OpK} (h : apzR C fr O T T2 (Fr.ev C fr d) (Fr.ev C fr x) k) : OpOK C o fr O k := by
 subst ha; subst ht
 unfold apzR at h
 split at h
 case h_2 => exact h.elim
 rename_i e kd kx m hT hT2 hd hx
 split at h
 case h_2 => exact h.elim
 rename_i td s b z hz
 obtain ⟨hs0, ⟨hm0, hmb, hm1⟩, hpin, h⟩ := h
 intro E β a w hst K Q hK
 have hTT : C.P.underlying T = some (.slice e) := by
  obtain ⟨t, ht, hd⟩ := Option.map_eq_some_iff.1 hT
  have := (hst.ty ht).2
  rw [hd] at this
  exact this
 have hTT2 : C.P.underlying T2 = some (.int kd) := by
  obtain ⟨t, ht, hd⟩ := Option.map_eq_some_iff.1 hT2
  have := (hst.ty ht).2
  rw [hd] at this
  exact this
 obtain ⟨⟨inf, hinf, his, hib, hzz⟩, _⟩ := hst.ty hz
 obtain ⟨⟨zv, hzv, hzl⟩, _⟩ := hzz z rfl
 have hdr := hst.ev d
 rw [hd] at hdr
 have ed : a.eval d = .slice none 0 0 := hdr
 have hxr := hst.ev x
 rw [hx] at hxr
 have ex : a.eval x = .int kx m := hxr
 obtain ⟨n, rfl⟩ := Int.eq_ofNat_of_zero_le hm0
 have hrun : ∀ v w', (Builtin.append_ #[T, T2] o.type #[.slice none 0 0, .int kx n]).run C.P w = .ok v w' -> (execOp a.eval o).run C.P w = .ok (.value v) w' := by
  intro v w' hr
  simp only [execOp, ho, resolve, pure_bind, invoke, builtin]
  rw [show (#[d, x].map a.eval : Array Value) = #[a.eval d, a.eval x] from by simp, ed, ex]
  exact run_v hr
 have his' : inf.size = s := his
 have hib' : inf.bytes = b := hib
 rw [Int.toNat_natCast] at h hmb
 unfold Oper.wp
 rcases Nat.eq_zero_or_pos n with hn | hn
 ·subst hn
  have hr : (Builtin.append_ #[T, T2] o.type #[.slice none 0 0, .int kx (0 : Nat)]).run C.P w = .ok (.slice none 0 0) w := by
   have hw : IntKind.i64.wrap (0 : Int) = 0 := rfl
   simp [Builtin.append_, run_underlying hTT, run_underlying hTT2, sizeOf, typeInfo, hinf, asInt, asIntOf, hw]
  rw [hrun _ _ hr]
  have g := hst.core.phantom (fresh O) (fresh_new O) (by rw [hst.ctx]; exact hpin) e s (.rows (fun j => cst (z (j % s)))) trivial
  rw [Nat.zero_mul] at h
  exact hK fr _ _ _ _ _ h (hst.goes g (fun _ _ _ => trivial)) ⟨Nat.zero_le _, .inr ⟨rfl, none, rfl⟩⟩ (fun h => by simp [ho, loud] at h)
 ·have hcl := grownCap_ge w n 0 e
  have hr := run_apz (P := C.P) w T T2 o.type e inf zv kd hTT hTT2 hinf hzv n hn (by omega) (by rw [hib']; exact hmb) (by omega) kx
  rw [hrun _ _ hr]
  have g0 := hst.core.drew
  have hzc := zeroCellsR hzl hs0
  have hcs : ∀ j, j < n * s -> (Builtin.zeroCells zv.cells n ++ Builtin.zeroCells zv.cells (grownCap w n 0 e - n))[j]? = some (z (j % s)) := by
   intro j hj
   rw [hzc n, Array.getElem?_append_left (by simpa using hj)]
   simp [hj]
  have hns : 0 < n * s := Nat.mul_pos hn hs0
  have g1 := g0.core.alloc ⟨e, s, n * s, true, .rows (fun j => cst (z (j % s)))⟩ (Builtin.zeroCells zv.cells n ++ Builtin.zeroCells zv.cells (grownCap w n 0 e - n)) (fresh O) (fresh_new O) (by rw [hst.ctx]; exact hpin) rfl trivial
   (by rw [hzc n]; simp) (fun j hj => by
    have hj' : j < n * s := hj
    exact ⟨z (j % s), hcs j hj', cst_rep _ _ _⟩)
  have g := g0.trans g1
  refine hK fr _ _ _ _ _ h (hst.goes g (fun _ _ _ => ⟨trivial, trivial⟩)) ⟨by simp only [maxLen]; omega, .inl ⟨_, grownCap w n 0 e, e, (Builtin.zeroCells zv.cells n ++ Builtin.zeroCells zv.cells (grownCap w n 0 e - n)).size, Hp.get_cons_same _ _ _, by simp, ?_, hcl, by simp, ?_, ?_⟩⟩ (fun h => by simp [ho, loud] at h)
  ·simp
  ·simp only [Loc.set_same]
   exact shape_of_cells (heap_alloc_new w.drew _)
  ·simp only [Loc.set_same, Array.size_append, hzc, Array.size_map, Array.size_range]
   rw [<- Nat.add_mul, show n + (grownCap w n 0 e - n) = grownCap w n 0 e by omega]
   simp
def cpS (O : Hp) (x : BV) : Option (List UInt8) :=
 match x with
 | .p (.bs l) => some l
 | .p (.str l) => some l
 | .p (.v (.slice none 0 0)) => some []
 | .own t off n => match Hp.get O t with
  | some ob => match ob.c with
   | .bs l => if ob.s = 1 then some ((l.drop off).take n) else none
   | _ => none
  | none => none
 | _ => none
theorem cpS_run {C : Ctx} {E : Env} {β : Loc} {fr : Fr} {O : Hp} {a : Act} {w : World} (hst : St C E β fr O a w) {x : BV} {l : List UInt8} (h : cpS O x = some l) {u : Value} (hx : x.Rep (Un E.N β O) β O w u) :
  (Builtin.lenOf u).run C.P w = .ok l.length w /\ ∀ n, n <= l.length -> (Builtin.firstCells 1 n u).run C.P w = .ok ((l.take n).map fun b => Value.int .u8 (b.toNat : Int)).toArray w := by
 have rd : ∀ (l : List UInt8) (A : Option Addr) (c : Nat), (∀ j, j < l.length -> ∃ a, A = some a /\ w.cell? (a.add j) = some (.int .u8 ((l.getD j 0).toNat : Int))) -> ∀ n, n <= l.length ->
   (Builtin.firstCells 1 n (.slice A l.length c)).run C.P w = .ok ((l.take n).map fun b => Value.int .u8 (b.toNat : Int)).toArray w := by
  intro l A c hc n hn
  cases A with
  | none =>
   have : n = 0 := by
    rcases Nat.eq_zero_or_pos n with h0 | h0
    ·exact h0
    ·obtain ⟨a, ha, _⟩ := hc 0 (by omega); cases ha
   subst this
   simpa using run_firstCells_none w 1 0 l.length c
  | some a =>
   refine run_firstCells_some w 1 n a l.length c _ (by simp; omega) fun j v hj => ?_
   rw [List.getElem?_map] at hj
   obtain ⟨b, hb, rfl⟩ := Option.map_eq_some_iff.1 hj
   have hjl : j < l.length := by have := (List.getElem?_eq_some_iff.1 hb).1; simp at this; omega
   obtain ⟨a', ha, hcell⟩ := hc j hjl
   cases ha
   rw [hcell]
   have hb' : l[j]? = some b := by
    rw [List.getElem?_take] at hb
    split at hb
    ·exact hb
    ·cases hb
   simp [List.getD, hb']
 unfold cpS at h
 split at h
 ·cases h
  obtain ⟨hn, A, c, rfl, hc, hcells⟩ := hx
  exact ⟨by simp [Builtin.lenOf], rd _ A c fun j hj => by obtain ⟨a, hA, _, hy⟩ := hcells j hj; exact ⟨a, hA, hy⟩⟩
 ·rename_i l'
  cases h
  have e : u = .string ⟨l.toArray⟩ := hx
  subst e
  have hsz : (⟨l.toArray⟩ : ByteArray).size = l.length := List.size_toArray ..
  refine ⟨by simp [Builtin.lenOf, hsz], fun n hn => ?_⟩
  simp only [Builtin.firstCells, Sem.run_pure]
  congr 1
  apply Array.ext'
  simp [ByteArray.data_extract]
 ·cases h
  have e : u = .slice none 0 0 := hx
  subst e
  refine ⟨by simp [Builtin.lenOf], fun n hn => ?_⟩
  have : n = 0 := by simpa using hn
  subst this
  simpa using run_firstCells_none w 1 0 0 0
 ·rename_i t off n
  split at h
  case h_2 => cases h
  rename_i ob hob
  split at h
  case h_2 => cases h
  rename_i l0 hl
  split at h
  case isFalse => cases h
  rename_i hs
  cases h
  obtain ⟨A, c, he, h1, h2, hc⟩ := hst.core.own_bs hob hl hx
  subst he
  exact ⟨by simp [Builtin.lenOf], rd _ A c hc⟩
 ·cases h
def cpyA (C : Ctx) (fr : Fr) (O : Hp) (T : TypeId) (d x : BV) (k : OpK) : Prop :=
 match ((C.ty T).map (·.d) : Option TyD), d, cpS O x with
 | some (.slice e), .own t off n, some l => (elt C e).map (·.2) = some 1 /\ match Hp.get O t with
  | some ob => match ob.c with
   | .bs l0 => ob.s = 1 /\ k fr (.p (.v (.int .i64 ((min l.length n : Nat) : Int)))) (Hp.set O t { ob with c := .bs (l0.take off ++ l.take n ++ l0.drop (off + min l.length n)) })
   | _ => False
  | none => False
 | _, _, _ => False
theorem storeCells_nil {P : Program} (a : Addr) (w : World) : (storeCells a []).run P w = .ok () w := by simp [storeCells]
theorem Hp.set_same {t : Nat} {ob : OB} : ∀ {O : Hp}, Hp.get O t = some ob -> Hp.set O t ob = O
 | [], h => by simp [Hp.get] at h
 | (k, o) :: r, h => by
  by_cases hk : k = t
  ·subst hk
   simp only [Hp.get, if_true] at h
   cases h
   simp [Hp.set]
  ·simp only [Hp.get, hk, if_false] at h
   simp [Hp.set, hk, Hp.set_same h]
theorem cpyA_ok {C : Ctx} {o : Oper} {args : Array Operand} {ats : Array TypeId} {d x : Operand} {T T2 : TypeId} (ho : o.op = .call { callee := .builtin .copy, args, argTypes := ats }) (ha : args = #[d, x]) (ht : ats = #[T, T2])
  {fr : Fr} {O : Hp} {k : OpK} (h : cpyA C fr O T (Fr.ev C fr d) (Fr.ev C fr x) k) : OpOK C o fr O k := by
 subst ha; subst ht
 unfold cpyA at h
 split at h
 case h_2 => exact h.elim
 rename_i e t off n l hT hd hl
 obtain ⟨he, h⟩ := h
 split at h
 case h_2 => exact h.elim
 rename_i ob hob
 split at h
 case h_2 => exact h.elim
 rename_i l0 hc0
 obtain ⟨hs, h⟩ := h
 intro E β a w hst K Q hK
 have hTT : C.P.underlying T = some (.slice e) := by
  obtain ⟨t, ht, hd⟩ := Option.map_eq_some_iff.1 hT
  have := (hst.ty ht).2
  rw [hd] at this
  exact this
 obtain ⟨q, hq, hq1⟩ := Option.map_eq_some_iff.1 he
 obtain ⟨q0, q1⟩ := q
 cases hq1
 obtain ⟨ty, hty, _, hsz, inf, hinf, his⟩ := elt_spec hst hq
 obtain ⟨hlen, hfirst⟩ := cpS_run hst hl (hst.ev x)
 have hdr := hst.ev d
 rw [hd] at hdr
 have hwf := hst.core.mem.wf t ob hob
 have hl0 : l0.length = ob.n := by
  have := hwf
  unfold OB.wf at this
  rw [hc0] at this
  exact this.2
 have hrun : ∀ (A : Option Addr) (c : Nat) (w' : World), a.eval d = .slice A n c -> ((match A with | some b => (storeCells b ((l.take (min l.length n)).map fun b => Value.int .u8 (b.toNat : Int))) | none => pure () : Sem Unit)).run C.P w = .ok () w' ->
   (execOp a.eval o).run C.P w = .ok (.value (.int .i64 ((min l.length n : Nat) : Int))) w' := by
  intro A c w' ed hst'
  simp only [execOp, ho, resolve, pure_bind, invoke, builtin]
  rw [show (#[d, x].map a.eval : Array Value) = #[a.eval d, a.eval x] from by simp, ed]
  have hf := hfirst (min l.length n) (Nat.min_le_left _ _)
  refine run_v ?_
  cases A with
  | none =>
   simp only [Sem.run_pure, Result.ok.injEq, true_and] at hst'
   subst hst'
   simp [Builtin.copy_, run_underlying hTT, hlen, sizeOf, typeInfo, hinf, his, hf, goInt]
  | some b =>
   simp only at hst'
   rw [List.map_take] at hst'
   simp [Builtin.copy_, run_underlying hTT, hlen, sizeOf, typeInfo, hinf, his, hf, goInt, hst']
 have hmn : min l.length n <= n := Nat.min_le_right _ _
 have htk : l.take n = l.take (min l.length n) := by
  rcases Nat.le_total l.length n with h1 | h1
  ·rw [List.take_of_length_le h1, List.take_of_length_le (by omega)]
  ·rw [Nat.min_eq_right h1]
 have hset0 : min l.length n = 0 -> Hp.set O t { ob with c := .bs (l0.take off ++ l.take n ++ l0.drop (off + min l.length n)) } = O := by
  intro h0
  rw [htk, h0, List.take_zero, List.append_nil, Nat.add_zero, List.take_append_drop]
  have : ({ ob with c := .bs l0 } : OB) = ob := by rw [<- hc0]
  rw [this]
  exact Hp.set_same hob
 unfold Oper.wp
 have hloud : ¬ (loud C o.op = false) := by rw [ho]; simp [loud]
 rcases Nat.eq_zero_or_pos (min l.length n) with hz | hz
 ·rw [hset0 hz] at h
  have : ∃ A c, a.eval d = .slice A n c := by
   obtain ⟨_, ⟨_, c, _, _, _, _, e, _⟩ | ⟨h0, A, e⟩⟩ := hdr
   ·exact ⟨_, c, e⟩
   ·subst h0; exact ⟨A, 0, e⟩
  obtain ⟨A, c, ed⟩ := this
  rw [hrun A c w ed (by
   rw [hz, List.take_zero, List.map_nil]
   cases A with
   | none => simp
   | some b => exact storeCells_nil b w)]
  exact hK fr _ _ _ _ _ h hst rfl (fun h => absurd h hloud)
 ·obtain ⟨hn, ⟨ob', c, Eb, sz, hob', hre, ed, hc, hfit, _⟩ | ⟨h0, A, ed⟩⟩ := hdr
  case inr => omega
  rw [hob] at hob'
  cases hob'
  rw [hs, Nat.mul_one] at hfit
  have hvl : ((l.take (min l.length n)).map fun b => Value.int .u8 (b.toNat : Int)).length = min l.length n := by simp
  obtain ⟨w', hst', g⟩ := storeL (P := C.P) off (fun j => .p (.u8 ((l.take n).getD j 0))) ((l.take (min l.length n)).map fun b => Value.int .u8 (b.toNat : Int)) 0 O w ob hst.core hob (by rw [hvl]; omega) (fun j v hv => by
    rw [List.getElem?_map] at hv
    obtain ⟨b, hb, rfl⟩ := Option.map_eq_some_iff.1 hv
    rw [<- htk] at hb
    refine ⟨?_, rfl⟩
    show Value.int .u8 (b.toNat : Int) = .int .u8 (((l.take n).getD (0 + j) 0).toNat : Int)
    rw [Nat.zero_add]
    simp [List.getD, hb]) (.bs (l0.take off ++ l.take n ++ l0.drop (off + min l.length n))) ⟨hs, by simp; omega⟩ (fun j hj => by
    rw [hvl, hc0, Nat.add_zero]
    show BV.p (.u8 ((l0.take off ++ l.take n ++ l0.drop (off + min l.length n)).getD j 0)) = _
    have hlt : (l.take n).length = min l.length n := by simp [Nat.min_comm]
    have hlo : (l0.take off).length = off := by simp; omega
    by_cases h1 : j < off
    ·rw [if_neg (by omega)]
     simp only [OC.get, List.getD_eq_getElem?_getD]
     rw [List.append_assoc, List.getElem?_append_left (by omega), List.getElem?_take, if_pos h1]
    ·by_cases h2 : j < off + min l.length n
     ·rw [if_pos ⟨by omega, h2⟩]
      simp only [List.getD_eq_getElem?_getD]
      rw [List.append_assoc, List.getElem?_append_right (by omega), List.getElem?_append_left (by omega), hlo]
     ·rw [if_neg (by omega)]
      simp only [OC.get, List.getD_eq_getElem?_getD]
      rw [List.getElem?_append_right (by simp only [List.length_append]; omega), List.getElem?_drop, List.length_append, hlo, hlt]
      congr 4
      omega) (by intro e0; rw [e0] at hvl; simp at hvl; omega)
  rw [hrun _ c w' ed hst']
  exact hK fr _ _ _ _ _ h (hst.goes g (fun _ _ _ => trivial)) rfl (fun h => absurd h hloud)
def extA (x : BV) (i : Nat) (kk : BV -> Prop) : Prop :=
 match x with
 | .tup n f => i < n /\ kk (f i)
 | _ => False
def bltA (C : Ctx) (fr : Fr) (O : Hp) (b : Builtin) (args : List Operand) (ats : List TypeId) (k : OpK) : Prop :=
 match b, args, ats with
 | .len, [x], [T] => lenA C T (Fr.ev C fr x) fun r => k fr r O
 | .append, [d, x], [T, T2] => appA C fr O T T2 (Fr.ev C fr d) (Fr.ev C fr x) k ∨ apzA C fr O T T2 (Fr.ev C fr d) (Fr.ev C fr x) k ∨ apzR C fr O T T2 (Fr.ev C fr d) (Fr.ev C fr x) k
 | .copy, [d, x], [T, _] => cpyA C fr O T (Fr.ev C fr d) (Fr.ev C fr x) k
 | .cap, [x], [T] => capA C T (Fr.ev C fr x) fun r => k fr r O
 | b, l, _ => pbA C fr b l fun r => k fr r O
theorem bltA_ok {C : Ctx} {o : Oper} {b : Builtin} {args : Array Operand} {ats : Array TypeId} (ho : o.op = .call { callee := .builtin b, args, argTypes := ats })
  {fr : Fr} {O : Hp} {k : OpK} (h : bltA C fr O b args.toList ats.toList k) : OpOK C o fr O k := by
 unfold bltA at h
 split at h
 ·rename_i x T hx hT
  have e1 : args = #[x] := by apply Array.ext'; simpa using hx
  have e2 : ats = #[T] := by apply Array.ext'; simpa using hT
  subst e1; subst e2
  intro E β a w hst K Q hK
  obtain ⟨n, hk, hr⟩ := lenA_run hst h (hst.ev x) o.type
  have hrun : (execOp a.eval o).run C.P w = .ok (.value (.int .i64 (n : Int))) w := by
   simp only [execOp, ho, resolve, pure_bind, invoke, builtin]
   rw [show (#[x].map a.eval : Array Value) = #[a.eval x] from by simp]
   exact run_v hr
  unfold Oper.wp
  rw [hrun]
  exact hK fr _ O β w _ hk hst rfl (fun _ => rfl)
 ·rename_i d x T T2 hx hT
  rcases h with h | h | h
  ·exact appA_ok ho (by apply Array.ext'; simpa using hx) (by apply Array.ext'; simpa using hT) h
  ·exact apzA_ok ho (by apply Array.ext'; simpa using hx) (by apply Array.ext'; simpa using hT) h
  ·exact apzR_ok ho (by apply Array.ext'; simpa using hx) (by apply Array.ext'; simpa using hT) h
 ·rename_i d x T T2 hx hT
  exact cpyA_ok ho (by apply Array.ext'; simpa using hx) (by apply Array.ext'; simpa using hT) h
 ·rename_i x T hx hT
  exact capA_ok ho (by apply Array.ext'; simpa using hx) (by apply Array.ext'; simpa using hT) h
 ·exact pbA_ok ho h
def cvL (C : Ctx) (fr : Fr) : List Operand -> Option (List CV)
 | [] => some []
 | x :: r => match Fr.ev C fr x, cvL C fr r with
  | .p v, some l => some (.p v :: l)
  | .ptr t off, some l => some (.ptr t off :: l)
  | _, _ => none
def mkfA (C : Ctx) (fr : Fr) (f : FuncId) (first caps : List Operand) (kk : BV -> Prop) : Prop :=
 (first = [] /\ match cvL C fr caps with
  | some cs => kk (.clo f cs)
  | none => False) ∨
 ∃ x t off, first = [x] /\ caps = [] /\ Fr.ev C fr x = .ptr t off /\ kk (.mv f t off)
theorem cvL_rep {C : Ctx} {E : Env} {β : Loc} {fr : Fr} {O : Hp} {a : Act} {w : World} (hst : St C E β fr O a w) : ∀ {l : List Operand} {cs : List CV}, cvL C fr l = some cs -> cs.length = l.length /\ ∀ (i : Nat) (c : CV), cs[i]? = some c -> ∃ x, l[i]? = some x /\ c.Rep (Un E.N β O) β O w (a.eval x)
 | [], cs, h => by
  simp only [cvL, Option.some.injEq] at h
  subst h
  exact ⟨rfl, fun i c hc => by simp at hc⟩
 | x :: r, cs, h => by
  have hx := hst.ev x
  unfold cvL at h
  split at h
  ·rename_i v l hv hl
   cases h
   obtain ⟨h1, h2⟩ := cvL_rep hst hl
   rw [hv] at hx
   refine ⟨by simp [h1], fun i c hc => ?_⟩
   cases i with
   | zero => simp only [List.getElem?_cons_zero, Option.some.injEq] at hc; subst hc; exact ⟨x, rfl, hx⟩
   | succ i => simpa using h2 i c (by simpa using hc)
  ·rename_i t off l hv hl
   cases h
   obtain ⟨h1, h2⟩ := cvL_rep hst hl
   rw [hv] at hx
   refine ⟨by simp [h1], fun i c hc => ?_⟩
   cases i with
   | zero => simp only [List.getElem?_cons_zero, Option.some.injEq] at hc; subst hc; exact ⟨x, rfl, hx⟩
   | succ i => simpa using h2 i c (by simpa using hc)
  ·cases h
theorem mkfA_ok {C : Ctx} {o : Oper} {f : FuncId} {first caps : Array Operand} (ho : o.op = .makeFunc (.func f) first caps) {fr : Fr} {O : Hp} {k : OpK} (h : mkfA C fr f first.toList caps.toList fun r => k fr r O) : OpOK C o fr O k := by
 rcases h with ⟨h0, h⟩ | ⟨x, t, off, h0, h1, h2, h⟩
 case inr =>
  have e1 : first = #[x] := by apply Array.ext'; simpa using h0
  have e2 : caps = #[] := by apply Array.ext'; simpa using h1
  subst e1; subst e2
  refine OpOK.val _ h fun E β a w hst => ⟨.func (.func f) #[a.eval x] #[], ?_, ?_⟩
  ·simp only [execOp, ho]
   exact run_v (by simp [Instr.makeFunc])
  ·have hxr := hst.ev x
   rw [h2] at hxr
   obtain ⟨ob, k1, k2, k3, k4⟩ := hxr
   exact ⟨ob, k1, k2, k3, by rw [k4]⟩
 have e1 : first = #[] := by apply Array.ext'; simpa using h0
 subst e1
 split at h
 ·rename_i cs hcs
  refine OpOK.val _ h fun E β a w hst => ⟨.func (.func f) #[] (caps.map a.eval), ?_, ?_⟩
  ·simp only [execOp, ho]
   exact run_v (by simp [Instr.makeFunc])
  ·obtain ⟨h1, h2⟩ := cvL_rep hst hcs
   refine ⟨_, rfl, by simp [h1], fun i c hc => ?_⟩
   obtain ⟨x, hx, hr⟩ := h2 i c hc
   exact ⟨a.eval x, by rw [Array.getElem?_map, <- Array.getElem?_toList, hx]; rfl, hr⟩
 ·exact h.elim
def Ev (E E' : Env) : Prop := ∃ rs, E' = { E with rows := rs } /\ ∀ p, p ∈ E.rows -> (E.c.it = false ∨ p.1 ≠ E.c.l) -> p ∈ rs
theorem Ev.refl (E : Env) : Ev E E := ⟨E.rows, rfl, fun _ h _ => h⟩
theorem Ev.trans {E E' E'' : Env} (h : Ev E E') (k : Ev E' E'') : Ev E E'' := by
 obtain ⟨rs, rfl, h1⟩ := h
 obtain ⟨rs', rfl, h2⟩ := k
 exact ⟨rs', rfl, fun p hp hl => h2 p (h1 p hp hl) hl⟩
def rnd (C : Ctx) : Fence := { Fence.wide with round := C.r }
theorem rnd_off {C : Ctx} (h : C.r = none) : rnd C = Fence.wide := by simp only [rnd, h]; rfl
def OpX (C : Ctx) (o : Oper) (fr : Fr) (O : Hp) (k : OpK) : Prop :=
 ∀ (E : Env) (β : Loc) (a : Act) (w : World), St C E β fr O a w -> ∀ (K : Act -> World -> Prop) (Q : Exit -> Act -> World -> Prop),
  (∀ fr' x O' β' E' w' u, Ev E E' -> k fr' x O' -> St C E' β' fr' O' a w' -> x.Rep (Un E'.N β' O') β' O' w' u -> K (a.put o.dst u) w') -> o.wpIn (rnd C) 0 C.P a w K Q
theorem callsIn_rnd {C : Ctx} {n : Nat} {P : Program} {f : FuncId} {args : Array Value} {w : World} {R : Ending -> World -> Prop} (h : Calls P f args w R) : CallsIn (rnd C) n P f args w R :=
 (callsIn_wide (n := n)).2 h
theorem rowsIn_rnd {C : Ctx} {n : Nat} {P : Program} {row : String} {args : Array Value} {w : World} {R : Value -> World -> Prop} (h : Rows P row args w R) : RowsIn (rnd C) n P row args w R :=
 fun c cs _ => let ⟨v, w', r, s⟩ := h c cs; ⟨v, w', r, stepsIn_wide.2 s⟩
theorem Oper.wp_in {C : Ctx} {n : Nat} {P : Program} {o : Oper} (hd : C.r = none ∨ ∀ c, o.op ≠ .defer c) {a : Act} {w : World} {K : Act -> World -> Prop} {Q : Exit -> Act -> World -> Prop} (h : o.wp P a w K Q) : o.wpIn (rnd C) n P a w K Q := by
 refine ⟨fun _ _ => trivial, ?_⟩
 have e : o.semAt (rnd C).round a.eval = execOp a.eval o := by
  rcases hd with hd | hd
  ·rw [rnd_off hd]; rfl
  ·exact Oper.semAt_eq _ _ _ hd
 rw [e]
 unfold Oper.wp at h
 cases hr : (execOp a.eval o).run P w with
 | halt e w' => rw [hr] at h; cases e <;> exact h
 | ok nx w' =>
  rw [hr] at h
  cases nx <;> first
   | exact h
   | exact h.elim
   | exact ⟨fun hh => by simp [rnd, Fence.wide] at hh, callsIn_rnd h⟩
   | exact ⟨fun hh => by simp [rnd, Fence.wide] at hh, rowsIn_rnd h⟩
def opA (C : Ctx) (S : FuncId -> Option Sp) (op : Op) (fr : Fr) (O : Hp) (k : OpK) : Prop :=
 match op with
 | .move x => k fr (Fr.ev C fr x) O
 | .assign x => k fr (Fr.ev C fr x) O
 | .pick c x y => pickA (Fr.ev C fr c) (k fr (Fr.ev C fr x) O) (k fr (Fr.ev C fr y) O)
 | .binOp op T x y _ => binA C op T (Fr.ev C fr x) (Fr.ev C fr y) fun r => k fr r O
 | .unOp op _ x => unA op (Fr.ev C fr x) fun r => k fr r O
 | .convert s d x => convA C O s d (Fr.ev C fr x) (fun r => k fr r O) ∨ cvbA C fr O s d (Fr.ev C fr x) k
 | .extract x i => extA (Fr.ev C fr x) i fun r => k fr r O
 | .nilCheck x => nilChkA (Fr.ev C fr x) fun r => k fr r O
 | .load T x => loadA C O T (Fr.ev C fr x) fun r => k fr r O
 | .indexAddr T x i => ixA C O T (Fr.ev C fr x) (Fr.ev C fr i) fun r => k fr r O
 | .index T x i => indexA C T (Fr.ev C fr x) (Fr.ev C fr i) fun r => k fr r O
 | .field T x i => fieldA C T (Fr.ev C fr x) i fun r => k fr r O
 | .fieldAddr T x i => fadA C O T (Fr.ev C fr x) i fun r => k fr r O
 | .slice T x lo hi mx => cutA C fr O T (Fr.ev C fr x) lo hi mx fun r => k fr r O
 | .buildSlice T len parts => bslA C fr O T len parts.toList k
 | .makeSlice T l c => mkA C fr O T (Fr.ev C fr l) (Fr.ev C fr c) k
 | .store T p x => stoA C O T (Fr.ev C fr p) (Fr.ev C fr x) (fun O' => k fr .dead O') ∨ stoB C O T (Fr.ev C fr p) (Fr.ev C fr x) (fun O' => k fr .dead O') ∨ frz1 fr O (Fr.ev C fr x) (fun fr O => stoA C O T (Fr.ev C fr p) (Fr.ev C fr x) fun O' => k fr .dead O')
 | .alloc T => allocA C fr O T k
 | .box T x => boxA C fr O T (Fr.ev C fr x) k
 | .build T parts => bldA C fr O T parts.toList k
 | .call c => match c.callee with
  | .value x => callA C S fr O (Fr.ev C fr x) c.args.toList k ∨ (∀ o : Oper, o.op = .call c -> OpOK C o fr O k) ∨ (C.it = true /\ ∀ o : Oper, o.op = .call c -> OpX C o fr O k)
  | .builtin b => bltA C fr O b c.args.toList c.argTypes.toList k
  | _ => False
 | .makeFunc (.func f) first caps => mkfA C fr f first.toList caps.toList fun r => k fr r O
 | .sliceToArrayPointer T x => sapA C O T (Fr.ev C fr x) fun r => k fr r O
 | _ => False
theorem opA_okX {C : Ctx} {S : FuncId -> Option Sp} (hS : ∀ f s, S f = some s -> FOK C.P C.gl f s) {o : Oper} {fr : Fr} {O : Hp} {k : OpK} (h : opA C S o.op fr O k) :
  (∀ c, o.op ≠ .defer c) /\ (OpOK C o fr O k ∨ (C.it = true /\ loud C o.op = true /\ OpX C o fr O k)) := by
 refine ⟨fun c hc => by rw [hc] at h; exact h, ?_⟩
 unfold opA at h
 split at h
 case h_21 c ho =>
  obtain ⟨callee, args, ats⟩ := c
  split at h
  ·rename_i x hx
   simp only at hx
   subst hx
   rcases h with h | h | h
   ·exact .inl (callA_ok hS ho h)
   ·exact .inl (h o ho)
   ·exact .inr ⟨h.1, by rw [ho]; rfl, h.2 o ho⟩
  ·rename_i b hb
   simp only at hb
   subst hb
   exact .inl (bltA_ok ho h)
  ·exact h.elim
 case h_24 => exact h.elim
 all_goals (rename_i ho; refine .inl ?_)
 ·exact moveA_ok (.inl ho) h
 ·exact moveA_ok (.inr ho) h
 ·exact pickA_ok ho h
 ·exact binA_ok ho h
 ·exact unA_ok ho h
 ·rcases h with h | h
  ·exact convA_ok ho h
  ·exact cvbA_ok ho h
 ·unfold extA at h
  split at h
  ·rename_i n f hx
   exact extractA_ok ho hx h.1 h.2
  ·exact h.elim
 ·exact nilChkA_ok ho h
 ·exact loadA_ok ho h
 ·exact ixA_ok ho h
 ·exact indexA_ok ho h
 ·exact fieldA_ok ho h
 ·exact fadA_ok ho h
 ·exact cutA_ok ho h
 ·exact bslA_ok ho h
 ·exact mkA_ok ho h
 ·rcases h with h | h | h
  ·exact stoA_ok ho h
  ·exact stoB_ok ho h
  ·intro E β a w hst K Q hK
   obtain ⟨fr', O', h1, hst', _⟩ := frz1_ok h hst
   exact stoA_ok ho h1 E β a w hst' K Q hK
 ·exact allocA_ok ho h
 ·exact boxA_ok ho h
 ·exact bldA_ok ho h
 ·exact mkfA_ok ho h
 ·exact sapA_ok ho h
theorem opA_X {C : Ctx} {S : FuncId -> Option Sp} (hS : ∀ f s, S f = some s -> FOK C.P C.gl f s) {o : Oper} {fr : Fr} {O : Hp} {k : OpK} (h : opA C S o.op fr O k) : OpX C o fr O k := by
 rcases opA_okX hS h with ⟨hd, h2 | h2⟩
 ·exact fun E β a w hst K Q hK => Oper.wp_in (.inr hd) (h2 E β a w hst K Q fun fr' x O' β' w' u hk hs hx _ => hK fr' x O' β' E w' u (Ev.refl E) hk hs hx)
 ·exact h2.2.2
theorem opA_okQ {C : Ctx} {S : FuncId -> Option Sp} (hS : ∀ f s, S f = some s -> FOK C.P C.gl f s) {o : Oper} {fr : Fr} {O : Hp} {k : OpK} (hl : loud C o.op = false) (h : opA C S o.op fr O k) : OpOK C o fr O k :=
 (opA_okX hS h).2.resolve_right fun h => by rw [hl] at h; cases h.2.1
def dstA (n : Nat) (d : Option Tmp) (x : BV) (fr : Fr) (kk : Fr -> Prop) : Prop :=
 match d with
 | none => kk fr
 | some d => d < n /\ kk ((d, x) :: fr)
def gslot (ops : List Oper) (g : Nat) : Option Tmp :=
 match ops[g]? with
 | some o => o.dst
 | none => none
def grdA (C : Ctx) (ops : List Oper) (g : Option (Nat × Bool)) (fr : Fr) (y : Fr -> Prop) (n : Fr -> Prop) : Prop :=
 match g with
 | none => y fr
 | some (g, want) => match gslot ops g with
  | none => False
  | some d => match Fr.get fr d with
   | .p (.v (.bool b)) => d < C.nt /\ (b = want -> y ((d, .p (.v (.bool want))) :: fr)) /\ (b = !want -> n ((d, .p (.v (.bool !want))) :: fr))
   | .p (.v (.tuple _)) => n fr
   | _ => False
def opsA (C : Ctx) (S : FuncId -> Option Sp) (ops : List Oper) : List Oper -> Fr -> Hp -> (Fr -> Hp -> Prop) -> Prop
 | [], fr, O, K => K fr O
 | o :: r, fr, O, K => grdA C ops o.guard fr
   (fun fr => opA C S o.op fr O fun fr x O => dstA C.nt o.dst x fr fun fr => opsA C S ops r fr O K)
   (fun fr => dstA C.nt o.dst (.p (.v undef)) fr fun fr => opsA C S ops r fr O K)
theorem dstA_ok {C : Ctx} {E : Env} {β : Loc} {fr : Fr} {O : Hp} {a : Act} {w : World} (hst : St C E β fr O a w) {d : Option Tmp} {x : BV} {u : Value} (hx : x.Rep (Un E.N β O) β O w u) {kk : Fr -> Prop} (h : dstA C.nt d x fr kk) :
  ∃ fr', kk fr' /\ St C E β fr' O (a.put d u) w := by
 unfold dstA at h
 split at h
 ·exact ⟨fr, h, hst⟩
 ·exact ⟨_, h.2, hst.put h.1 hx⟩
theorem St.tell {C : Ctx} {E : Env} {β : Loc} {fr : Fr} {O : Hp} {a : Act} {w : World} (h : St C E β fr O a w) {d : Nat} (hd : d < C.nt) {x : BV} (hx : x.Rep (Un E.N β O) β O w (a.tmps.getD d undef)) : St C E β ((d, x) :: fr) O a w := by
 refine ⟨h.ctx, h.good, h.core, h.defers, h.size, fun k => ?_, h.xs, h.tok.mono fun k hk e => by
  rw [h.ctx] at hk
  rwa [Fr.get, if_neg (by omega)] at e⟩
 by_cases hk : d = k
 ·subst hk; simp only [Fr.get, if_true]; exact hx
 ·simp only [Fr.get, hk, if_false]; exact h.slot k
theorem grdA_ok {C : Ctx} {E : Env} {β : Loc} {fr : Fr} {O : Hp} {a : Act} {w : World} (hst : St C E β fr O a w) {ops : List Oper} {o : Oper} {y n : Fr -> Prop} (h : grdA C ops o.guard fr y n) :
  ∃ fr', St C E β fr' O a w /\ ((Region.wanted o (yielded ops.toArray a.tmps) = true /\ y fr') ∨ (Region.wanted o (yielded ops.toArray a.tmps) = false /\ n fr')) := by
 unfold grdA at h
 unfold Region.wanted
 split at h
 ·rename_i hg
  exact ⟨fr, hst, .inl ⟨by rw [hg], h⟩⟩
 ·rename_i g want hg
  split at h
  ·exact h.elim
  ·rename_i d hd
   have hb : ((ops.toArray[g]?).bind (·.dst)) = some d := by
    unfold gslot at hd
    simp only [List.getElem?_toArray]
    cases ho : ops[g]? with
    | none => rw [ho] at hd; cases hd
    | some o' => rw [ho] at hd; simpa using hd
   have hs := hst.slot d
   split at h
   ·rename_i b hx
    obtain ⟨hlt, h1, h2⟩ := h
    rw [hx] at hs
    have ev : a.tmps.getD d undef = .bool b := hs
    have hget : a.tmps[d]? = some (.bool b) := by
     rw [Array.getD_eq_getD_getElem?] at ev
     have : d < a.tmps.size := by rw [hst.size]; exact hlt
     rw [Array.getElem?_eq_getElem this] at ev ⊢
     simpa using ev
    have hy : yielded ops.toArray a.tmps g = some b := by
     unfold yielded
     rw [hb]
     simp [hget]
    by_cases hbw : b = want
    ·subst hbw
     exact ⟨_, hst.tell hlt hs, .inl ⟨by rw [hg]; simp [hy], h1 rfl⟩⟩
    ·have hbn : b = !want := by cases b <;> cases want <;> simp_all
     subst hbn
     exact ⟨_, hst.tell hlt hs, .inr ⟨by rw [hg]; simp only [hy]; cases want <;> rfl, h2 rfl⟩⟩
   ·rename_i vs hx
    rw [hx] at hs
    have ev : a.tmps.getD d undef = .tuple vs := hs
    have hy : yielded ops.toArray a.tmps g = none := by
     unfold yielded
     rw [hb]
     rw [Array.getD_eq_getD_getElem?] at ev
     cases hget : a.tmps[d]? with
     | none => simp [hget]
     | some v => rw [hget] at ev; simp only [Option.getD_some] at ev; subst ev; simp [hget]
    exact ⟨fr, hst, .inr ⟨by rw [hg]; simp [hy], h⟩⟩
   ·exact h.elim
theorem opsA_ok {C : Ctx} {S : FuncId -> Option Sp} (hS : ∀ f s, S f = some s -> FOK C.P C.gl f s) {E0 : Env} {Q : Exit -> Act -> World -> Prop} {ops : List Oper} {K : Fr -> Hp -> Prop} (hQ : ∀ E fr O β a w, Ev E0 E -> K fr O -> St C E β fr O a w -> Q .normal a w) :
  ∀ (l : List Oper) (E : Env) (fr : Fr) (O : Hp) (β : Loc) (a : Act) (w : World), Ev E0 E -> opsA C S ops l fr O K -> St C E β fr O a w -> wpListIn (rnd C) 0 C.P ops.toArray Q l a w
 | [], E, fr, O, β, a, w, hE, h, hst => hQ E fr O β a w hE h hst
 | o :: r, E, fr, O, β, a, w, hE, h, hst => by
  obtain ⟨fr1, hst1, ⟨hw, h1⟩ | ⟨hw, h1⟩⟩ := grdA_ok hst h
  ·unfold wpListIn
   rw [if_pos hw]
   refine opA_X hS h1 E β a w hst1 _ Q fun fr' x O' β' E' w' u hE' hk hst' hx => ?_
   obtain ⟨fr2, h2, hst2⟩ := dstA_ok hst' hx hk
   exact opsA_ok hS hQ r E' fr2 O' β' _ w' (hE.trans hE') h2 hst2
  ·unfold wpListIn
   rw [if_neg (by rw [hw]; simp)]
   obtain ⟨fr2, h2, hst2⟩ := dstA_ok (x := .p (.v undef)) (u := undef) hst1 rfl h1
   exact ⟨fun _ _ => trivial, opsA_ok hS hQ r E fr2 O β _ w hE h2 hst2⟩
def quietL (C : Ctx) : List Oper -> Bool
 | [] => true
 | o :: r => !loud C o.op && quietL C r
theorem opsA_tail {C : Ctx} {S : FuncId -> Option Sp} (hS : ∀ f s, S f = some s -> FOK C.P C.gl f s) {E : Env} {w : World} {ops : List Oper} {K : Fr -> Hp -> Prop} {Q : Exit -> Act -> World -> Prop} (hQ : ∀ E' fr O β a w, Ev E E' -> K fr O -> St C E' β fr O a w -> Q .normal a w) :
  ∀ (l r : List Oper), quietL C l = true -> ∀ (fr : Fr) (O : Hp) (β : Loc) (a : Act), opsA C S ops (l ++ r) fr O K -> St C E β fr O a w -> wpStill C.P ops.toArray w (fun a' => wpListIn (rnd C) 0 C.P ops.toArray Q r a' w) l a
 | [], r, _, fr, O, β, a, h, hst => opsA_ok hS hQ r E fr O β a w (Ev.refl E) h hst
 | o :: l, r, hq, fr, O, β, a, h, hst => by
  simp only [quietL, Bool.and_eq_true, Bool.not_eq_true'] at hq
  refine wpStill_step fun KK hKK => ?_
  obtain ⟨fr1, hst1, ⟨hw, h1⟩ | ⟨hw, h1⟩⟩ := grdA_ok hst h
  ·rw [if_pos hw]
   obtain ⟨v, u, fr', x, O', β', hr, he, hk, hst', hx⟩ := (opA_okQ hS hq.1 h1).value hq.1 hst1
   unfold Oper.still
   rw [hr, Oper.stillUpon_value, he]
   obtain ⟨fr2, h2, hst2⟩ := dstA_ok hst' hx hk
   exact hKK _ (opsA_tail hS hQ l r hq.2 fr2 O' β' _ h2 hst2)
  ·rw [if_neg (by rw [hw]; simp)]
   obtain ⟨fr2, h2, hst2⟩ := dstA_ok (x := .p (.v undef)) (u := undef) hst1 rfl h1
   exact hKK _ (opsA_tail hS hQ l r hq.2 fr2 O β _ h2 hst2)
abbrev QA := Exit -> Fr -> Hp -> Prop
structure HT (C : Ctx) (c : Code) (fr : Fr) (O : Hp) (Q : QA) : Prop where
 run : ∀ (E : Env) (β : Loc) (a : Act) (w : World), St C E β fr O a w -> c.wpIn (rnd C) 0 C.P (fun e a' w' => ∃ fr' O' β' E', Ev E E' /\ Q e fr' O' /\ St C E' β' fr' O' a' w') a w
def nodefB : List Oper -> Bool
 | [] => true
 | o :: r => (match o.op with | .defer _ => false | _ => true) && nodefB r
theorem nodefB_spec : ∀ {l : List Oper}, nodefB l = true -> ∀ (i : Nat) (o : Oper), l[i]? = some o -> ∀ c, o.op ≠ .defer c
 | [], _, i, o, hi, _ => by simp at hi
 | o :: r, h, 0, o', hi, c => by
  simp only [List.getElem?_cons_zero, Option.some.injEq] at hi
  subst hi
  intro hc
  simp [nodefB, hc] at h
 | o :: r, h, i + 1, o', hi, c => by
  simp only [nodefB, Bool.and_eq_true] at h
  exact nodefB_spec h.2 i o' (by simpa using hi) c
section
variable {C : Ctx} {P : Program} {md : Region.Mode} {Q : Exit -> Act -> World -> Prop}
theorem wpOp_in {n : Nat} {l : List Oper} (hd : nodefB l = true) {Q' : Exit -> Act -> World -> Prop} (hQ : ∀ e a w, Q' e a w -> Q e a w) (hno : ¬ LetsOut Q') {i : Nat} {K : Act -> World -> Prop} {a : Act} {w : World} (h : wpOp P l.toArray Q' i K a w) : wpOpIn (rnd C) n P l.toArray Q i K a w := by
 unfold wpOp at h
 unfold wpOpIn
 cases hi : l.toArray[i]? with
 | none => rw [hi] at h; exact h
 | some o =>
  rw [hi] at h
  simp only at h ⊢
  by_cases hw : Region.wanted o (yielded l.toArray a.tmps) = true
  ·rw [if_pos hw] at h ⊢
   have h1 := h.resolve_right fun h => hno h.2
   have h2 : o.wpIn (rnd C) n P a w K Q' := Oper.wp_in (.inr (nodefB_spec hd i o (by simpa using hi))) h1
   refine ⟨h2.1, ?_⟩
   have h3 := h2.2
   revert h3
   cases (o.semAt (rnd C).round a.eval).run P w with
   | halt e w' => cases e <;> first | exact id | exact hQ _ _ _
   | ok nx w' =>
    cases nx <;> first
     | exact id
     | exact fun h => ⟨h.1, h.2.mono fun e w' => by
       cases e
       ·exact id
       ·exact hQ _ _ _
       ·exact fun ⟨a, w, h⟩ => ⟨a, w, hQ _ _ _ h⟩⟩
  ·rw [if_neg hw] at h ⊢
   exact ⟨fun _ _ => trivial, h⟩
theorem wpAny_in {l : List Oper} (hd : nodefB l = true) (hno : ¬ LetsOut Q) : ∀ (fuel : Nat) (listed : Array Bool) (a : Act) (w : World), wpAny P md l.toArray Q fuel listed a w -> wpAnyIn (rnd C) 0 P md l.toArray Q fuel listed a w
 | 0, _, _, _, h => h
 | fuel + 1, listed, a, w, h => ⟨h.1, fun i hi => wpOp_in hd (fun _ _ _ h => h) hno (wpOp_mono (fun a w h => wpAny_in hd hno fuel _ a w h) (h.2 i hi))⟩
theorem wpAnyIn_of_head {l : List Oper} (hd : nodefB l = true) {w : World} {n g : Nat} {L : Array Bool -> Act -> Prop} (hL : ∀ listed a, L listed a -> wpAnyIn (rnd C) 0 P md l.toArray Q g listed a w) :
  ∀ (f : Nat) (listed : Array Bool) (a : Act), wpAnyL P md l.toArray w n L f listed a -> wpAnyIn (rnd C) 0 P md l.toArray Q (f + g) listed a w
 | 0, listed, a, h => by rw [Nat.zero_add]; exact hL _ _ h
 | f + 1, listed, a, h => by
  rw [show f + 1 + g = (f + g) + 1 by omega]
  exact ⟨fun h0 => absurd h0 h.1, fun i hi => wpOp_in hd (Q' := fun _ _ _ => False) (fun _ _ _ h => h.elim) (fun ⟨_, _, h⟩ => h) (wpOp_of_stOp (fun a' h' => wpAnyIn_of_head hd hL f _ a' h') (h.2 i hi).2)⟩
theorem wpAnyIn_of_seq {F : Fence} {n : Nat} {ops : Array Oper} : ∀ (l : List Oper) (k : Nat) (listed : Array Bool) (a : Act) (w : World), (∀ j, l[j]? = ops[k + j]?) ->
  Region.seqB md ops l.length k listed = true -> wpListIn F n P ops Q l a w -> wpAnyIn F n P md ops Q l.length listed a w
 | [], _, _, _, _, _, hB, h => ⟨by simpa [Region.seqB] using hB, h⟩
 | o :: l, k, listed, a, w, hl, hB, h => by
  have h0 : ops[k]? = some o := by simpa using (hl 0).symm
  simp only [List.length_cons, Region.seqB, Bool.and_eq_true, decide_eq_true_eq] at hB
  refine ⟨fun h1 => (by rw [hB.1] at h1; cases h1), fun i hi => ?_⟩
  rw [hB.1] at hi
  have hi : i = k := by simpa using hi
  subst hi
  have step : ∀ a w, wpListIn F n P ops Q l a w -> wpAnyIn F n P md ops Q l.length (listed.setIfInBounds i true) a w := fun a w h => wpAnyIn_of_seq l (i + 1) _ a w (fun j => by have := hl (j + 1); simpa [Nat.add_assoc, Nat.add_comm 1 j] using this) hB.2 h
  unfold wpOpIn
  rw [h0]
  unfold wpListIn at h
  simp only
  by_cases hw : Region.wanted o (yielded ops a.tmps) = true
  ·rw [if_pos hw] at h ⊢
   exact Oper.wpIn_mono step h
  ·rw [if_neg hw] at h ⊢
   exact ⟨h.1, step _ _ h.2⟩
theorem wpIn_region_tail {id : Nat} {a : Act} {w : World} {l : List Oper} (hd : nodefB l = true) (n : Nat) (hm : P.follows .mixedOrders = true) (hB : Region.lexTailB .any l.toArray n = true)
  (h : wpStill P l.toArray { w with drawn := w.drawn + 1 } (fun a' => wpListIn (rnd C) 0 P l.toArray Q (l.drop n) a' { w with drawn := w.drawn + 1 }) (l.take n) a) : (Code.region id l.toArray true).wpIn (rnd C) 0 P Q a w := by
 simp only [Region.lexTailB, Bool.and_eq_true, decide_eq_true_eq] at hB
 obtain ⟨⟨⟨⟨hsel, hn⟩, hs⟩, hc⟩, hlex⟩ := hB
 have hn' : n < l.length := by simpa using hn
 have htl : (l.take n).length = n := by simp; omega
 have hdl : (l.drop n).length = l.toArray.size - n := by simp
 have inv0 : HeadInv .any l.toArray n (Array.replicate l.toArray.size false) :=
  ⟨by simp, fun j oj _ hl => (by rw [getD_replicate_false] at hl; cases hl), fun t _ ht => getD_in (by simpa using ht) (getD_replicate_false _ _)⟩
 have H := wpAnyL_lex (md := .any) (g := l.toArray.size - n) hsel hs hc hn (l.take n) 0 _ a (fun j hj => by
  have hj' : j < n := by rw [htl] at hj; exact hj
  simp [hj']) (by simpa using htl) inv0 (by rw [htl]; exact hlex) h
 refine wpIn_region_any hm ?_
 have := wpAnyIn_of_head (C := C) (Q := Q) hd (g := l.toArray.size - n) (fun listed a' hL => by
  have := wpAnyIn_of_seq (md := .any) (Q := Q) (l.drop n) n listed a' { w with drawn := w.drawn + 1 } (fun j => by simp [List.getElem?_drop]) (by rw [hdl]; exact hL.1) hL.2
  rwa [hdl] at this) _ _ _ H
 rw [htl, show n + (l.toArray.size - n) = l.toArray.size by omega] at this
 exact this
theorem wpIn_loop_ghost {F : Fence} {n : Nat} {a : Act} {w : World} {c : Code} (I : Nat -> Act -> World -> Prop) (n₀ : Nat) (h₀ : I n₀ a w)
  (round : ∀ m a w, I m a w -> c.wpIn F n P (Exit.then (fun a' w' => ∃ n', n' < m /\ I n' a' w') Q) a w) : (Code.loop c).wpIn F n P Q a w := by
 refine wpIn_loop (fun a w => ∃ m, I m a w) (fun a w => leastOf (fun m => I m a w)) ⟨n₀, h₀⟩ ?_
 intro a w hI
 refine wpIn_mono (round _ a w (leastOf_spec hI).1) ?_
 intro e a' w' hq
 cases e with
 | normal =>
  obtain ⟨m, hlt, hm⟩ := hq
  exact ⟨⟨m, hm⟩, Nat.lt_of_le_of_lt ((leastOf_spec ⟨m, hm⟩).2 m hm) hlt⟩
 | _ => exact hq
end
def thenQ (n : Fr -> Hp -> Prop) (Q : QA) : QA := fun e fr O =>
 match e with
 | .normal => n fr O
 | e => Q e fr O
def blockQ (id : Nat) (Q : QA) : QA := fun e fr O =>
 match e with
 | .exit id' => if id' = id then Q .normal fr O else Q (.exit id') fr O
 | e => Q e fr O
section
variable {C : Ctx} {fr : Fr} {O : Hp} {Q : QA}
theorem wpIn_off {c : Code} {Q : Exit -> Act -> World -> Prop} {a : Act} {w : World} (h : C.r = none) : c.wpIn (rnd C) 0 C.P Q a w ↔ c.wp C.P Q a w := by
 rw [rnd_off h]
 exact wpIn_wide
theorem HT.seq {x y : Code} (h : HT C x fr O (thenQ (fun fr O => HT C y fr O Q) Q)) : HT C (x.seq y) fr O Q := by
 refine ⟨fun E β a w hst => ?_⟩
 refine wpIn_seq (wpIn_mono (h.run E β a w hst) fun e a' w' hq => ?_)
 obtain ⟨fr', O', β', E', hE, hq, hst'⟩ := hq
 cases e with
 | normal =>
  refine wpIn_mono (hq.run E' β' a' w' hst') ?_
  rintro e a w ⟨fr2, O2, β2, E2, hE2, h2, h3⟩
  exact ⟨fr2, O2, β2, E2, hE.trans hE2, h2, h3⟩
 | _ => exact ⟨fr', O', β', E', hE, hq, hst'⟩
theorem HT.skip (h : Q .normal fr O) : HT C .skip fr O Q := ⟨fun E β a w hst => wpIn_skip ⟨fr, O, β, E, Ev.refl E, h, hst⟩⟩
theorem HT.label {l : Nat} (h : Q .normal fr O) : HT C (.label l) fr O Q := ⟨fun E β a w hst => wpIn_label ⟨fr, O, β, E, Ev.refl E, h, hst⟩⟩
theorem HT.exit {id : Nat} (h : Q (.exit id) fr O) : HT C (.exit id) fr O Q := ⟨fun E β a w hst => wpIn_exit ⟨fr, O, β, E, Ev.refl E, h, hst⟩⟩
theorem HT.ret (h : Q .ret fr O) : HT C .ret fr O Q := ⟨fun E β a w hst => wpIn_ret ⟨fr, O, β, E, Ev.refl E, h, hst⟩⟩
theorem HT.mono {c : Code} {Q' : QA} (h : HT C c fr O Q') (hq : ∀ e fr O, Q' e fr O -> Q e fr O) : HT C c fr O Q := ⟨fun E β a w hst =>
 wpIn_mono (h.run E β a w hst) fun e a' w' ⟨fr', O', β', E', hE, h1, h2⟩ => ⟨fr', O', β', E', hE, hq _ _ _ h1, h2⟩⟩
theorem HT.region {S : FuncId -> Option Sp} (hS : ∀ f s, S f = some s -> FOK C.P C.gl f s) {id : Nat} {l : List Oper} (h : opsA C S l l fr O (Q .normal)) : HT C (.region id l.toArray false) fr O Q := by
 refine ⟨fun E β a w hst => ?_⟩
 exact wpIn_region_lit (opsA_ok (E0 := E) hS (K := Q .normal) (fun E' fr O β a w hE hk hs => ⟨fr, O, β, E', hE, hk, hs⟩) l E fr O β a w (Ev.refl E) h hst)
theorem HT.tail {S : FuncId -> Option Sp} (hS : ∀ f s, S f = some s -> FOK C.P C.gl f s) (hm : C.P.follows .mixedOrders = true) (n : Nat) {id : Nat} {l : List Oper} (hq : quietL C (l.take n) = true) (hB : Region.lexTailB .any l.toArray n = true)
  (h : opsA C S l l fr O (Q .normal)) (hnd : nodefB l = true := by rfl) : HT C (.region id l.toArray true) fr O Q := by
 refine ⟨fun E β a w hst => ?_⟩
 have hst' : St C E β fr O a { w with drawn := w.drawn + 1 } := hst.goes hst.core.drew (fun _ _ _ => trivial)
 exact wpIn_region_tail hnd n hm hB (opsA_tail (E := E) hS (K := Q .normal) (fun E' fr O β a w hE hk hs => ⟨fr, O, β, E', hE, hk, hs⟩) (l.take n) (l.drop n) hq fr O β a (by rw [List.take_append_drop]; exact h) hst')
def condA (x : BV) (y n : Prop) : Prop :=
 match x with
 | .p (.v (.bool b)) => (b = true -> y) /\ (b = false -> n)
 | _ => False
def tellB (c : Operand) (b : Bool) (fr : Fr) : Fr :=
 match c with
 | .tmp t => (t, .p (.v (.bool b))) :: fr
 | _ => fr
theorem St.lt {C : Ctx} {fr : Fr} {O : Hp} {E : Env} {β : Loc} {a : Act} {w : World} (h : St C E β fr O a w) {d : Nat} (hd : a.tmps.getD d undef ≠ undef) : d < C.nt := by
 rcases Nat.lt_or_ge d C.nt with ht | ht
 ·exact ht
 ·refine absurd ?_ hd
  rw [Array.getD_eq_getD_getElem?, Array.getElem?_eq_none (by rw [h.size]; exact ht)]
  rfl
theorem St.tellB {E : Env} {β : Loc} {a : Act} {w : World} {c : Operand} {b : Bool} (h : St C E β fr O a w) (hb : a.eval c = .bool b) : St C E β (tellB c b fr) O a w := by
 cases c with
 | tmp t =>
  have e : a.tmps.getD t undef = .bool b := hb
  exact h.tell (h.lt (by rw [e]; exact fun e => by cases e)) hb
 | _ => exact h
theorem HT.cond {c : Operand} {x y : Code} (h : condA (Fr.ev C fr c) (HT C x (tellB c true fr) O Q) (HT C y (tellB c false fr) O Q)) : HT C (.cond c x y) fr O Q := by
 unfold condA at h
 split at h
 ·rename_i b hc
  refine ⟨fun E β a w hst => ?_⟩
  have hb := hst.ev c
  rw [hc] at hb
  have hb' : a.eval c = .bool b := hb
  exact wpIn_cond_split hb' (fun e => (h.1 e).run E β a w (hst.tellB (by rw [hb', e]))) (fun e => (h.2 e).run E β a w (hst.tellB (by rw [hb', e])))
 ·exact h.elim
theorem HT.block {id : Nat} {c : Code} (h : HT C c fr O (blockQ id Q)) : HT C (.block id c) fr O Q := by
 refine ⟨fun E β a w hst => ?_⟩
 refine wpIn_block (wpIn_mono (h.run E β a w hst) fun e a' w' hq => ?_)
 obtain ⟨fr', O', β', E', hE, hq, hst'⟩ := hq
 cases e with
 | exit id' =>
  simp only [blockQ] at hq
  simp only [Exit.inBlock]
  split
  ·rename_i he; rw [if_pos he] at hq; exact ⟨fr', O', β', E', hE, hq, hst'⟩
  ·rename_i he; rw [if_neg he] at hq; exact ⟨fr', O', β', E', hE, hq, hst'⟩
 | _ => exact ⟨fr', O', β', E', hE, hq, hst'⟩
def phan (C : Ctx) : List (Nat × Nat × TypeId × Nat × OC) -> Fr -> Hp -> (Fr -> Hp -> Prop) -> Prop
 | [], fr, O, kk => kk fr O
 | (d, t, T, s, c) :: r, fr, O, kk => Fr.get fr d = .p (.v (.slice none 0 0)) /\ Hp.get O t = none /\ (t ∈ C.pins -> False) /\ OB.wf ⟨T, s, 0, true, c⟩ /\ phan C r ((d, .own t 0 0) :: fr) ((t, ⟨T, s, 0, true, c⟩) :: O) kk
theorem phan_ok {E : Env} {a : Act} {w : World} {kk : Fr -> Hp -> Prop} : ∀ (L : List (Nat × Nat × TypeId × Nat × OC)) (fr : Fr) (O : Hp) (β : Loc), phan C L fr O kk -> St C E β fr O a w -> ∃ fr' O' β', kk fr' O' /\ St C E β' fr' O' a w
 | [], fr, O, β, h, hst => ⟨fr, O, β, h, hst⟩
 | (d, t, T, s, c) :: r, fr, O, β, h, hst => by
  obtain ⟨h1, h2, h3, h4, h5⟩ := h
  have g := hst.core.phantom t h2 (by rw [hst.ctx]; exact h3) T s c h4
  have hst' := hst.goes g (fun _ _ _ => trivial)
  have hs := hst.slot d
  rw [h1] at hs
  have e : a.tmps.getD d undef = .slice none 0 0 := hs
  refine phan_ok r _ _ _ h5 (hst'.tell (d := d) (x := .own t 0 0) (hst'.lt (by rw [e]; exact fun e => by cases e)) ?_)
  exact ⟨Nat.zero_le _, .inr ⟨rfl, none, hs⟩⟩
theorem HT.phan {c : Code} (L : List (Nat × Nat × TypeId × Nat × OC)) (h : Go.Vc.phan C L fr O fun fr O => HT C c fr O Q) : HT C c fr O Q := ⟨fun E β a w hst =>
 let ⟨fr', O', β', h1, h2⟩ := phan_ok L fr O β h hst
 h1.run E β' a w h2⟩
end
end Go.Vc

namespace Go.Vc
open Go
inductive PV.le : PV -> PV -> Prop
 | refl (x : PV) : PV.le x x
 | nilBs : PV.le (.v (.slice none 0 0)) (.bs [])
 | nilSl (s : Nat) (f : Nat -> PV) : PV.le (.v (.slice none 0 0)) (.sl 0 s f)
 | sl (n s : Nat) (f g : Nat -> PV) (h : ∀ j, j < n * s -> PV.le (f j) (g j)) : PV.le (.sl n s f) (.sl n s g)
theorem PV.le.rep {U : Addr -> Prop} {w : World} {x y : PV} (h : PV.le x y) : ∀ {u : Value}, x.Rep U w u -> y.Rep U w u := by
 induction h with
 | refl x => exact fun h => h
 | nilBs =>
  intro u h
  have e : u = .slice none 0 0 := h
  subst e
  exact ⟨Nat.zero_le _, none, 0, rfl, Nat.le_refl _, fun j hj => by simp at hj⟩
 | nilSl s f =>
  intro u h
  have e : u = .slice none 0 0 := h
  subst e
  exact ⟨Nat.zero_le _, none, 0, rfl, Nat.le_refl _, fun j hj => by simp at hj⟩
 | sl n s f g _ ih =>
  intro u h
  obtain ⟨hn, A, c, rfl, hc, hcells⟩ := h
  refine ⟨hn, A, c, rfl, hc, fun j hj => ?_⟩
  obtain ⟨a, y, h1, h2, h3, h4⟩ := hcells j hj
  exact ⟨a, y, h1, h2, h3, ih j hj h4⟩
inductive BV.le : BV -> BV -> Prop
 | refl (x : BV) : BV.le x x
 | dead (x : BV) : BV.le x .dead
 | p (a b : PV) (h : a.le b) : BV.le (.p a) (.p b)
 | agg (n : Nat) (f g : Nat -> PV) (h : ∀ j, j < n -> (f j).le (g j)) : BV.le (.agg n f) (.agg n g)
 | rp (m m' : Nat) (f g : Nat -> PV) (hm : m' <= m) (h : ∀ j, j < m' -> (f j).le (g j)) : BV.le (.rp m f) (.rp m' g)
 | ag (n : Nat) (f g : Nat -> BV) (h : ∀ j, j < n -> f j = g j) : BV.le (.ag n f) (.ag n g)
theorem BV.le.rep {U : Addr -> Prop} {β : Loc} {O : Hp} {w : World} {x y : BV} {u : Value} (h : BV.le x y) (hx : x.Rep U β O w u) : y.Rep U β O w u := by
 cases h with
 | refl => exact hx
 | dead => trivial
 | p a b h => exact h.rep hx
 | agg n f g h =>
  obtain ⟨cs, rfl, hs, hc⟩ := hx
  exact ⟨cs, rfl, hs, fun j hj => let ⟨y, h1, h2⟩ := hc j hj; ⟨y, h1, (h j hj).rep h2⟩⟩
 | rp m m' f g hm h =>
  obtain ⟨a, rfl, hc⟩ := hx
  exact ⟨a, rfl, fun j hj => let ⟨h1, y, h2, h3⟩ := hc j (by omega); ⟨h1, y, h2, (h j hj).rep h3⟩⟩
 | ag n f g h =>
  obtain ⟨cs, rfl, hz, hc⟩ := hx
  exact ⟨cs, rfl, hz, fun j hj => let ⟨y, h1, h2⟩ := hc j hj; ⟨y, h1, by rw [<- h j hj]; exact h2⟩⟩
theorem BV.le_undef {x : BV} (h : BV.le x (.p (.v undef))) : x = .p (.v undef) := by
 generalize e : BV.p (.v undef) = y at h
 cases h with
 | refl => rfl
 | dead => cases e
 | p a b hab =>
  cases e
  cases hab
  rfl
 | agg => cases e
 | rp => cases e
 | ag => cases e
structure OB.le (a b : OB) : Prop where
 E : a.E = b.E
 s : a.s = b.s
 n : a.n = b.n
 whole : a.whole = b.whole
 wf : b.wf
 get : ∀ j, j < a.n -> (a.c.get j).le (b.c.get j)
def frW (fr : Fr) (O' : Hp) : Fr -> Prop
 | [] => True
 | (d, x) :: r => ((Fr.get fr d).le x /\ x.inn O') /\ frW fr O' r
def hpW (O O' : Hp) : Hp -> Prop
 | [] => True
 | (t, ob) :: r => (∃ ob0, Hp.get O t = some ob0 /\ (ob0 = ob ∨ ob0.le ob) /\ ob.c.inn O') /\ hpW O O' r
def subW (fr : Fr) (O : Hp) (fr' : Fr) (O' : Hp) : Prop := frW fr O' fr' /\ hpW O O' O'
theorem frW_get {fr : Fr} {O' : Hp} : ∀ {fr' : Fr}, frW fr O' fr' -> ∀ d, (Fr.get fr d).le (Fr.get fr' d) /\ (Fr.get fr' d).inn O'
 | [], _, d => ⟨.dead _, trivial⟩
 | (k, x) :: r, h, d => by
  simp only [Fr.get]
  by_cases hk : k = d
  ·subst hk; rw [if_pos rfl]; exact h.1
  ·rw [if_neg hk]; exact frW_get h.2 d
theorem hpW_get {O O1 : Hp} : ∀ {O' : Hp}, hpW O O1 O' -> ∀ t ob, Hp.get O' t = some ob -> ∃ ob0, Hp.get O t = some ob0 /\ (ob0 = ob ∨ ob0.le ob) /\ ob.c.inn O1
 | (k, o) :: r, h, t, ob, hg => by
  simp only [Hp.get] at hg
  split at hg
  ·rename_i e; subst e; cases hg; exact h.1
  ·exact hpW_get h.2 t ob hg
section
variable {C : Ctx} {fr : Fr} {O : Hp} {Q : QA}
theorem St.subW {E : Env} {β : Loc} {fr' : Fr} {O' : Hp} {a : Act} {w : World} (h : St C E β fr O a w) (hs : Go.Vc.subW fr O fr' O') : St C E β fr' O' a w := by
 have hp : ∀ t ob, Hp.get O' t = some ob -> ∃ ob0, Hp.get O t = some ob0 /\ ob0.E = ob.E /\ ob0.s = ob.s /\ ob0.n = ob.n /\ ob0.whole = ob.whole /\ (ob0.wf -> ob.wf) /\ (∀ j, j < ob0.n -> (ob0.c.get j).le (ob.c.get j)) /\ ob.c.inn O' := by
  intro t ob ht
  obtain ⟨ob0, h1, h2, h3⟩ := hpW_get hs.2 t ob ht
  rcases h2 with rfl | h2
  ·exact ⟨ob0, h1, rfl, rfl, rfl, rfl, id, fun _ _ => .refl _, h3⟩
  ·exact ⟨ob0, h1, h2.E, h2.s, h2.n, h2.whole, fun _ => h2.wf, h2.get, h3⟩
 have hcov : ∀ t ob a, Hp.get O' t = some ob -> ob.cov (β t) a -> ∃ ob0, Hp.get O t = some ob0 /\ ob0.cov (β t) a := by
  intro t ob a ht hc
  obtain ⟨ob0, h1, _, _, h2, h3, _⟩ := hp t ob ht
  exact ⟨ob0, h1, by unfold OB.cov at hc ⊢; rw [h2, h3]; exact hc⟩
 have hown : ∀ a, Owns β O' a -> Owns β O a := fun a ⟨t, ob, ht, hc⟩ => let ⟨ob0, h1, h2⟩ := hcov t ob a ht hc; ⟨t, ob0, h1, h2⟩
 have hst : Stab (Un E.N β O) (Un E.N β O') w w := fun a y hU hy => ⟨fun hx => hU (hx.imp id (hown a)), hy⟩
 have hk : ∀ t, (Hp.get O' t).isSome = true -> KeepsTag β O w β O' w t := fun t hs ob ht => by
  obtain ⟨ob', h1⟩ := Option.isSome_iff_exists.1 hs
  obtain ⟨ob0, h2, _, h3, h4, _⟩ := hp t ob' h1
  rw [ht] at h2; cases h2
  exact ⟨rfl, ob', h1, h3.symm, by omega, fun E0 sz hs => ⟨E0, sz, hs, Nat.le_refl _⟩⟩
 refine ⟨h.ctx, h.good, ⟨h.core.ok, ⟨fun t ob ht => ?_, fun t ob ht => ?_, fun t ob ht hre => ?_, fun t ob ht hre => ?_, fun t ob t' ob' ht ht' hne a ha ha' => ?_, fun t ob ht a ha => ?_⟩, h.core.keep, fun t ob ht a ha => ?_, h.core.pins, h.core.rows⟩, h.defers, h.size, fun d => ?_, h.xs.stab hst, h.tok.mono fun d _ e => BV.le_undef (by have := (frW_get hs.1 d).1; rwa [e] at this)⟩
 ·obtain ⟨ob0, h1, _, _, _, _, h2, _⟩ := hp t ob ht
  exact h2 (h.core.mem.wf t ob0 h1)
 ·obtain ⟨ob0, h1, _, _, h2, h3, _⟩ := hp t ob ht
  rw [<- h2, <- h3]; exact h.core.mem.pos t ob0 h1
 ·obtain ⟨ob0, h1, _, _, h2, h3, _⟩ := hp t ob ht
  rw [<- h2]; exact h.core.mem.obj0 t ob0 h1 hre
 ·obtain ⟨ob0, h0, hE, hs', hn, hw, _, hget, hinn⟩ := hp t ob ht
  obtain ⟨cs, fr, h1, h2, h3, h4, h5⟩ := h.core.mem.obj t ob0 h0 hre
  refine ⟨cs, fr, by rw [<- hE]; exact h1, h2, by rw [<- hn]; exact h3, h4, fun j hj => ?_⟩
  obtain ⟨u, hu, hr⟩ := h5 j (by omega)
  exact ⟨u, hu, BV.Rep.tr hst _ _ (fun t' ht' => hk t' (OC.inn_get hinn j ht')) ((hget j (by omega)).rep hr)⟩
 ·obtain ⟨ob0, h1, h2⟩ := hcov t ob a ht ha
  obtain ⟨ob0', h1', h2'⟩ := hcov t' ob' a ht' ha'
  exact h.core.mem.disj t ob0 t' ob0' h1 h1' hne a h2 h2'
 ·obtain ⟨ob0, h1, h2⟩ := hcov t ob a ht ha
  exact h.core.mem.notN t ob0 h1 a h2
 ·obtain ⟨ob0, h1, h2⟩ := hcov t ob a ht ha
  exact h.core.dom t ob0 h1 a h2
 ·obtain ⟨h1, h2⟩ := frW_get hs.1 d
  exact BV.Rep.tr hst _ _ (fun t ht => hk t (BV.inn_uses h2 ht)) (h1.rep (h.slot d))
theorem HT.subW {c : Code} {fr' : Fr} {O' : Hp} (hs : Go.Vc.subW fr O fr' O') (h : HT C c fr' O' Q) : HT C c fr O Q := ⟨fun E β a w hst => h.run E β a w (hst.subW hs)⟩
theorem HT.loopW {σ : Type} (F : σ -> Fr) (H : σ -> Hp) (P : σ -> Prop) (μ : σ -> Nat) (s0 : σ) {c : Code} (h0 : P s0) (hs : Go.Vc.subW fr O (F s0) (H s0))
  (h : ∀ s, P s -> HT C c (F s) (H s) (thenQ (fun fr O => ∃ s', P s' /\ μ s' < μ s /\ Go.Vc.subW fr O (F s') (H s')) Q)) : HT C (.loop c) fr O Q := by
 refine ⟨fun E β a w hst => ?_⟩
 refine wpIn_loop_ghost (fun n a w => ∃ s β E', Ev E E' /\ μ s = n /\ P s /\ St C E' β (F s) (H s) a w) (μ s0) ⟨s0, β, E, Ev.refl E, rfl, h0, hst.subW hs⟩ ?_
 rintro n a w ⟨s, β, E1, hE1, rfl, hp, hst⟩
 refine wpIn_mono ((h s hp).run E1 β a w hst) fun e a' w' hq => ?_
 obtain ⟨fr', O', β', E', hE, hq, hst'⟩ := hq
 cases e with
 | normal =>
  obtain ⟨s', hp', hlt, hsub⟩ := hq
  exact ⟨_, hlt, s', β', E', hE1.trans hE, rfl, hp', hst'.subW hsub⟩
 | _ => exact ⟨fr', O', β', E', hE1.trans hE, hq, hst'⟩
def Fr.pick (ks : List Nat) (fr : Fr) : Fr := ks.map fun k => (k, Fr.get fr k)
end
end Go.Vc

namespace Go.Vc
open Go
def PV.lenOK : PV -> Prop
 | .bs l => l.length <= 9223372036854775807
 | .sl n _ _ => n <= 9223372036854775807
 | _ => True
def BV.lenOK : BV -> Prop
 | .p x => x.lenOK
 | .own _ _ n => n <= 9223372036854775807
 | .agg n f => ∀ j, j < n -> (f j).lenOK
 | _ => True
theorem PV.Rep.lenOK {U : Addr -> Prop} {w : World} {x : PV} {u : Value} (h : x.Rep U w u) : x.lenOK := by
 cases x with
 | bs l => exact h.1
 | sl n s f => exact h.1
 | _ => trivial
theorem BV.Rep.lenOK {U : Addr -> Prop} {β : Loc} {O : Hp} {w : World} {x : BV} {u : Value} (h : x.Rep U β O w u) : x.lenOK := by
 cases x with
 | p x => exact PV.Rep.lenOK h
 | own t off n => exact h.1
 | agg n f =>
  obtain ⟨cs, rfl, hs, hc⟩ := h
  exact fun j hj => let ⟨y, _, h2⟩ := hc j hj; PV.Rep.lenOK h2
 | _ => trivial
def argS (xs : List BV) : Fr -> Prop
 | [] => True
 | (d, y) :: r => (∃ x, xs[d]? = some x /\ x.le y) /\ argS xs r
theorem argS_get {xs : List BV} : ∀ {fr : Fr}, argS xs fr -> ∀ d, Fr.get fr d = .dead ∨ ∃ x, xs[d]? = some x /\ x.le (Fr.get fr d)
 | [], _, d => .inl rfl
 | (k, y) :: r, h, d => by
  simp only [Fr.get]
  by_cases hk : k = d
  ·subst hk; rw [if_pos rfl]; exact .inr h.1
  ·rw [if_neg hk]; exact argS_get h.2 d
def retU (pins : List Nat) (slots : List Tmp) (kk : List BV -> Hp -> Prop) (fr : Fr) (O : Hp) : Prop :=
 ∃ (rs : List BV) (O2 : Hp) (σ : Nat -> Nat), kk rs O2 /\ slots.map (Fr.get fr) = rs.map (BV.ren σ) /\ SubH σ O2 O /\ InjH σ O2 /\ InnH O2 /\ BV.innL O2 rs /\ ∀ t, t ∈ pins -> σ t = t
def retQ (pins : List Nat) (slots : List Tmp) (kk : List BV -> Hp -> Prop) : QA := fun e fr O =>
 match e with
 | .normal => ∃ fr' O', subW fr O fr' O' /\ retU pins slots kk fr' O'
 | .ret => ∃ fr' O', subW fr O fr' O' /\ retU pins slots kk fr' O'
 | _ => False
theorem run_results {fn : Func} {slots : List Tmp} (h : fn.results = (slots.map ResultVar.tmp).toArray) (hl : slots.length <= 6) (tmps : Array Value) (P : Program) (w : World) :
  ∃ v, (results fn tmps).run P w = .ok v w /\ ((∃ s, slots = [s] /\ v = tmps.getD s undef) ∨ ((∀ s, slots ≠ [s]) /\ v = .tuple (slots.map (fun s => tmps.getD s undef)).toArray)) := by
 rcases slots with _ | ⟨a, _ | ⟨b, _ | ⟨c, _ | ⟨d, _ | ⟨e, _ | ⟨f, _ | ⟨g, r⟩⟩⟩⟩⟩⟩⟩
 ·exact ⟨.tuple (_ : List Value).toArray, by simp [results, h], .inr ⟨by simp, rfl⟩⟩
 ·exact ⟨tmps.getD a undef, by simp [results, h], .inl ⟨a, rfl, rfl⟩⟩
 ·exact ⟨.tuple (_ : List Value).toArray, by simp [results, h], .inr ⟨by simp, rfl⟩⟩
 ·exact ⟨.tuple (_ : List Value).toArray, by simp [results, h], .inr ⟨by simp, rfl⟩⟩
 ·exact ⟨.tuple (_ : List Value).toArray, by simp [results, h], .inr ⟨by simp, rfl⟩⟩
 ·exact ⟨.tuple (_ : List Value).toArray, by simp [results, h], .inr ⟨by simp, rfl⟩⟩
 ·exact ⟨.tuple (_ : List Value).toArray, by simp [results, h], .inr ⟨by simp, rfl⟩⟩
 ·simp at hl
theorem resV_rep {U : Addr -> Prop} {β : Loc} {O : Hp} {w : World} {rs : List BV} {slots : List Tmp} {tmps : Array Value} {v : Value} (hlen : rs.length = slots.length)
  (hrep : ∀ (j : Nat) (x : BV), rs[j]? = some x -> ∃ u, (slots.map (fun s => tmps.getD s undef))[j]? = some u /\ x.Rep U β O w u)
  (hv : (∃ s, slots = [s] /\ v = tmps.getD s undef) ∨ ((∀ s, slots ≠ [s]) /\ v = .tuple (slots.map (fun s => tmps.getD s undef)).toArray)) : (resV rs).Rep U β O w v := by
 rcases hv with ⟨s, rfl, rfl⟩ | ⟨hne, rfl⟩
 ·match rs, hlen with
  | [x], _ =>
   obtain ⟨u, hu, hr⟩ := hrep 0 x rfl
   simp only [List.map_cons, List.map_nil, List.getElem?_cons_zero, Option.some.injEq] at hu
   subst hu
   exact hr
 ·have : resV rs = .tup rs.length (fun j => rs.getD j .dead) := by
   match rs, hlen with
   | [], _ => rfl
   | [x], hlen =>
    match slots, hlen with
    | [s], _ => exact absurd rfl (hne s)
   | _ :: _ :: _, _ => rfl
  rw [this]
  refine ⟨_, rfl, by simp [hlen], fun j hj => ?_⟩
  obtain ⟨u, hu, hr⟩ := hrep j (rs.getD j .dead) (by simp [List.getD_eq_getElem?_getD, List.getElem?_eq_getElem hj])
  exact ⟨u, by simpa using hu, hr⟩
theorem Turn.trans {T T' : Nat -> Prop} {w w' w'' : World} (h : Turn T w w') (k : Turn T' w' w'') : Turn (fun j => T j ∨ T' j) w w'' :=
 ⟨k.os.trans h.os, k.tape.trans h.tape, k.output.trans h.output, Nat.le_trans h.size k.size, fun j hj hn => (k.same j (Nat.lt_of_lt_of_le hj h.size) fun ht => hn (.inr ht)).trans (h.same j hj fun ht => hn (.inl ht)), fun j hj cs e fr hc => by
  rcases hj with hj | hj
  ·exact h.rows j hj cs e fr hc
  ·exact k.rows j hj cs e fr (h.cells hc)⟩
theorem Turn.refl (w : World) : Turn (fun _ => False) w w := ⟨rfl, rfl, rfl, Nat.le_refl _, fun _ _ _ => rfl, fun _ h => h.elim⟩
theorem Turn.mono {T T' : Nat -> Prop} {w w' : World} (h : Turn T w w') (hT : ∀ k, T k ↔ T' k) : Turn T' w w' := by
 rw [show T' = T from funext fun k => propext (hT k).symm]; exact h
theorem leaves_ok {P : Program} {fn : Func} {tmps : Array Value} {R : Ending -> World -> Prop} : ∀ (Ds : List Nat) (w : World), Ds.Nodup -> (∀ D, D ∈ Ds -> w.heap[D]? = some (.deferred (some []))) ->
  (∀ w', Turn (· ∈ Ds) w w' -> ∃ v, (results fn tmps).run P w' = .ok v w' /\ R (.returned v) w') -> LeavesInM Fence.wide 0 P fn tmps R (Ds.map (fun D => { target := .collected D, args := #[] })) .returning w
 | [], w, _, _, h => h w ((Turn.refl w).mono fun k => by simp)
 | D :: Ds, w, hnd, hD, h => by
  have hn := List.nodup_cons.1 hnd
  have h0 := hD D (by simp)
  refine ⟨by simp, .inl ⟨D, w.putObj D (.deferred none), rfl, run_takeDeferred h0, leaves_ok Ds _ hn.2 (fun D' hD' => ?_) fun w' ht => h w' ?_⟩⟩
  ·rw [World.putObj_heap_other (fun e => hn.1 (by rw [<- e]; exact hD'))]
   exact hD D' (by simp [hD'])
  ·exact ((Turn.put (.deferred none) h0 rfl).trans ht).mono fun k => by simp
theorem callsIn_of_HT {C : Ctx} (hr : C.r = none) {f : FuncId} {fn : Func} {c : Code} {args : Array Value} {w : World} {R : Ending -> World -> Prop} {E : Env} {β : Loc} {fr : Fr} {O : Hp} {Q : QA}
  (hf : C.P.funcs[f]? = some fn) (hb : fn.body = some c) (hQ : ∀ e fr O, Q e fr O -> e = .normal ∨ e = .ret)
  (hst : St C E β fr O { tmps := args ++ Array.replicate (fn.ntmps - args.size) undef, defers := [] } w) (ht : HT C c fr O Q)
  (hend : ∀ (e : Exit) (fr' : Fr) (O' : Hp) (β' : Loc) (E' : Env) (a' : Act) (w' : World) (Ds : List Nat) (w'' : World), Q e fr' O' -> Ev E E' -> St C E' β' fr' O' a' w' -> (∀ D, D ∈ Ds -> (D, Obj.deferred (some [])) ∈ E'.rows /\ E'.w0.heap.size <= D) -> Turn (· ∈ Ds) w' w'' -> ∃ v, (results fn a'.tmps).run C.P w'' = .ok v w'' /\ R (.returned v) w'') : CallsIn Fence.wide 0 C.P f args w R := by
 refine callsIn_of_wp_marks hf hb trivial ?_
 have h1 := ht.run E β _ w hst
 rw [rnd_off hr] at h1
 refine wpIn_mono h1 ?_
 rintro e a' w' ⟨fr', O', β', E', hE, hq, hst'⟩
 have key : LeavesInM Fence.wide 0 C.P fn a'.tmps R a'.defers .returning w' := by
  obtain ⟨Ds, hnd, hds, hrow⟩ := hst'.defers
  rw [hds]
  exact leaves_ok Ds w' hnd (fun D hD => hst'.core.rows _ (hrow D hD).1) fun w'' htn => hend e fr' O' β' E' a' w' Ds w'' hq hE hst' hrow htn
 rcases hQ e fr' O' hq with rfl | rfl
 ·exact key
 ·exact key
theorem calls_of_HT {C : Ctx} (hr : C.r = none) (hit : C.it = false) {f : FuncId} {fn : Func} {c : Code} {args : Array Value} {w : World} {R : Ending -> World -> Prop} {E : Env} {β : Loc} {fr : Fr} {O : Hp} {Q : QA}
  (hf : C.P.funcs[f]? = some fn) (hb : fn.body = some c) (hQ : ∀ e fr O, Q e fr O -> e = .normal ∨ e = .ret)
  (hst : St C E β fr O { tmps := args ++ Array.replicate (fn.ntmps - args.size) undef, defers := [] } w) (ht : HT C c fr O Q)
  (hend : ∀ e fr' O' β' a' w', Q e fr' O' -> St C { E with rows := [] } β' fr' O' a' w' -> ∃ v, (results fn a'.tmps).run C.P w' = .ok v w' /\ R (.returned v) w') : Calls C.P f args w R := by
 refine (callsIn_wide (n := 0)).1 (callsIn_of_HT hr hf hb hQ hst ht ?_)
 rintro e fr' O' β' E' a' w' Ds w'' hq ⟨rs, rfl, _⟩ hst' hrow htn
 have hit' : E.c.it = false := by have := hst.ctx; rw [this]; exact hit
 have hst3 : St C { E with rows := [] } β' fr' O' { a' with defers := [] } w'' :=
  ⟨hst'.ctx, hst'.good, hst'.core.turn htn (fun k hk => (hst'.core.ok.rows _ (hrow k hk).1).2) [] (fun p hp => by cases hp), DefOK.nil _ _, hst'.size,
   fun d => BV.Rep.tr (htn.stab _) _ _ (fun k _ => htn.tag β' O' k) (hst'.slot d), (hst'.xs.stab (htn.stab _)).rows [], fun h => by
    have h' : E.c.it = true := h
    rw [hit'] at h'; cases h'⟩
 exact hend e fr' O' β' { a' with defers := [] } w'' hq hst3
theorem FOK.of {P : Program} {gl : Nat -> Option (Nat × (Nat -> GV))} {ty : TypeId -> Option Ty} (hgood : ∀ T t, ty T = some t -> TyOK P T t) {f : FuncId} {fn : Func} {c : Code} {slots : List Tmp} {nt : Nat} {pins : List Nat} {sp : Spec}
  (hf : P.funcs[f]? = some fn) (hb : fn.body = some c) (hn : fn.ntmps = nt) (hname : (fn.name == "runtime.NumGoroutine") = false) (hres : fn.results = (slots.map ResultVar.tmp).toArray) (hl6 : slots.length <= 6)
  (h : ∀ xs O kk, (∀ (i : Nat) (y : BV), (∃ x, xs[i]? = some x /\ x.le y) -> y.lenOK) -> sp xs O kk -> xs.length <= nt /\ ∃ fr, argS xs fr /\ HT (cx P nt ty gl pins) c fr O (retQ pins slots kk)) : FOK P gl f ⟨pins, sp⟩ := by
 refine ⟨fun args w => ?_, fun N ng β O w xs vals kk hN hng hgl hm hsz hrep hsp => ?_⟩
 ·have hne : ¬ fn.name = "runtime.NumGoroutine" := by simpa using hname
  simp [callFunc, hf, hne, hb]
 ·obtain ⟨hle, fr, harg, ht⟩ := h xs O kk (fun i y ⟨x, hx, hxy⟩ => by
   obtain ⟨u, _, hr⟩ := hrep i x hx
   exact BV.Rep.lenOK (hxy.rep hr)) hsp
  let E : Env := ⟨cx P nt ty gl pins, ng, N, Owns β O, w, β, [], fun s pe => ⟨s, pe, 0, #[], #[], .skip, .skip, 0⟩, []⟩
  have hst : St (cx P nt ty gl pins) E β fr O { tmps := vals ++ Array.replicate (fn.ntmps - vals.size) undef, defers := [] } w := by
   refine ⟨rfl, hgood, ⟨⟨hng, hN, fun g m f hg j hj => ?_, fun p hp => by cases hp⟩, hm, Keep.refl _ _, fun t ob ht a ha => .inl ⟨t, ob, ht, ha⟩, fun t _ => rfl, fun p hp => by cases hp⟩, DefOK.nil _ _, by simp [hn]; omega, fun d => ?_, fun i fr0 hi => by simp [E] at hi, fun h => by simp [E] at h⟩
   ·obtain ⟨h1, h2, h3⟩ := hgl g m f hg j hj
    refine ⟨h1, h2, ?_, h3⟩
    rintro ⟨t, ob, ht, hre, hb, _⟩
    obtain ⟨cs, fr, _, _, _, h4, _⟩ := hm.obj t ob ht hre
    simp at hb
    show False
    have h5 : g < ng := h3
    omega
   ·rcases argS_get harg d with e | ⟨x, hx, hle'⟩
    ·rw [e]; trivial
    ·obtain ⟨u, hu, hr⟩ := hrep d x hx
     have hget : (vals ++ Array.replicate (fn.ntmps - vals.size) undef).getD d undef = u := by
      have hlt : d < vals.size := (Array.getElem?_eq_some_iff.1 hu).1
      rw [Array.getD_eq_getD_getElem?, Array.getElem?_append_left hlt, hu]
      rfl
     show (Fr.get fr d).Rep _ _ _ w ((vals ++ Array.replicate (fn.ntmps - vals.size) undef).getD d undef)
     rw [hget]
     exact hle'.rep hr
  refine calls_of_HT (C := cx P nt ty gl pins) rfl rfl hf hb (fun e fr O hq => by cases e <;> first | exact .inl rfl | exact .inr rfl | exact hq.elim) hst ht ?_
  intro e fr' O' β' a' w' hq hst'
  have hend : ∀ (fr' : Fr) (O' : Hp), St (cx P nt ty gl pins) E β' fr' O' a' w' -> retU pins slots kk fr' O' -> ∃ v, (results fn a'.tmps).run P w' = .ok v w' /\ FPost N ng β O w pins kk (.returned v) w' := by
   rintro fr' O' hst' ⟨rs, O2, σ, hk, hmap, hsub, hinj, hinn, hinx, hpin⟩
   obtain ⟨v, hv, hvv⟩ := run_results (P := P) (w := w') hres hl6 a'.tmps
   have hU : ∀ a, Un N (fun t => β' (σ t)) O2 a -> Un N β' O' a := by
    rintro a (h1 | ⟨t, ob, h1, h2⟩)
    ·exact .inl h1
    ·exact .inr ⟨σ t, _, hsub t ob h1, OB.cov_ren.2 h2⟩
   refine ⟨v, hv, v, fun t => β' (σ t), O2, rs, rfl, hk, ?_, hst'.core.keep, fun t ht => ?_, fun t ob a ht ha => ?_, ?_⟩
   ·have hm' := hst'.core.mem
    refine ⟨fun t ob ht => OB.wf_ren.1 (hm'.wf _ _ (hsub t ob ht)), fun t ob ht => by have := hm'.pos _ _ (hsub t ob ht); exact this, fun t ob ht hre => by have := hm'.obj0 _ _ (hsub t ob ht) hre; exact this, fun t ob ht hre => ?_, fun t ob t' ob' ht ht' hne a ha ha' => ?_, fun t ob ht a ha => ?_⟩
    ·obtain ⟨cs, fr, h1, h2, h3, h4, h5⟩ := hm'.obj _ _ (hsub t ob ht) hre
     refine ⟨cs, fr, h1, h2, h3, h4, fun j hj => ?_⟩
     obtain ⟨u, hu, hr⟩ := h5 j hj
     refine ⟨u, hu, BV.Rep.unren hU hsub _ _ (OC.inn_getI (hinn t ob ht) j) ?_⟩
     rw [<- OC.get_ren]; exact hr
    ·exact hm'.disj _ _ _ _ (hsub t ob ht) (hsub t' ob' ht') (fun e => hne (hinj t ob t' ob' ht ht' e)) a (OB.cov_ren.2 ha) (OB.cov_ren.2 ha')
    ·exact hm'.notN _ _ (hsub t ob ht) a (OB.cov_ren.2 ha)
   ·show β' (σ t) = β t
    rw [hpin t ht]
    exact hst'.core.pins t ht
   ·exact hst'.core.dom _ _ (hsub t ob ht) a (OB.cov_ren.2 ha)
   ·refine resV_rep (slots := slots) (tmps := a'.tmps) (by simpa using (congrArg List.length hmap).symm) (fun j x hj => ?_) hvv
    have h1 : (slots.map (Fr.get fr'))[j]? = some (x.ren σ) := by rw [hmap, List.getElem?_map, hj]; rfl
    rw [List.getElem?_map] at h1
    obtain ⟨s, hs, h2⟩ := Option.map_eq_some_iff.1 h1
    refine ⟨a'.tmps.getD s undef, by rw [List.getElem?_map, hs]; rfl, ?_⟩
    refine BV.Rep.unren hU hsub _ _ (BV.innL_mem hinx x (List.mem_of_getElem? hj)) ?_
    rw [<- h2]; exact hst'.slot s
  cases e with
  | normal => obtain ⟨fr1, O1, h1, h2⟩ := hq; exact hend fr1 O1 (hst'.subW h1) h2
  | ret => obtain ⟨fr1, O1, h1, h2⟩ := hq; exact hend fr1 O1 (hst'.subW h1) h2
  | _ => exact hq.elim
def sameV : Value -> Value -> Bool
 | .int k a, .int k' b => decide (k = k') && decide (a = b)
 | .bool a, .bool b => a == b
 | .slice none 0 0, .slice none 0 0 => true
 | _, _ => false
theorem sameV_eq {a b : Value} (h : sameV a b = true) : a = b := by
 unfold sameV at h
 split at h
 ·simp at h; rw [h.1, h.2]
 ·simp at h; rw [h]
 ·rfl
 ·cases h
def zF (l : List Value) : Nat -> Value :=
 match l with
 | [] => fun _ => undef
 | v :: r => if r.all (fun x => sameV x v) then fun _ => v else fun j => (v :: r).getD j undef
theorem zF_spec (l : List Value) : ∀ j, j < l.length -> l[j]? = some (zF l j) := by
 intro j hj
 cases l with
 | nil => simp at hj
 | cons v r =>
  unfold zF
  simp only
  split
  ·rename_i h
   cases j with
   | zero => rfl
   | succ j =>
    have hj' : j < r.length := by simpa using hj
    have := List.all_eq_true.1 h (r[j]) (List.getElem_mem hj')
    simp only [List.getElem?_cons_succ, List.getElem?_eq_getElem hj', sameV_eq this]
  ·simp [List.getD_eq_getElem?_getD, List.getElem?_eq_getElem hj]
def tyD (P : Program) (T : TypeId) : Option TyD :=
 match P.underlying T with
 | some (.int k) => some (.int k)
 | some .bool => some .bool
 | some .string => some .string
 | some (.slice e) => some (.slice e)
 | some (.array n e) => some (.array n e)
 | some (.struct fs) => some (.struct (fs.toList.map fun f => (f.offset, f.type)))
 | some (.pointer e) => some (.pointer e)
 | some (.func _ _ _) => some .func
 | some (.float k) => some (.float k)
 | some (.complex k) => some (.complex k)
 | _ => none
def zOf (i : TypeInfo) : Option (Nat -> Value) :=
 match i.zero with
 | some z => if z.cells.toList.length = i.size /\ z.cells.toList.all (fun v => v.oneCell') = true then some (zF z.cells.toList) else none
 | none => none
def tyOf (P : Program) (T : TypeId) : Option Ty :=
 match P.info? T, tyD P T with
 | some i, some d => some ⟨d, i.size, i.bytes, zOf i⟩
 | _, _ => none
theorem tyOf_ok (P : Program) : ∀ T t, tyOf P T = some t -> TyOK P T t := by
 intro T t h
 unfold tyOf at h
 split at h
 case h_2 => cases h
 rename_i i d hi hd
 cases h
 refine ⟨⟨i, hi, rfl, rfl, fun f hf => ?_⟩, ?_⟩
 ·unfold zOf at hf
  split at hf
  case h_2 => cases hf
  rename_i z hz
  split at hf
  case isFalse => cases hf
  rename_i hc
  obtain ⟨hc1, hc2⟩ := hc
  cases hf
  refine ⟨⟨z, hz, ?_⟩, fun j hj => ?_⟩
  ·apply List.ext_getElem?
   intro j
   rcases Nat.lt_or_ge j i.size with hj | hj
   ·rw [zF_spec _ j (by omega), List.getElem?_map, List.getElem?_range hj]; rfl
   ·rw [List.getElem?_eq_none (by rw [hc1]; exact hj), List.getElem?_eq_none (by simpa using hj)]
  ·have h1 := zF_spec z.cells.toList j (by rw [hc1]; exact hj)
   exact List.all_eq_true.1 hc2 _ (List.mem_of_getElem? h1)
 ·unfold tyD at hd
  split at hd <;> cases hd <;> first | assumption | exact ⟨_, by assumption, rfl⟩ | exact ⟨_, _, _, by assumption⟩
section
variable {C : Ctx} {fr : Fr} {O : Hp} {Q : QA}
end
end Go.Vc

namespace Go.Vc
open Go
def ancM (ops : List Oper) : List Nat :=
 ops.foldl (fun acc o => acc ++ [o.after.toList.foldl (fun m e => if Region.binds .any e then m ||| (2 ^ e.on ||| acc.getD e.on 0) else m) 0]) []
def ancs (ops : List Oper) : List (List Nat) := (ancM ops).map fun m => (List.range ops.length).filter fun j => m.testBit j
def okPair (ops : List Oper) (A : List (List Nat)) (i j : Nat) : Bool :=
 match ops[i]?, ops[j]? with
 | some o, some p => match p.dst with
  | some d => if decide (j = i) then true
   else if (o.looksAt ops.toArray).contains d || o.dst == some d then (if decide (j < i) then (A.getD i []).contains j else (A.getD j []).contains i)
   else true
  | none => true
 | _, _ => true
def ancOK (ops : List Oper) (A : List (List Nat)) : Bool :=
 (List.range ops.length).all fun i => match ops[i]? with
  | none => true
  | some o => (A.getD i []).all fun j => o.after.any fun e => Region.binds .any e && decide (e.on < i) && (e.on == j || (A.getD e.on []).contains j)
def okDraw (ops : List Oper) : Bool :=
 let A := ancs ops
 ancOK ops A && (List.range ops.length).all fun i => match ops[i]? with
  | none => true
  | some o =>
   (o.after.all fun e => !Region.binds .any e || decide (e.on < i)) &&
   (List.range ops.length).all fun j => okPair ops A i j
def DetP (F : (BV -> Prop) -> Prop) : Prop := ∀ kk, F kk -> ∃ x, kk x /\ ∀ kk' : BV -> Prop, kk' x -> F kk'
theorem det_unA {op : UnOp} {x : BV} : DetP (unA op x) := by
 intro kk h
 unfold unA at h
 split at h <;> first | exact h.elim | exact ⟨_, h, fun kk' hk => hk⟩
theorem det_convA {C : Ctx} {O : Hp} {s d : TypeId} {x : BV} : DetP (convA C O s d x) := by
 intro kk h
 unfold convA at h
 split at h
 ·rename_i hd
  obtain ⟨h0, h⟩ := h
  split at h
  ·split at h
   ·rename_i r hr
    exact ⟨_, h, fun kk' hk => by unfold convA; simp only [hd, hr]; exact ⟨h0, hk⟩⟩
   ·exact h.elim
  ·exact h.elim
 ·rename_i hd
  split at h
  ·exact ⟨_, h.2, fun kk' hk => by unfold convA; simp only [hd]; exact ⟨h.1, hk⟩⟩
  ·exact ⟨_, h.2, fun kk' hk => by unfold convA; simp only [hd]; exact ⟨h.1, hk⟩⟩
  ·exact ⟨_, h.2, fun kk' hk => by unfold convA; simp only [hd]; exact ⟨h.1, hk⟩⟩
  ·split at h
   ·rename_i hob
    split at h
    ·rename_i hl
     exact ⟨_, h.2, fun kk' hk => by unfold convA; simp only [hd, hob, hl]; exact ⟨h.1, hk⟩⟩
    ·exact h.elim
   ·exact h.elim
  ·exact h.elim
 ·rename_i hd
  obtain ⟨h0, h⟩ := h
  split at h
  ·exact ⟨_, h, fun kk' hk => by unfold convA; simp only [hd]; exact ⟨h0, hk⟩⟩
  ·exact h.elim
 ·exact h.elim
theorem det_extA {x : BV} {i : Nat} : DetP (extA x i) := by
 intro kk h
 unfold extA at h
 split at h
 ·exact ⟨_, h.2, fun kk' hk => ⟨h.1, hk⟩⟩
 ·exact h.elim
theorem det_lenA {C : Ctx} {T : TypeId} {x : BV} : DetP (lenA C T x) := by
 intro kk h
 unfold lenA at h
 split at h
 ·rename_i hT
  split at h
  ·rename_i hn
   exact ⟨_, h, fun kk' hk => by unfold lenA; simp only [hT, hn]; exact hk⟩
  ·exact h.elim
 ·rename_i hT
  split at h
  ·exact ⟨_, h, fun kk' hk => by unfold lenA; simp only [hT]; exact hk⟩
  ·exact h.elim
 ·rename_i hT
  exact ⟨_, h, fun kk' hk => by unfold lenA; simp only [hT]; exact hk⟩
 ·exact h.elim
theorem det_loadA {C : Ctx} {O : Hp} {T : TypeId} {x : BV} : DetP (loadA C O T x) := by
 intro kk h
 unfold loadA at h
 split at h
 ·exact h.elim
 ·rename_i ty hT
  split at h
  ·rename_i hd; exact ⟨_, h.2, fun kk' hk => by unfold loadA; simp only [hT, hd]; exact ⟨h.1, hk⟩⟩
  ·rename_i hd
   split at h
   ·rename_i hob
    split at h
    ·rename_i hf; exact ⟨_, h.2, fun kk' hk => by unfold loadA; simp only [hT, hd, hob, hf]; exact ⟨h.1, hk⟩⟩
    ·rename_i hf; exact ⟨_, h.2, fun kk' hk => by unfold loadA; simp only [hT, hd, hob, hf]; exact ⟨h.1, hk⟩⟩
   ·exact h.elim
  ·rename_i hd; exact ⟨_, h.2, fun kk' hk => by unfold loadA; simp only [hT, hd]; exact ⟨h.1, hk⟩⟩
  ·rename_i hd; exact ⟨_, h, fun kk' hk => by unfold loadA; simp only [hT, hd]; exact hk⟩
  ·rename_i hd
   split at h
   ·rename_i hob; exact ⟨_, h.2, fun kk' hk => by unfold loadA; simp only [hT, hd, hob]; exact ⟨h.1, hk⟩⟩
   ·exact h.elim
  ·exact h.elim
theorem det_ixA {C : Ctx} {O : Hp} {T : TypeId} {x i : BV} : DetP (ixA C O T x i) := by
 intro kk h
 unfold ixA at h
 split at h
 ·exact h.elim
 ·rename_i hi
  split at h
  ·rename_i hT
   split at h
   ·exact h.elim
   ·rename_i he
    split at h
    ·exact ⟨_, h.2.2.2, fun kk' hk => by unfold ixA; simp only [hi, hT, he]; exact ⟨h.1, h.2.1, h.2.2.1, hk⟩⟩
    ·exact ⟨_, h.2.2, fun kk' hk => by unfold ixA; simp only [hi, hT, he]; exact ⟨h.1, h.2.1, hk⟩⟩
    ·split at h
     ·rename_i hob; exact ⟨_, h.2.2, fun kk' hk => by unfold ixA; simp only [hi, hT, he, hob]; exact ⟨h.1, h.2.1, hk⟩⟩
     ·exact h.elim
    ·exact h.elim
  ·rename_i hT
   split at h
   ·exact h.elim
   ·rename_i he
    split at h
    ·exact ⟨_, h.2.2, fun kk' hk => by unfold ixA; simp only [hi, hT, he]; exact ⟨h.1, h.2.1, hk⟩⟩
    ·split at h
     ·rename_i hob; exact ⟨_, h.2.2, fun kk' hk => by unfold ixA; simp only [hi, hT, he, hob]; exact ⟨h.1, h.2.1, hk⟩⟩
     ·exact h.elim
    ·exact h.elim
  ·exact h.elim
theorem det_partA {C : Ctx} {n : Nat} {f : Nat -> PV} {T : TypeId} {off : Nat} : DetP (partA C n f T off) := by
 intro kk h
 unfold partA at h
 split at h
 ·exact h.elim
 ·rename_i he; exact ⟨_, h.2, fun kk' hk => by unfold partA; simp only [he]; exact ⟨h.1, hk⟩⟩
 ·rename_i he; exact ⟨_, h.2, fun kk' hk => by unfold partA; simp only [he]; exact ⟨h.1, hk⟩⟩
theorem det_partB {C : Ctx} {n : Nat} {f : Nat -> BV} {T : TypeId} {off : Nat} : DetP (partB C n f T off) := by
 intro kk h
 unfold partB at h
 split at h
 ·exact h.elim
 ·rename_i he; exact ⟨_, h.2, fun kk' hk => by unfold partB; simp only [he]; exact ⟨h.1, hk⟩⟩
 ·rename_i he; exact ⟨_, h.2, fun kk' hk => by unfold partB; simp only [he]; exact ⟨h.1, hk⟩⟩
theorem det_fieldA {C : Ctx} {T : TypeId} {x : BV} {i : Nat} : DetP (fun kk => fieldA C T x i kk) := by
 intro kk h
 simp only [fieldA] at h
 split at h
 ·rename_i hT
  split at h
  ·rename_i hi
   obtain ⟨y, h1, h2⟩ := det_partA _ h
   exact ⟨y, h1, fun kk' hk => by simp only [fieldA, hT, hi]; exact h2 _ hk⟩
  ·exact h.elim
 ·rename_i hT
  split at h
  ·rename_i hi
   obtain ⟨y, h1, h2⟩ := det_partB _ h
   exact ⟨y, h1, fun kk' hk => by simp only [fieldA, hT, hi]; exact h2 _ hk⟩
  ·exact h.elim
 ·exact h.elim
theorem det_indexA {C : Ctx} {T : TypeId} {x i : BV} : DetP (indexA C T x i) := by
 intro kk h
 unfold indexA at h
 split at h
 ·exact h.elim
 ·rename_i hi
  split at h
  ·rename_i hT
   split at h
   ·rename_i he
    obtain ⟨y, h1, h2⟩ := det_partA _ h.2
    exact ⟨y, h1, fun kk' hk => by unfold indexA; simp only [hi, hT, he]; exact ⟨h.1, h2 _ hk⟩⟩
   ·exact h.elim
  ·rename_i hT
   exact ⟨_, h.2, fun kk' hk => by unfold indexA; simp only [hi, hT]; exact ⟨h.1, hk⟩⟩
  ·exact h.elim
theorem det_fadA {C : Ctx} {O : Hp} {T : TypeId} {x : BV} {i : Nat} : DetP (fun kk => fadA C O T x i kk) := by
 intro kk h
 simp only [fadA] at h
 split at h
 ·rename_i hT
  split at h
  ·rename_i hi
   split at h
   ·rename_i he
    obtain ⟨h0, h⟩ := h
    split at h
    ·exact ⟨_, h.2, fun kk' hk => by simp only [fadA, hT, hi, he]; exact ⟨h0, h.1, hk⟩⟩
    ·split at h
     ·rename_i hob; exact ⟨_, h.2, fun kk' hk => by simp only [fadA, hT, hi, he, hob]; exact ⟨h0, h.1, hk⟩⟩
     ·exact h.elim
    ·exact h.elim
   ·exact h.elim
  ·exact h.elim
 ·exact h.elim
theorem det_nilChkA {x : BV} : DetP (nilChkA x) := by
 intro kk h
 unfold nilChkA at h
 split at h <;> first | exact h.elim | exact ⟨_, h, fun kk' hk => hk⟩
theorem det_sapA {C : Ctx} {O : Hp} {T : TypeId} {x : BV} : DetP (sapA C O T x) := by
 intro kk h
 unfold sapA at h
 split at h
 ·rename_i hT
  split at h
  ·exact ⟨_, h.2, fun kk' hk => by unfold sapA; simp only [hT]; exact ⟨h.1, hk⟩⟩
  ·split at h
   ·rename_i hO
    exact ⟨_, h.2, fun kk' hk => by unfold sapA; simp only [hT, hO]; exact ⟨h.1, hk⟩⟩
   ·exact h.elim
  ·exact h.elim
 ·exact h.elim
theorem det_cutA {C : Ctx} {fr : Fr} {O : Hp} {T : TypeId} {x : BV} {lo hi mx : Option Operand} : DetP (cutA C fr O T x lo hi mx) := by
 intro kk h
 unfold cutA at h
 split at h
 ·rename_i hT
  split at h
  ·rename_i he hn
   split at h
   ·rename_i hl hh
    obtain ⟨h0, h1, h⟩ := h
    split at h
    ·exact ⟨_, h.2, fun kk' hk => by unfold cutA; simp only [hT, he, hn, hl, hh]; exact ⟨h0, h1, h.1, hk⟩⟩
    ·exact ⟨_, h.2, fun kk' hk => by unfold cutA; simp only [hT, he, hn, hl, hh]; exact ⟨h0, h1, h.1, hk⟩⟩
    ·split at h
     ·rename_i hob; exact ⟨_, h.2, fun kk' hk => by unfold cutA; simp only [hT, he, hn, hl, hh, hob]; exact ⟨h0, h1, h.1, hk⟩⟩
     ·exact h.elim
    ·exact ⟨_, h, fun kk' hk => by unfold cutA; simp only [hT, he, hn, hl, hh]; exact ⟨h0, h1, hk⟩⟩
    ·exact h.elim
   ·exact h.elim
  ·exact h.elim
 ·rename_i hT
  obtain ⟨h0, h⟩ := h
  split at h
  ·split at h
   ·rename_i hl hh
    exact ⟨_, h.2, fun kk' hk => by unfold cutA; simp only [hT, hl, hh]; exact ⟨h0, h.1, hk⟩⟩
   ·exact h.elim
  ·exact h.elim
 ·rename_i hT
  obtain ⟨h0, h⟩ := h
  split at h
  ·rename_i hl hh
   obtain ⟨hb, h⟩ := h
   split at h
   ·split at h
    ·rename_i he hob
     obtain ⟨h1, h2, h3, hk0⟩ := h
     exact ⟨_, hk0, fun kk' hk => by unfold cutA; simp only [hT, hl, hh, he, hob]; exact ⟨h0, hb, h1, h2, h3, hk⟩⟩
    ·exact h.elim
   ·exact h.elim
  ·exact h.elim
 ·exact h.elim
def nilVC : BV -> Option (Prop × Bool)
 | .p (.v (.slice none 0 0)) => some (True, true)
 | .p (.bs l) => some (0 < l.length, false)
 | .p (.sl n s _) => some (0 < n * s, false)
 | .own _ _ n => some (0 < n, false)
 | _ => none
theorem nilVC_Q {x : BV} {vc : Prop} {b : Bool} {kk : Bool -> Prop} (h : nilVC x = some (vc, b)) (hvc : vc) (hk : kk b) : nilQ x kk := by
 unfold nilVC at h
 split at h <;> cases h
 ·exact hk
 ·exact ⟨fun h0 => by omega, hk⟩
 ·exact ⟨fun h0 => by omega, hk⟩
 ·exact ⟨fun h0 => by omega, hk⟩
def eqD (C : Ctx) (T : TypeId) (x y : BV) : Option (Prop × Bool) :=
 match ((C.ty T).map (·.d) : Option TyD) with
 | some .bool => match x, y with
  | .p (.v (.bool a)), .p (.v (.bool b)) => some (True, a == b)
  | _, _ => none
 | some (.slice _) => match y with
  | .p (.v (.slice none 0 0)) => nilVC x
  | _ => none
 | some (.array n e) => arrVC C T n e x y
 | some (.pointer _) => (ptrQ x y).map fun b => (True, b)
 | _ => none
theorem eqD_B {C : Ctx} {T : TypeId} {x y : BV} {vc : Prop} {b : Bool} {kk : Bool -> Prop} (h : eqD C T x y = some (vc, b)) (hvc : vc) (hk : kk b) : eqB C T x y kk := by
 unfold eqD at h
 unfold eqB
 split at h
 ·rename_i hT
  simp only [hT]
  split at h
  ·cases h; exact hk
  ·cases h
 ·rename_i hT
  simp only [hT]
  split at h
  ·exact nilVC_Q h hvc hk
  ·cases h
 ·rename_i hT
  simp only [hT, h]
  exact ⟨hvc, hk⟩
 ·rename_i hT
  simp only [hT]
  obtain ⟨b', hb, e⟩ := Option.map_eq_some_iff.1 h
  cases e
  simp only [hb]
  exact hk
 ·cases h
def eqDD (C : Ctx) (op : BinOp) (T : TypeId) (x y : BV) (kk : BV -> Prop) : Prop :=
 match op with
 | .eql => match eqD C T x y with
  | some (vc, b) => vc /\ kk (.p (.v (.bool b)))
  | none => False
 | .neq => match eqD C T x y with
  | some (vc, b) => vc /\ kk (.p (.v (.bool !b)))
  | none => False
 | _ => False
def binPP (op : BinOp) (x y : BV) : Option (Prop × PV) :=
 match x, y with
 | .p a, .p b => binP op a b
 | _, _ => none
def binD (C : Ctx) (op : BinOp) (T : TypeId) (x y : BV) (kk : BV -> Prop) : Prop :=
 match binPP op x y with
 | some (vc, r) => vc /\ kk (.p r)
 | none => eqDD C op T x y kk
theorem det_eqDD {C : Ctx} {op : BinOp} {T : TypeId} {x y : BV} : DetP (eqDD C op T x y) := by
 intro kk h
 unfold eqDD at h
 split at h
 ·split at h
  ·rename_i he; exact ⟨_, h.2, fun kk' hk => by unfold eqDD; simp only [he]; exact ⟨h.1, hk⟩⟩
  ·exact h.elim
 ·split at h
  ·rename_i he; exact ⟨_, h.2, fun kk' hk => by unfold eqDD; simp only [he]; exact ⟨h.1, hk⟩⟩
  ·exact h.elim
 ·exact h.elim
theorem det_binD {C : Ctx} {op : BinOp} {T : TypeId} {x y : BV} : DetP (binD C op T x y) := by
 intro kk h
 unfold binD at h
 split at h
 ·rename_i hb; exact ⟨_, h.2, fun kk' hk => by unfold binD; simp only [hb]; exact ⟨h.1, hk⟩⟩
 ·rename_i hb
  obtain ⟨z, h1, h2⟩ := det_eqDD _ h
  exact ⟨z, h1, fun kk' hk => by unfold binD; simp only [hb]; exact h2 _ hk⟩
theorem eqDD_A {C : Ctx} {op : BinOp} {T : TypeId} {x y : BV} {kk : BV -> Prop} (h : eqDD C op T x y kk) : eqA C op T x y kk := by
 unfold eqDD at h
 split at h
 ·split at h
  ·rename_i he; exact eqD_B (kk := fun b => kk (.p (.v (.bool b)))) he h.1 h.2
  ·exact h.elim
 ·split at h
  ·rename_i he; exact eqD_B (kk := fun b => kk (.p (.v (.bool !b)))) he h.1 h.2
  ·exact h.elim
 ·exact h.elim
theorem binD_A {C : Ctx} {op : BinOp} {T : TypeId} {x y : BV} {kk : BV -> Prop} (h : binD C op T x y kk) : binA C op T x y kk := by
 unfold binD at h
 unfold binA
 split
 ·rename_i a b
  simp only [binPP] at h
  cases hb : binP op a b with
  | some vr => simp only [hb] at h ⊢; exact h
  | none => simp only [hb] at h ⊢; exact eqDD_A h
 ·rename_i hn
  have : binPP op x y = none := by
   unfold binPP
   split
   ·rename_i a b; exact (hn a b rfl rfl).elim
   ·rfl
  rw [this] at h
  exact eqDD_A h
def pickI (b : Bool) (x y : BV) (kk : BV -> Prop) : Prop :=
 match x, y with
 | .p (.v (.bool p)), .p (.v (.bool q)) => kk (.p (.v (.bool (if b then p else q))))
 | _, _ => (b = true -> kk x) /\ (b = false -> kk y)
def pickD (c x y : BV) (kk : BV -> Prop) : Prop :=
 match c with
 | .p (.v (.bool b)) => pickI b x y kk
 | _ => False
theorem pickI_one {b : Bool} {x y : BV} (h : ∀ p q, x = .p (.v (.bool p)) -> y = .p (.v (.bool q)) -> False) (kk : BV -> Prop) : pickI b x y kk = ((b = true -> kk x) /\ (b = false -> kk y)) := by
 unfold pickI
 split
 ·rename_i p q; exact (h p q rfl rfl).elim
 ·rfl
theorem det_pickD {c x y : BV} : DetP (pickD c x y) := by
 intro kk h
 unfold pickD at h
 split at h
 case h_2 => exact h.elim
 rename_i b
 show ∃ z, kk z /\ ∀ kk' : BV -> Prop, kk' z -> pickI b x y kk'
 by_cases hb : ∃ p q, x = .p (.v (.bool p)) /\ y = .p (.v (.bool q))
 ·obtain ⟨p, q, rfl, rfl⟩ := hb
  exact ⟨_, h, fun kk' hk => hk⟩
 ·have hn : ∀ p q, x = .p (.v (.bool p)) -> y = .p (.v (.bool q)) -> False := fun p q e1 e2 => hb ⟨p, q, e1, e2⟩
  rw [pickI_one hn] at h
  cases b with
  | true => exact ⟨x, h.1 rfl, fun kk' hk => by rw [pickI_one hn]; exact ⟨fun _ => hk, fun e => by cases e⟩⟩
  | false => exact ⟨y, h.2 rfl, fun kk' hk => by rw [pickI_one hn]; exact ⟨fun e => (by cases e), fun _ => hk⟩⟩
theorem pickD_A {c x y : BV} {kk : BV -> Prop} (h : pickD c x y kk) : pickA c (kk x) (kk y) := by
 unfold pickD at h
 unfold pickA
 split at h
 case h_2 => exact h.elim
 rename_i b
 show (b = true -> kk x) /\ (b = false -> kk y)
 unfold pickI at h
 split at h
 ·rename_i p q
  refine ⟨fun e => ?_, fun e => ?_⟩ <;> subst e <;> simpa using h
 ·exact h
def SpDet (sp : Spec) : Prop := ∀ xs O kk, sp xs O kk -> ∃ rs O2, kk rs O2 /\ ∀ kk' : List BV -> Hp -> Prop, kk' rs O2 -> sp xs O kk'
def callP (C : Ctx) (S : FuncId -> Option Sp) (fr : Fr) (O : Hp) (x : BV) (args : List Operand) (kk : BV -> Prop) : Prop :=
 match x with
 | .clo f [] => match S f with
  | some s => s.pins = [] /\ bareL (lendL C fr O args) /\ s.sp (lendL C fr O args) [] fun rs O2 => (bareA C fr args ∨ ((resV rs).scal /\ O2.scal)) /\ pinL (fresh O) C.pins /\ kk (lendR O2 (resV rs))
  | none => False
 | _ => False
def PureOK (C : Ctx) (o : Oper) (fr : Fr) (O : Hp) (v : BV) : Prop :=
 ∀ (E : Env) (β : Loc) (a : Act) (w : World), St C E β fr O a w -> ∀ (K : Act -> World -> Prop) (Q : Exit -> Act -> World -> Prop),
  (∀ β' w' u, St C E β' fr O a w' -> v.Rep (Un E.N β' O) β' O w' u -> K (a.put o.dst u) w') -> o.wp C.P a w K Q
theorem OpOK.pure {C : Ctx} {o : Oper} {fr : Fr} {O : Hp} {v : BV} (h : OpOK C o fr O fun fr1 x O1 => fr1 = fr /\ O1 = O /\ x = v) : PureOK C o fr O v := by
 intro E β a w hst K Q hK
 refine h E β a w hst K Q ?_
 rintro fr' x O' β' w' u ⟨rfl, rfl, rfl⟩ hst' hx _
 exact hK β' w' u hst' hx
theorem callP_pure {C : Ctx} {S : FuncId -> Option Sp} (hS : ∀ f s, S f = some s -> FOK C.P C.gl f s) (hD : ∀ f s, S f = some s -> SpDet s.sp) {o : Oper} {x : Operand} {args : Array Operand} {ats : Array TypeId} (ho : o.op = .call { callee := .value x, args, argTypes := ats })
  {fr : Fr} {O : Hp} {kk : BV -> Prop} (h : callP C S fr O (Fr.ev C fr x) args.toList kk) :
  ∃ v, kk v /\ ∀ fr', Fr.ev C fr' x = Fr.ev C fr x -> (∀ y, y ∈ args.toList -> Fr.ev C fr' y = Fr.ev C fr y) -> PureOK C o fr' O v := by
 unfold callP at h
 split at h
 case h_2 => exact h.elim
 rename_i f hx
 split at h
 case h_2 => exact h.elim
 rename_i s hs
 obtain ⟨hpins, hb, hsp⟩ := h
 obtain ⟨rs, O2, ⟨hcond, hpin, hk⟩, hdet⟩ := hD f s hs _ _ _ hsp
 refine ⟨_, hk, fun fr' hfx hfa => ?_⟩
 have hL := lendL_congr (O := O) hfa
 obtain ⟨hrun1, hcall⟩ := hS f s hs
 intro E β a w hst K Q hK
 have hxr := hst.ev x
 rw [hfx, hx] at hxr
 obtain ⟨vs, ex, hvs, _⟩ := hxr
 have hvs0 : vs = #[] := Array.eq_empty_of_size_eq_zero (by simpa using hvs)
 subst hvs0
 have hrun : (execOp a.eval o).run C.P w = .ok (.enter f (args.map a.eval)) w := by
  simp only [execOp, ho, resolve, Deferred.ofValue, ex, pure_bind, invoke]
  rw [show (#[] ++ args.map a.eval ++ #[] : Array Value) = args.map a.eval from by simp]
  exact hrun1 _ _
 unfold Oper.wp
 rw [hrun]
 show Calls C.P f _ w _
 have hlt := fresh_lt O
 let N' : Addr -> Prop := fun a => E.N a ∨ ∃ k ob, Hp.get O k = some ob /\ ob.cov (β k) a /\ k ∉ tagsL C fr' args.toList
 have hN'U : ∀ a, N' a -> Un E.N β O a := by
  rintro a (h1 | ⟨k, ob, h1, h2, _⟩)
  ·exact .inl h1
  ·exact .inr ⟨k, ob, h1, h2⟩
 have hgl : GlOK C.gl N' E.ng w := fun g m f hg j hj => ⟨(hst.glOK g m f hg j hj).1, fun h => (hst.glOK g m f hg j hj).2.1 (hN'U _ h), (hst.glOK g m f hg j hj).2.2⟩
 obtain ⟨hlen, hget⟩ := lendL_get (C := C) (fr := fr') (O := O) (l := args.toList)
 have hrep : ∀ (i : Nat) (y : BV), (lendL C fr O args.toList)[i]? = some y -> ∃ u, (args.map a.eval)[i]? = some u /\ y.Rep N' noLoc [] w u := by
  intro i y hy
  have hyb := bareL_spec hb i y hy
  rw [<- hL] at hy
  obtain ⟨z, hz, rfl⟩ := hget i y hy
  refine ⟨a.eval z, by rw [Array.getElem?_map, <- Array.getElem?_toList, hz]; rfl, ?_⟩
  have hzr := hst.ev z
  have hzm : z ∈ args.toList := List.mem_of_getElem? hz
  cases hev : Fr.ev C fr' z with
  | own t off n =>
   rw [hev] at hzr
   simp only [lendV]
   cases ht : Hp.get O t with
   | none => trivial
   | some ob =>
    refine hst.core.mem.frozen ht hzr (fun b hb => ?_) (.inl hN'U)
    rintro (h1 | ⟨k, ob', h1, h2, h3⟩)
    ·exact hst.core.mem.notN t ob ht b hb h1
    ·exact hst.core.mem.disj t ob k ob' ht h1 (fun e => h3 (e ▸ tagsL_mem hzm hev)) b hb h2
  | _ =>
   rw [hev] at hzr hyb
   exact BV.Rep.tr (fun b y h1 h2 => ⟨fun h3 => h1 (hN'U b h3), h2⟩) _ _ (fun t ht => absurd ht (BV.bare_uses hyb t)) hzr
 have hUn0 : ∀ b, Un N' noLoc [] b -> N' b := by
  rintro b (h1 | ⟨t, ob, h1, _⟩)
  ·exact h1
  ·simp [Hp.get] at h1
 refine Calls.mono (hcall N' E.ng noLoc [] w (lendL C fr O args.toList) (args.map a.eval) (fun rs' O2' => rs' = rs /\ O2' = O2) (fun a ha => Un.of_lt hst.core (hN'U a ha)) (Nat.le_trans hst.core.ok.ngs hst.core.keep.size) hgl (Mem.nil _ _ _ _) (by rw [<- hL, hlen]; simp)
  (fun i y hy => let ⟨u, h1, h2⟩ := hrep i y hy; ⟨u, h1, BV.Rep.memU y u hUn0 h2⟩) (hdet _ ⟨rfl, rfl⟩)) ?_
 rintro e w' ⟨v, β2, O2', rs', rfl, ⟨rfl, rfl⟩, hm, hkeep, _, hdom, hr⟩
 have hkeep' : Keep (fun _ => False) w w' := hkeep.mono fun b ⟨t, ob, h1, _⟩ => by simp [Hp.get] at h1
 have hm0 : Mem (lendN E β O []) E.ng noLoc [] w' := Mem.nil _ _ _ _
 obtain ⟨_, _, hUn2, g⟩ := hst.core.lent_back (σ := id) (Oc := []) (L := []) (pins := []) (k := fresh O) (lent := []) (O2 := []) (β2 := noLoc) (fun t ob h => by simp [Hp.get] at h) (fun t ob _ _ h => by simp [Hp.get] at h) (fun t h => by simp [Hp.get] at h)
  hlt (pinL_spec (by rw [hst.ctx]; exact hpin)) rfl hm0 (hkeep'.mono fun _ h => h.elim) (fun t h => by simp at h) (fun t ob _ h => by simp [Hp.get] at h) (fun t h => by simp at h) (.inl fun t ob _ _ h => by simp at h)
 have hUn : ∀ b, Un E.N (fun t => if t < fresh O then β t else noLoc (t - fresh O)) O b -> Un E.N β O b := fun b hb => by
  rcases hb with h1 | ⟨t, ob, h1, h2⟩
  ·exact .inl h1
  ·simp only [if_pos (hlt t ob h1)] at h2
   exact .inr ⟨t, ob, h1, h2⟩
 refine hK _ w' v (hst.goes g (fun _ _ _ h => by simp at h)) ?_
 refine lendR_rep hm (fun t ob b ht hc hU => ?_) _ _ (hcond.imp (fun hba => fun b hb => ?_) id) hr
 ·have h2 := Un.of_lt hst.core (hUn b hU)
  rcases hdom t ob b ht hc with ⟨t', ob', h1, _⟩ | h1
  ·simp [Hp.get] at h1
  ·omega
 ·refine .inl ?_
  rcases hUn b hb with h1 | ⟨k, ob, h1, h2⟩
  ·exact .inl h1
  ·exact .inr ⟨k, ob, h1, h2, by rw [tagsL_bare (bareA_congr hfa hba)]; simp⟩
def valA (C : Ctx) (S : FuncId -> Option Sp) (op : Op) (fr : Fr) (O : Hp) (kk : BV -> Prop) : Prop :=
 match op with
 | .move x => kk (Fr.ev C fr x)
 | .assign x => kk (Fr.ev C fr x)
 | .pick c x y => pickD (Fr.ev C fr c) (Fr.ev C fr x) (Fr.ev C fr y) kk
 | .binOp op T x y _ => binD C op T (Fr.ev C fr x) (Fr.ev C fr y) kk
 | .unOp op _ x => unA op (Fr.ev C fr x) kk
 | .convert s d x => convA C O s d (Fr.ev C fr x) kk
 | .extract x i => extA (Fr.ev C fr x) i kk
 | .nilCheck x => nilChkA (Fr.ev C fr x) kk
 | .load T x => loadA C O T (Fr.ev C fr x) kk
 | .indexAddr T x i => ixA C O T (Fr.ev C fr x) (Fr.ev C fr i) kk
 | .index T x i => indexA C T (Fr.ev C fr x) (Fr.ev C fr i) kk
 | .field T x i => fieldA C T (Fr.ev C fr x) i kk
 | .fieldAddr T x i => fadA C O T (Fr.ev C fr x) i kk
 | .slice T x lo hi mx => cutA C fr O T (Fr.ev C fr x) lo hi mx kk
 | .sliceToArrayPointer T x => sapA C O T (Fr.ev C fr x) kk
 | .call c => match c.callee with
  | .value x => callP C S fr O (Fr.ev C fr x) c.args.toList kk
  | .builtin .len => match c.args.toList, c.argTypes.toList with
   | [x], [T] => lenA C T (Fr.ev C fr x) kk
   | _, _ => False
  | .builtin b => pbA C fr b c.args.toList kk
  | _ => False
 | _ => False
theorem cutA_congr {C : Ctx} {fr fr' : Fr} {O : Hp} {T : TypeId} {x : BV} {lo hi mx : Option Operand} {kk : BV -> Prop} (h : ∀ y, (lo = some y ∨ hi = some y ∨ mx = some y) -> Fr.ev C fr' y = Fr.ev C fr y) (hc : cutA C fr O T x lo hi mx kk) : cutA C fr' O T x lo hi mx kk := by
 have hb : ∀ (z : Option Operand) d, (∀ y, z = some y -> Fr.ev C fr' y = Fr.ev C fr y) -> bnd C fr' z d = bnd C fr z d := by
  intro z d hz
  cases z with
  | none => rfl
  | some y => simp only [bnd]; rw [hz y rfl]
 have h1 := fun d => hb lo d (fun y hy => h y (.inl hy))
 have h2 := fun d => hb hi d (fun y hy => h y (.inr (.inl hy)))
 unfold cutA at hc ⊢
 simp only [h1, h2]
 cases mx with
 | none => exact hc
 | some m => have e := h m (.inr (.inr rfl)); simp only [e]; exact hc
theorem valA_pure {C : Ctx} {S : FuncId -> Option Sp} (hS : ∀ f s, S f = some s -> FOK C.P C.gl f s) (hD : ∀ f s, S f = some s -> SpDet s.sp) {o : Oper} {fr : Fr} {O : Hp} {kk : BV -> Prop} (h : valA C S o.op fr O kk) :
  ∃ v, kk v /\ ∀ fr', (∀ y, y ∈ o.op.operands.toList -> Fr.ev C fr' y = Fr.ev C fr y) -> PureOK C o fr' O v := by
 have one : ∀ {x : Operand} (F : BV -> (BV -> Prop) -> Prop), (∀ b, DetP (F b)) -> F (Fr.ev C fr x) kk -> x ∈ o.op.operands.toList ->
   (∀ (fr' : Fr) (k : OpK), (F (Fr.ev C fr' x) fun r => k fr' r O) -> OpOK C o fr' O k) -> ∃ v, kk v /\ ∀ fr', (∀ y, y ∈ o.op.operands.toList -> Fr.ev C fr' y = Fr.ev C fr y) -> PureOK C o fr' O v := by
  intro x F hdet hF hx hok
  obtain ⟨v, hk, hv⟩ := hdet _ _ hF
  exact ⟨v, hk, fun fr' ha => OpOK.pure (hok fr' _ (by rw [ha x hx]; exact hv _ ⟨rfl, rfl, rfl⟩))⟩
 have two : ∀ {x y : Operand} (F : BV -> BV -> (BV -> Prop) -> Prop), (∀ b c, DetP (F b c)) -> F (Fr.ev C fr x) (Fr.ev C fr y) kk -> x ∈ o.op.operands.toList -> y ∈ o.op.operands.toList ->
   (∀ (fr' : Fr) (k : OpK), (F (Fr.ev C fr' x) (Fr.ev C fr' y) fun r => k fr' r O) -> OpOK C o fr' O k) -> ∃ v, kk v /\ ∀ fr', (∀ y, y ∈ o.op.operands.toList -> Fr.ev C fr' y = Fr.ev C fr y) -> PureOK C o fr' O v := by
  intro x y F hdet hF hx hy hok
  obtain ⟨v, hk, hv⟩ := hdet _ _ _ hF
  exact ⟨v, hk, fun fr' ha => OpOK.pure (hok fr' _ (by rw [ha x hx, ha y hy]; exact hv _ ⟨rfl, rfl, rfl⟩))⟩
 unfold valA at h
 split at h
 ·rename_i x ho; exact one (fun b kk => kk b) (fun b kk hk => ⟨b, hk, fun _ hk => hk⟩) h (by rw [ho]; simp [Op.operands]) fun fr' k hk => moveA_ok (.inl ho) hk
 ·rename_i x ho; exact one (fun b kk => kk b) (fun b kk hk => ⟨b, hk, fun _ hk => hk⟩) h (by rw [ho]; simp [Op.operands]) fun fr' k hk => moveA_ok (.inr ho) hk
 ·rename_i c x y ho
  obtain ⟨v, hk, hv⟩ := det_pickD _ h
  exact ⟨v, hk, fun fr' ha => OpOK.pure (pickA_ok ho (by
   rw [ha c (by rw [ho]; simp [Op.operands]), ha x (by rw [ho]; simp [Op.operands]), ha y (by rw [ho]; simp [Op.operands])]
   exact pickD_A (hv (fun r => fr' = fr' /\ O = O /\ r = v) ⟨rfl, rfl, rfl⟩)))⟩
 ·rename_i bop T x y T' ho; exact two (binD C bop T) (fun _ _ => det_binD) h (by rw [ho]; simp [Op.operands]) (by rw [ho]; simp [Op.operands]) fun fr' k hk => binA_ok ho (binD_A hk)
 ·rename_i uop T x ho; exact one (unA uop) (fun _ => det_unA) h (by rw [ho]; simp [Op.operands]) fun fr' k hk => unA_ok ho hk
 ·rename_i s d x ho; exact one (convA C O s d) (fun _ => det_convA) h (by rw [ho]; simp [Op.operands]) fun fr' k hk => convA_ok ho hk
 ·rename_i x i ho
  exact one (fun b => extA b i) (fun _ => det_extA) h (by rw [ho]; simp [Op.operands]) fun fr' k hk => by
   unfold extA at hk
   split at hk
   ·rename_i n f hx; exact extractA_ok ho hx hk.1 hk.2
   ·exact hk.elim
 ·rename_i x ho; exact one nilChkA (fun _ => det_nilChkA) h (by rw [ho]; simp [Op.operands]) fun fr' k hk => nilChkA_ok ho hk
 ·rename_i T x ho; exact one (loadA C O T) (fun _ => det_loadA) h (by rw [ho]; simp [Op.operands]) fun fr' k hk => loadA_ok ho hk
 ·rename_i T x i ho; exact two (ixA C O T) (fun _ _ => det_ixA) h (by rw [ho]; simp [Op.operands]) (by rw [ho]; simp [Op.operands]) fun fr' k hk => ixA_ok ho hk
 ·rename_i T x i ho; exact two (indexA C T) (fun _ _ => det_indexA) h (by rw [ho]; simp [Op.operands]) (by rw [ho]; simp [Op.operands]) fun fr' k hk => indexA_ok ho hk
 ·rename_i T x i ho; exact one (fun b => fieldA C T b i) (fun _ => det_fieldA) h (by rw [ho]; simp [Op.operands]) fun fr' k hk => fieldA_ok ho hk
 ·rename_i T x i ho; exact one (fun b => fadA C O T b i) (fun _ => det_fadA) h (by rw [ho]; simp [Op.operands]) fun fr' k hk => fadA_ok ho hk
 ·rename_i T x lo hi mx ho
  obtain ⟨v, hk, hv⟩ := det_cutA _ h
  refine ⟨v, hk, fun fr' ha => OpOK.pure (cutA_ok ho ?_)⟩
  rw [ha x (by rw [ho]; simp [Op.operands])]
  refine cutA_congr (fun y hy => ha y ?_) (hv (fun r => fr' = fr' /\ O = O /\ r = v) ⟨rfl, rfl, rfl⟩)
  rw [ho]
  rcases hy with rfl | rfl | rfl <;> simp [Op.operands]
 ·rename_i T x ho; exact one (sapA C O T) (fun _ => det_sapA) h (by rw [ho]; simp [Op.operands]) fun fr' k hk => sapA_ok ho hk
 ·rename_i c ho
  obtain ⟨callee, args, ats⟩ := c
  split at h
  ·rename_i x hx
   simp only at hx
   subst hx
   obtain ⟨v, hk, hv⟩ := callP_pure hS hD ho h
   exact ⟨v, hk, fun fr' ha => hv fr' (ha x (by rw [ho]; simp [Op.operands, Call.operands])) fun y hy => ha y (by rw [ho]; simp [Op.operands, Call.operands]; first | exact .inl (by simpa using hy) | exact .inr (by simpa using hy))⟩
  ·rename_i hb
   simp only at hb
   subst hb
   split at h
   ·rename_i x T hx hT
    simp only at hx hT
    exact one (lenA C T) (fun _ => det_lenA) h (by
     have e1 : args = #[x] := by apply Array.ext'; simpa using hx
     rw [ho, e1]; simp [Op.operands, Call.operands]) fun fr' k hk => bltA_ok ho (by unfold bltA; rw [hx, hT]; exact hk)
   ·exact h.elim
  ·rename_i b _ hb
   simp only at hb
   subst hb
   have h' := h
   unfold pbA at h'
   split at h'
   case h_2 => exact h'.elim
   rename_i ps hps
   split at h'
   case h_2 => exact h'.elim
   rename_i r hr
   refine ⟨.p r, h', fun fr' ha => OpOK.pure (pbA_ok ho ?_)⟩
   have e : args.toList.map (Fr.ev C fr') = args.toList.map (Fr.ev C fr) := List.map_congr_left fun y hy => ha y (by rw [ho]; simpa [Op.operands, Call.operands] using hy)
   unfold pbA
   rw [e]
   simp only [hps, hr]
   exact ⟨trivial, trivial, trivial⟩
  ·exact h.elim
 ·exact h.elim
def dstOf (ops : List Oper) (i : Nat) : Option Tmp := (ops[i]?).bind (·.dst)
def lastV (V : Nat -> BV) (ops : List Oper) (p : Nat -> Bool) (s : Nat) (base : BV) : Nat -> BV
 | 0 => base
 | n + 1 => if p n = true /\ dstOf ops n = some s then V n else lastV V ops p s base n
theorem lastV_congr {V : Nat -> BV} {ops : List Oper} {p q : Nat -> Bool} {s : Nat} {base : BV} : ∀ {n : Nat}, (∀ j, j < n -> dstOf ops j = some s -> p j = q j) -> lastV V ops p s base n = lastV V ops q s base n
 | 0, _ => rfl
 | n + 1, h => by
  simp only [lastV]
  have ih := lastV_congr (V := V) (base := base) (n := n) fun j hj => h j (by omega)
  by_cases hd : dstOf ops n = some s
  ·rw [h n (by omega) hd, ih]
  ·rw [if_neg (fun e => hd e.2), if_neg (fun e => hd e.2), ih]
theorem lastV_set {V : Nat -> BV} {ops : List Oper} {p p' : Nat -> Bool} {s i d : Nat} {base : BV} (hi : dstOf ops i = some d) (hp : ∀ j, j ≠ i -> p' j = p j) (hpi : p' i = true) (hlast : ∀ j, i < j -> dstOf ops j = some d -> p j = false) :
  ∀ {n : Nat}, i < n -> lastV V ops p' s base n = if d = s then V i else lastV V ops p s base n := by
 intro n hn
 induction n with
 | zero => omega
 | succ n ih =>
  simp only [lastV]
  by_cases hin : i = n
  ·subst hin
   by_cases hds : d = s
   ·subst hds
    rw [if_pos ⟨hpi, hi⟩, if_pos rfl]
   ·have hne : ¬ dstOf ops i = some s := by rw [hi]; simpa using hds
    rw [if_neg (fun e => hne e.2), if_neg hds, if_neg (fun e => hne e.2)]
    exact lastV_congr fun j hj _ => hp j (by omega)
  ·rw [ih (by omega), hp n (Ne.symm hin)]
   by_cases hds : d = s
   ·subst hds
    simp only [if_true]
    rw [if_neg]
    rintro ⟨h1, h2⟩
    rw [hlast n (by omega) h2] at h1; cases h1
   ·simp only [if_neg hds]
def evF (C : Ctx) (f : Nat -> BV) : Operand -> BV
 | .tmp t => f t
 | x => Fr.ev C [] x
theorem evF_get (C : Ctx) (fr : Fr) (x : Operand) : Fr.ev C fr x = evF C (Fr.get fr) x := by cases x <;> rfl
def StepF (C : Ctx) (ops : List Oper) (o : Oper) (O : Hp) (f : Nat -> BV) (v : BV) : Prop :=
 ((o.guard = none ∨ ∃ g want d, o.guard = some (g, want) /\ gslot ops g = some d /\ d < C.nt /\ f d = .p (.v (.bool want))) /\ ∀ fr, (∀ y, y ∈ o.op.operands.toList -> Fr.ev C fr y = evF C f y) -> PureOK C o fr O v) ∨
 ((∃ g want d, o.guard = some (g, want) /\ gslot ops g = some d /\ ((d < C.nt /\ f d = .p (.v (.bool !want))) ∨ ∃ vs, f d = .p (.v (.tuple vs)))) /\ v = .p (.v undef))
def dstD (n : Nat) (d : Option Tmp) (x : BV) (fr : Fr) (kk : Fr -> Prop) : Prop :=
 match d with
 | none => False
 | some d => d < n /\ kk ((d, x) :: fr)
def drawA (C : Ctx) (S : FuncId -> Option Sp) (ops : List Oper) : List Oper -> Fr -> Hp -> (Fr -> Hp -> Prop) -> Prop
 | [], fr, O, K => K fr O
 | o :: r, fr, O, K => grdA C ops o.guard fr
   (fun fr => valA C S o.op fr O fun x => dstD C.nt o.dst x fr fun fr => drawA C S ops r fr O K)
   (fun fr => dstD C.nt o.dst (.p (.v undef)) fr fun fr => drawA C S ops r fr O K)
theorem grdA_cases {C : Ctx} {ops : List Oper} {o : Oper} {fr : Fr} {y n : Fr -> Prop} (h : grdA C ops o.guard fr y n) :
    ∃ fr', (∀ s, Fr.get fr' s = Fr.get fr s) /\
      (((o.guard = none ∨ ∃ g want d, o.guard = some (g, want) /\ gslot ops g = some d /\ d < C.nt /\ Fr.get fr' d = .p (.v (.bool want))) /\ y fr') ∨
       ((∃ g want d, o.guard = some (g, want) /\ gslot ops g = some d /\ ((d < C.nt /\ Fr.get fr' d = .p (.v (.bool !want))) ∨ ∃ vs, Fr.get fr' d = .p (.v (.tuple vs)))) /\ n fr')) := by
  unfold grdA at h
  split at h
  · rename_i hg; exact ⟨fr, fun _ => rfl, .inl ⟨.inl hg, h⟩⟩
  · rename_i g want hg
    split at h
    · exact h.elim
    · rename_i d hd
      split at h
      · rename_i b hx
        obtain ⟨hlt, h1, h2⟩ := h
        have hsame : ∀ s, Fr.get ((d, .p (.v (.bool b))) :: fr) s = Fr.get fr s := by
          intro s
          simp only [Fr.get]
          split
          · rename_i e; subst e; exact hx.symm
          · rfl
        by_cases hb : b = want
        · subst hb
          exact ⟨_, hsame, .inl ⟨.inr ⟨g, b, d, hg, hd, hlt, by simp [Fr.get]⟩, h1 rfl⟩⟩
        · have hbn : b = !want := by cases b <;> cases want <;> simp_all
          rw [hbn] at hsame
          exact ⟨_, hsame, .inr ⟨⟨g, want, d, hg, hd, .inl ⟨hlt, by simp [Fr.get]⟩⟩, h2 hbn⟩⟩
      · rename_i vs hx
        exact ⟨fr, fun _ => rfl, .inr ⟨⟨g, want, d, hg, hd, .inr ⟨vs, hx⟩⟩, h⟩⟩
      · exact h.elim
theorem drawA_plan {C : Ctx} {S : FuncId -> Option Sp} (hS : ∀ f s, S f = some s -> FOK C.P C.gl f s) (hD : ∀ f s, S f = some s -> SpDet s.sp) {ops : List Oper} {O : Hp} {K : Fr -> Hp -> Prop} {base : Nat -> BV} :
  ∀ (l : List Oper) (k : Nat) (fr : Fr) (V : Nat -> BV), (∀ j, l[j]? = ops[k + j]?) -> (∀ s, Fr.get fr s = lastV V ops (fun j => decide (j < k)) s (base s) k) -> drawA C S ops l fr O K ->
   ∃ V' : Nat -> BV, (∀ j, j < k -> V' j = V j) /\ (∃ fe, K fe O /\ ∀ s, Fr.get fe s = lastV V' ops (fun _ => true) s (base s) (k + l.length)) /\
    ∀ i o, k <= i -> ops[i]? = some o -> i < k + l.length -> ∃ d, o.dst = some d /\ d < C.nt /\ StepF C ops o O (fun s => lastV V' ops (fun j => decide (j < i)) s (base s) i) (V' i)
 | [], k, fr, V, hl, hfr, h => by
  refine ⟨V, fun _ _ => rfl, ⟨fr, h, fun s => ?_⟩, fun i o hi _ hlt => by simp at hlt; omega⟩
  rw [hfr s]
  exact lastV_congr fun j hj _ => by simpa using hj
 | o :: l, k, fr, V, hl, hfr, h => by
  have h0 : ops[k]? = some o := by simpa using (hl 0).symm
  obtain ⟨fr1, hsame, hcase⟩ := grdA_cases h
  have hstep : ∃ v, (∃ d, o.dst = some d /\ d < C.nt /\ drawA C S ops l ((d, v) :: fr1) O K) /\ StepF C ops o O (Fr.get fr1) v := by
   rcases hcase with ⟨hg, hv⟩ | ⟨hg, hv⟩
   ·obtain ⟨v, hk, hp⟩ := valA_pure hS hD hv
    unfold dstD at hk
    split at hk
    ·exact hk.elim
    ·rename_i d hd
     exact ⟨v, ⟨d, hd, hk.1, hk.2⟩, .inl ⟨hg, fun fr ha => hp fr fun y hy => by rw [ha y hy, evF_get C fr1]⟩⟩
   ·unfold dstD at hv
    split at hv
    ·exact hv.elim
    ·rename_i d hd
     exact ⟨_, ⟨d, hd, hv.1, hv.2⟩, .inr ⟨hg, rfl⟩⟩
  obtain ⟨v, ⟨d, hd, hdn, hrest⟩, hst⟩ := hstep
  have hdk : dstOf ops k = some d := by simp [dstOf, h0, hd]
  let V1 : Nat -> BV := fun j => if j = k then v else V j
  have hV1 : ∀ s (m : Nat) (p : Nat -> Bool), m <= k -> lastV V1 ops p s (base s) m = lastV V ops p s (base s) m := by
   intro s m p hm
   induction m with
   | zero => rfl
   | succ m ih => simp only [lastV]; rw [ih (by omega)]; simp only [V1, if_neg (show ¬ m = k by omega)]
  have hfr' : ∀ s, Fr.get ((d, v) :: fr1) s = lastV V1 ops (fun j => decide (j < k + 1)) s (base s) (k + 1) := by
   intro s
   simp only [lastV, Fr.get]
   have hkk : decide (k < k + 1) = true := by simp
   by_cases hds : d = s
   ·subst hds
    rw [if_pos rfl, if_pos ⟨hkk, hdk⟩]
    simp [V1]
   ·have hne : ¬ dstOf ops k = some s := by rw [hdk]; simpa using hds
    rw [if_neg hds, if_neg (fun e => hne e.2), hV1 s k _ (Nat.le_refl _), hsame s, hfr s]
    exact lastV_congr fun j hj _ => by simp [hj]; omega
  obtain ⟨V', h1, ⟨fe, h2, h3⟩, h4⟩ := drawA_plan hS hD l (k + 1) _ V1 (fun j => by have := hl (j + 1); simpa [Nat.add_assoc, Nat.add_comm 1 j] using this) hfr' hrest
  have hVk : V' k = v := by rw [h1 k (by omega)]; simp [V1]
  refine ⟨V', fun j hj => ?_, ⟨fe, h2, fun s => ?_⟩, fun i oi hi hoi hlt => ?_⟩
  ·rw [h1 j (by omega)]; simp [V1, show ¬ j = k by omega]
  ·rw [h3 s, List.length_cons, show k + (l.length + 1) = k + 1 + l.length by omega]
  ·by_cases hik : i = k
   ·subst hik
    rw [h0] at hoi; cases hoi
    refine ⟨d, hd, hdn, ?_⟩
    rw [hVk]
    have e : (fun s => lastV V' ops (fun j => decide (j < i)) s (base s) i) = Fr.get fr1 := by
     funext s
     rw [hsame s, hfr s]
     have : ∀ m, m <= i -> lastV V' ops (fun j => decide (j < i)) s (base s) m = lastV V ops (fun j => decide (j < i)) s (base s) m := by
      intro m hm
      induction m with
      | zero => rfl
      | succ m ih =>
       simp only [lastV]
       rw [ih (by omega), h1 m (by omega)]
       simp only [V1, if_neg (show ¬ m = i by omega)]
     exact this i (Nat.le_refl _)
    rw [e]; exact hst
   ·exact h4 i oi (by omega) hoi (by simp at hlt; omega)
theorem wanted_yes {C : Ctx} {E : Env} {β : Loc} {fr : Fr} {O : Hp} {a : Act} {w : World} (hst : St C E β fr O a w) {ops : List Oper} {o : Oper}
  (h : o.guard = none ∨ ∃ g want d, o.guard = some (g, want) /\ gslot ops g = some d /\ d < C.nt /\ Fr.get fr d = .p (.v (.bool want))) : Region.wanted o (yielded ops.toArray a.tmps) = true := by
 have hg : grdA C ops o.guard fr (fun _ => True) (fun _ => False) := by
  rcases h with h | ⟨g, want, d, h1, h2, h3, h4⟩
  ·rw [h]; trivial
  ·rw [h1]; simp only [grdA, h2, h4]; exact ⟨h3, fun _ => trivial, fun e => by cases want <;> cases e⟩
 obtain ⟨_, _, ⟨h1, _⟩ | ⟨_, h1⟩⟩ := grdA_ok hst hg
 ·exact h1
 ·exact h1.elim
theorem wanted_no {C : Ctx} {E : Env} {β : Loc} {fr : Fr} {O : Hp} {a : Act} {w : World} (hst : St C E β fr O a w) {ops : List Oper} {o : Oper}
  (h : ∃ g want d, o.guard = some (g, want) /\ gslot ops g = some d /\ ((d < C.nt /\ Fr.get fr d = .p (.v (.bool !want))) ∨ ∃ vs, Fr.get fr d = .p (.v (.tuple vs)))) : Region.wanted o (yielded ops.toArray a.tmps) = false := by
 have hg : grdA C ops o.guard fr (fun _ => False) (fun _ => True) := by
  obtain ⟨g, want, d, h1, h2, ⟨h3, h4⟩ | ⟨vs, h4⟩⟩ := h
  ·rw [h1]; simp only [grdA, h2, h4]; exact ⟨h3, by cases want <;> simp, fun _ => trivial⟩
  ·rw [h1]; simp only [grdA, h2, h4]
 obtain ⟨_, _, ⟨_, h1⟩ | ⟨h1, _⟩⟩ := grdA_ok hst hg
 ·exact h1.elim
 ·exact h1
theorem countP_lt {p p' : Nat -> Bool} : ∀ {l : List Nat} {i : Nat}, i ∈ l -> p i = true -> p' i = false -> (∀ j, p' j = true -> p j = true) -> l.countP p' < l.countP p
 | x :: l, i, hm, hp, hp', hle => by
  have hmono : l.countP p' <= l.countP p := List.countP_mono_left fun j _ h => hle j h
  simp only [List.countP_cons]
  rcases List.mem_cons.1 hm with rfl | hm
  ·rw [if_pos hp, if_neg (by simp [hp'])]; omega
  ·have ih := countP_lt hm hp hp' hle
   by_cases hx : p' x = true
   ·rw [if_pos hx, if_pos (hle x hx)]; omega
   ·rw [if_neg hx]; omega
structure DrawOK (ops : List Oper) (A : List (List Nat)) : Prop where
 anc : ∀ i o j, ops[i]? = some o -> j ∈ A.getD i [] -> ∃ e ∈ o.after, Region.binds .any e = true /\ e.on < i /\ (e.on = j ∨ j ∈ A.getD e.on [])
 back : ∀ i o, ops[i]? = some o -> ∀ e ∈ o.after, Region.binds .any e = true -> e.on < i
 pair : ∀ i j o d, ops[i]? = some o -> dstOf ops j = some d -> j ≠ i -> (d ∈ o.looksAt ops.toArray ∨ o.dst = some d) -> (j < i -> j ∈ A.getD i []) /\ (i < j -> i ∈ A.getD j [])
theorem okDraw_spec {ops : List Oper} (h : okDraw ops = true) : DrawOK ops (ancs ops) := by
 unfold okDraw at h
 simp only [Bool.and_eq_true] at h
 obtain ⟨h1, h2⟩ := h
 refine ⟨fun i o j hi hj => ?_, fun i o hi e he hb => ?_, fun i j o d hi hd hne hl => ?_⟩
 ·have hlt : i < ops.length := (List.getElem?_eq_some_iff.1 hi).1
  have := List.all_eq_true.1 h1 i (List.mem_range.2 hlt)
  rw [hi] at this
  have := List.all_eq_true.1 this j hj
  obtain ⟨e, he, hb⟩ := Array.any_eq_true'.1 this
  simp only [Bool.and_eq_true, decide_eq_true_eq, Bool.or_eq_true, beq_iff_eq, List.contains_iff_mem] at hb
  exact ⟨e, he, hb.1.1, hb.1.2, hb.2⟩
 ·have hlt : i < ops.length := (List.getElem?_eq_some_iff.1 hi).1
  have := List.all_eq_true.1 h2 i (List.mem_range.2 hlt)
  rw [hi] at this
  simp only [Bool.and_eq_true] at this
  have := Array.all_eq_true_iff_forall_mem.1 this.1 e he
  simp only [Bool.or_eq_true, Bool.not_eq_true', hb, decide_eq_true_eq] at this
  rcases this with h | h
  ·cases h
  ·exact h
 ·have hlt : i < ops.length := (List.getElem?_eq_some_iff.1 hi).1
  have := List.all_eq_true.1 h2 i (List.mem_range.2 hlt)
  rw [hi] at this
  simp only [Bool.and_eq_true] at this
  unfold dstOf at hd
  cases hj : ops[j]? with
  | none => rw [hj] at hd; cases hd
  | some p =>
   have hlj : j < ops.length := (List.getElem?_eq_some_iff.1 hj).1
   have := List.all_eq_true.1 this.2 j (List.mem_range.2 hlj)
   rw [hj] at hd
   have hd' : p.dst = some d := by simpa using hd
   unfold okPair at this
   rw [hi, hj] at this
   simp only [hd', decide_eq_true_eq, if_neg hne] at this
   have hc : ((o.looksAt ops.toArray).contains d || o.dst == some d) = true := by
    simp only [Bool.or_eq_true, List.contains_iff_mem, beq_iff_eq]; exact hl
   rw [if_pos hc] at this
   refine ⟨fun hji => ?_, fun hij => ?_⟩
   ·rw [if_pos hji] at this; simpa using this
   ·rw [if_neg (by omega)] at this; simpa using this
theorem St.same_get {C : Ctx} {E : Env} {β : Loc} {fr fr' : Fr} {O : Hp} {a : Act} {w : World} (h : St C E β fr O a w) (hs : ∀ s, Fr.get fr' s = Fr.get fr s) : St C E β fr' O a w :=
 ⟨h.ctx, h.good, h.core, h.defers, h.size, fun d => by rw [hs d]; exact h.slot d, h.xs, h.tok.mono fun d _ e => by rw [<- hs d]; exact e⟩
theorem draw_any {C : Ctx} {E : Env} {Q : Exit -> Act -> World -> Prop} {ops : List Oper} {A : List (List Nat)} (hok : DrawOK ops A) {O : Hp} {V base : Nat -> BV}
    (hstep : ∀ i o, ops[i]? = some o -> ∃ d, o.dst = some d /\ d < C.nt /\ StepF C ops o O (fun s => lastV V ops (fun j => decide (j < i)) s (base s) i) (V i))
    (hQ : ∀ β a w fr, St C E β fr O a w -> (∀ s, Fr.get fr s = lastV V ops (fun _ => true) s (base s) ops.length) -> Q .normal a w) :
    ∀ (fuel : Nat) (listed : Array Bool) (a : Act) (w : World) (β : Loc) (fr : Fr), listed.size = ops.length ->
      (∀ i o, ops[i]? = some o -> listed.getD i false = true -> ∀ e ∈ o.after, Region.binds .any e = true -> listed.getD e.on false = true) ->
      (List.range ops.length).countP (fun i => !listed.getD i true) <= fuel -> St C E β fr O a w -> (∀ s, Fr.get fr s = lastV V ops (fun j => listed.getD j false) s (base s) ops.length) ->
      wpAny C.P .any ops.toArray Q fuel listed a w := by
  have hin : ∀ (listed : Array Bool), listed.size = ops.length -> ∀ i, i < ops.length -> (listed.getD i true = false ↔ listed.getD i false = false) := by
    intro listed hsz i hi
    have : i < listed.size := by omega
    simp [Array.getD, this]
  have hall : ∀ (listed : Array Bool), listed.size = ops.length -> Region.ready .any ops.toArray listed = [] -> ∀ i, i < ops.length -> listed.getD i false = true := by
    intro listed hsz hr i
    induction i using Nat.strongRecOn with
    | _ i ih =>
      intro hi
      cases hl : listed.getD i false with
      | true => rfl
      | false =>
        exfalso
        have : i ∈ Region.ready .any ops.toArray listed := by
          rw [mem_ready]
          refine ⟨(hin listed hsz i hi).2 hl, ops[i], by simp [hi], fun e he hb => ?_⟩
          have hlt := hok.back i ops[i] (by simp [hi]) e he hb
          exact ih e.on hlt (by omega)
        rw [hr] at this; cases this
  have hend : ∀ (listed : Array Bool) (a : Act) (w : World) (β : Loc) (fr : Fr), listed.size = ops.length -> St C E β fr O a w -> (∀ s, Fr.get fr s = lastV V ops (fun j => listed.getD j false) s (base s) ops.length) ->
      Region.ready .any ops.toArray listed = [] -> Q .normal a w := by
    intro listed a w β fr hsz hst hfr hr
    refine hQ β a w fr hst fun s => ?_
    rw [hfr s]
    exact lastV_congr fun j hj _ => hall listed hsz hr j hj
  have hanc : ∀ (listed : Array Bool), (∀ i o, ops[i]? = some o -> listed.getD i false = true -> ∀ e ∈ o.after, Region.binds .any e = true -> listed.getD e.on false = true) ->
      ∀ i o, ops[i]? = some o -> (listed.getD i false = true ∨ ∀ e ∈ o.after, Region.binds .any e = true -> listed.getD e.on false = true) -> ∀ j, j ∈ A.getD i [] -> listed.getD j false = true := by
    intro listed hcl i
    induction i using Nat.strongRecOn with
    | _ i ih =>
      intro o hi hd j hj
      obtain ⟨e, he, hb, hlt, hc⟩ := hok.anc i o j hi hj
      have hel : listed.getD e.on false = true := by
        rcases hd with hd | hd
        · exact hcl i o hi hd e he hb
        · exact hd e he hb
      rcases hc with rfl | hc
      · exact hel
      · have hlt' : e.on < ops.length := Nat.lt_trans hlt (List.getElem?_eq_some_iff.1 hi).1
        exact ih e.on hlt ops[e.on] (by simp [hlt']) (.inl hel) j hc
  intro fuel
  induction fuel with
  | zero =>
    intro listed a w β fr hsz hcl hcnt hst hfr
    have hr : Region.ready .any ops.toArray listed = [] := by
      cases h : Region.ready .any ops.toArray listed with
      | nil => rfl
      | cons i r =>
        have hi : i ∈ Region.ready .any ops.toArray listed := by rw [h]; exact List.mem_cons_self
        obtain ⟨h1, o, h2, _⟩ := mem_ready.1 hi
        have hlt : i < ops.length := by
          have := (Array.getElem?_eq_some_iff.1 h2).1
          simpa using this
        have : 0 < (List.range ops.length).countP (fun i => !listed.getD i true) := List.countP_pos_iff.2 ⟨i, List.mem_range.2 hlt, by simp only [h1, Bool.not_false]⟩
        omega
    exact ⟨hr, hend listed a w β fr hsz hst hfr hr⟩
  | succ fuel ih =>
    intro listed a w β fr hsz hcl hcnt hst hfr
    refine ⟨hend listed a w β fr hsz hst hfr, fun i hi => ?_⟩
    obtain ⟨hun, o, ho, hdeps⟩ := mem_ready.1 hi
    have hlt : i < ops.length := by
      have := (Array.getElem?_eq_some_iff.1 ho).1
      simpa using this
    have hio : ops[i]? = some o := by simpa using ho
    have hunf : listed.getD i false = false := (hin listed hsz i hlt).1 hun
    obtain ⟨d, hd, hdn, hst0⟩ := hstep i o hio
    have hdi : dstOf ops i = some d := by simp [dstOf, hio, hd]
    have hlook : ∀ s, s ∈ o.looksAt ops.toArray -> Fr.get fr s = lastV V ops (fun j => decide (j < i)) s (base s) i := by
      intro s hs
      rw [hfr s]
      have hext : ∀ n, i <= n -> lastV V ops (fun j => decide (j < i)) s (base s) n = lastV V ops (fun j => decide (j < i)) s (base s) i := by
        intro n hn
        induction n with
        | zero => rw [show i = 0 by omega]
        | succ n ihn =>
          by_cases hni : n + 1 = i
          · rw [hni]
          · simp only [lastV]
            rw [if_neg (by simp; omega), ihn (by omega)]
      rw [<- hext ops.length (by omega)]
      refine lastV_congr fun j hj hdj => ?_
      by_cases hji : j = i
      · subst hji; simp [hunf]
      · have hp := hok.pair i j o s hio hdj hji (.inl hs)
        rcases Nat.lt_or_ge j i with h1 | h1
        · have := hanc listed hcl i o hio (.inr hdeps) j (hp.1 h1)
          simp [this, h1]
        · have h2 : i < j := by omega
          cases hlj : listed.getD j false with
          | false => simp; omega
          | true =>
            have hltj : j < ops.length := hj
            have := hanc listed hcl j ops[j] (by simp [hltj]) (.inl hlj) i (hp.2 h2)
            rw [hunf] at this; cases this
    have hlast : ∀ j, i < j -> dstOf ops j = some d -> listed.getD j false = false := by
      intro j hij hdj
      cases hlj : listed.getD j false with
      | false => rfl
      | true =>
        have hp := hok.pair i j o d hio hdj (by omega) (.inr hd)
        have hltj : j < ops.length := by
          unfold dstOf at hdj
          cases h : ops[j]? with
          | none => rw [h] at hdj; cases hdj
          | some p => exact (List.getElem?_eq_some_iff.1 h).1
        have := hanc listed hcl j ops[j] (by simp [hltj]) (.inl hlj) i (hp.2 hij)
        rw [hunf] at this; cases this
    have hnext : ∀ β' w' u, St C E β' fr O a w' -> (V i).Rep (Un E.N β' O) β' O w' u -> wpAny C.P .any ops.toArray Q fuel (listed.setIfInBounds i true) (a.put o.dst u) w' := by
      intro β' w' u hst' hu
      rw [hd]
      have hgs : ∀ j, j ≠ i -> (listed.setIfInBounds i true).getD j false = listed.getD j false := fun j hj => getD_set_ne false (Ne.symm hj)
      have hgi : (listed.setIfInBounds i true).getD i false = true := by
        have : i < listed.size := by omega
        simp [Array.getD, this]
      refine ih (listed.setIfInBounds i true) _ w' β' ((d, V i) :: fr) (by simpa using hsz) (fun j oj hj hlj e he hb => ?_) ?_ (hst'.put hdn hu) (fun s => ?_)
      · by_cases hji : j = i
        · subst hji
          rw [hio] at hj; cases hj
          exact getD_set_true (hdeps e he hb)
        · rw [hgs j hji] at hlj
          exact getD_set_true (hcl j oj hj hlj e he hb)
      · have := countP_lt (p := fun i => !listed.getD i true) (p' := fun j => !(listed.setIfInBounds i true).getD j true) (l := List.range ops.length) (i := i) (List.mem_range.2 hlt) (by simp only [hun, Bool.not_false])
          (by have : i < listed.size := by omega
              simp [Array.getD, this]) (fun j hj => by
            by_cases hji : i = j
            · subst hji
              have : i < listed.size := by omega
              simp [Array.getD, this] at hj
            · rw [getD_set_ne true hji] at hj; exact hj)
        omega
      · rw [lastV_set (p := fun j => listed.getD j false) hdi hgs hgi hlast hlt]
        simp only [Fr.get]
        split
        · rfl
        · exact hfr s
    unfold wpOp
    rw [ho]
    show if Region.wanted o (yielded ops.toArray a.tmps) = true then _ else _
    have hguard : ∀ g want s, o.guard = some (g, want) -> gslot ops g = some s -> s ∈ o.looksAt ops.toArray := by
      intro g want s h1 h2
      unfold Oper.looksAt
      refine List.mem_append_right _ ?_
      rw [h1]
      unfold gslot at h2
      simp only [List.getElem?_toArray]
      cases hg : ops[g]? with
      | none => rw [hg] at h2; cases h2
      | some og => rw [hg] at h2; simp only at h2; simp [h2]
    rcases hst0 with ⟨hg, hp⟩ | ⟨hg, hv⟩
    · have hw : Region.wanted o (yielded ops.toArray a.tmps) = true := by
        refine wanted_yes hst (hg.imp id ?_)
        rintro ⟨g, want, s, h1, h2, h3, h4⟩
        exact ⟨g, want, s, h1, h2, h3, by rw [hlook s (hguard g want s h1 h2)]; exact h4⟩
      rw [if_pos hw]
      refine .inl (hp fr (fun y hy => ?_) E β a w hst _ Q hnext)
      rw [evF_get]
      cases y with
      | tmp t =>
        exact hlook t (List.mem_append_left _ (List.mem_filterMap.2 ⟨.tmp t, hy, rfl⟩))
      | _ => rfl
    · have hw : Region.wanted o (yielded ops.toArray a.tmps) = false := by
        refine wanted_no hst ?_
        obtain ⟨g, want, s, h1, h2, h3⟩ := hg
        refine ⟨g, want, s, h1, h2, ?_⟩
        rw [hlook s (hguard g want s h1 h2)]; exact h3
      rw [if_neg (by rw [hw]; simp)]
      exact hnext β w undef hst (by rw [hv]; exact rfl)
theorem HT.drawn {C : Ctx} {S : FuncId -> Option Sp} (hS : ∀ f s, S f = some s -> FOK C.P C.gl f s) (hD : ∀ f s, S f = some s -> SpDet s.sp) (hm : C.P.follows .mixedOrders = true) {fr : Fr} {O : Hp} {Q : QA} {id : Nat} {l : List Oper} (hB : okDraw l = true)
  (h : drawA C S l l fr O (Q .normal)) (hnd : nodefB l = true := by rfl) : HT C (.region id l.toArray true) fr O Q := by
 refine ⟨fun E β a w hst => ?_⟩
 have hst' : St C E β fr O a { w with drawn := w.drawn + 1 } := hst.goes hst.core.drew (fun _ _ _ => trivial)
 obtain ⟨V, _, ⟨fe, hK, hfe⟩, hstep⟩ := drawA_plan hS hD (base := Fr.get fr) l 0 fr (fun _ => .dead) (fun j => by simp) (fun s => rfl) h
 refine wpIn_mono (wpIn_region_any hm (wpAny_in (C := C) hnd (Q := fun e a' w' => e = .normal /\ ∃ fr' O' β' E', Ev E E' /\ Q .normal fr' O' /\ St C E' β' fr' O' a' w') (fun ⟨_, _, h, _⟩ => by cases h) _ _ _ _ (draw_any (E := E) (okDraw_spec hB) (O := O) (V := V) (base := Fr.get fr) (fun i o hi => hstep i o (Nat.zero_le _) hi (by have := (List.getElem?_eq_some_iff.1 hi).1; omega)) (fun β a w fr1 hst1 hfr1 => ?_) _ _ a _ β fr (by simp) ?_ ?_ hst' ?_))) (by rintro e a w ⟨rfl, h⟩; exact h)
 ·exact ⟨rfl, fe, O, β, E, Ev.refl E, hK, hst1.same_get fun s => by rw [hfr1 s, hfe s, Nat.zero_add]⟩
 ·intro i o _ hl
  rw [getD_replicate_false] at hl; cases hl
 ·refine Nat.le_trans (List.countP_le_length) ?_
  simp
 ·intro s
  have : ∀ n, lastV V l (fun j => (Array.replicate l.toArray.size false).getD j false) s (Fr.get fr s) n = Fr.get fr s := by
   intro n
   induction n with
   | zero => rfl
   | succ n ihn => simp only [lastV]; rw [if_neg (by rw [getD_replicate_false]; simp), ihn]
  rw [this]
section
variable {C : Ctx} {S : FuncId -> Option Sp} {fr : Fr} {O : Hp} {Q : QA} {ops r : List Oper} {K : Fr -> Hp -> Prop}
end
end Go.Vc

namespace Go.Vc
open Go
section
variable {C : Ctx} {S : FuncId -> Option Sp} {fr : Fr} {O : Hp} {kk : BV -> Prop} {x y z : Operand} {T T' : TypeId}
theorem V.mv {v : BV} (hx : Fr.ev C fr x = v) (h : kk v) : valA C S (.move x) fr O kk := by subst hx; exact h
theorem V.as {v : BV} (hx : Fr.ev C fr x = v) (h : kk v) : valA C S (.assign x) fr O kk := by subst hx; exact h
theorem V.bin {op : BinOp} {a b r : PV} {vc : Prop} (hx : Fr.ev C fr x = .p a) (hy : Fr.ev C fr y = .p b) (hr : binP op a b = some (vc, r)) (hvc : vc) (h : kk (.p r)) : valA C S (.binOp op T x y T') fr O kk := by
 show binD C op T _ _ kk
 unfold binD
 rw [hx, hy]
 simp only [binPP, hr]
 exact ⟨hvc, h⟩
theorem V.addI {a b : Int} (hx : Fr.ev C fr x = .p (.v (.int .i64 a))) (hy : Fr.ev C fr y = .p (.v (.int .i64 b))) (h0 : -9223372036854775808 <= a + b /\ a + b <= 9223372036854775807) (h : kk (.p (.v (.int .i64 (a + b))))) : valA C S (.binOp .add T x y T') fr O kk := by
 refine V.bin (r := .v (.int .i64 (a + b))) hx hy ?_ trivial h
 simp only [binP, intBin, if_true, wrap_i64 h0.1 h0.2]
theorem V.subI {a b : Int} (hx : Fr.ev C fr x = .p (.v (.int .i64 a))) (hy : Fr.ev C fr y = .p (.v (.int .i64 b))) (h0 : -9223372036854775808 <= a - b /\ a - b <= 9223372036854775807) (h : kk (.p (.v (.int .i64 (a - b))))) : valA C S (.binOp .sub T x y T') fr O kk := by
 refine V.bin (r := .v (.int .i64 (a - b))) hx hy ?_ trivial h
 simp only [binP, intBin, if_true, wrap_i64 h0.1 h0.2]
theorem V.mulI {a b : Int} (hx : Fr.ev C fr x = .p (.v (.int .i64 a))) (hy : Fr.ev C fr y = .p (.v (.int .i64 b))) (h0 : -9223372036854775808 <= a * b /\ a * b <= 9223372036854775807) (h : kk (.p (.v (.int .i64 (a * b))))) : valA C S (.binOp .mul T x y T') fr O kk := by
 refine V.bin (r := .v (.int .i64 (a * b))) hx hy ?_ trivial h
 simp only [binP, intBin, if_true, wrap_i64 h0.1 h0.2]
theorem V.remI {a b : Int} (hx : Fr.ev C fr x = .p (.v (.int .i64 a))) (hy : Fr.ev C fr y = .p (.v (.int .i64 b))) (h0 : 0 <= a /\ 0 < b) (h : kk (.p (.v (.int .i64 (a % b))))) : valA C S (.binOp .rem T x y T') fr O kk := by
 refine V.bin (r := .v (.int .i64 (a % b))) (vc := b ≠ 0) hx hy ?_ (by omega) h
 simp only [binP, intBin, if_true, Int.tmod_eq_emod_of_nonneg h0.1]
theorem V.eqBool {a b : Bool} {z : Option (Nat -> Value)} {s1 s2 : Nat} (hT : C.ty T = some ⟨.bool, s1, s2, z⟩) (hx : Fr.ev C fr x = .p (.v (.bool a))) (hy : Fr.ev C fr y = .p (.v (.bool b))) (h : kk (.p (.v (.bool (a == b))))) : valA C S (.binOp .eql T x y T') fr O kk := by
 show binD C _ T _ _ kk
 unfold binD
 rw [hx, hy]
 simp only [binPP, binP, eqDD, eqD, hT, Option.map_some]
 exact ⟨trivial, h⟩
theorem V.not {b : Bool} (hx : Fr.ev C fr x = .p (.v (.bool b))) (h : kk (.p (.v (.bool !b)))) : valA C S (.unOp .not T x) fr O kk := by
 show unA _ _ kk
 rw [hx]; exact h
theorem V.cvN {kd : IntKind} {a r : PV} {z : Option (Nat -> Value)} {s1 s2 : Nat} {ts : Ty} {Ts Td : TypeId} (hd : C.ty Td = some ⟨.int kd, s1, s2, z⟩) (hs : C.ty Ts = some ts) (hx : Fr.ev C fr x = .p a) (hr : convN kd a = some r) (h : kk (.p r)) : valA C S (.convert Ts Td x) fr O kk := by
 show convA C O _ _ _ kk
 simp only [convA, hd, Option.map_some, hs, hx, hr]
 exact ⟨rfl, h⟩
theorem V.cvBs {l : List UInt8} {z : Option (Nat -> Value)} {s1 s2 : Nat} {Ts Td : TypeId} (hd : C.ty Td = some ⟨.string, s1, s2, z⟩) (hs : isBs C Ts) (hx : Fr.ev C fr x = .p (.bs l)) (h : kk (.p (.str l))) : valA C S (.convert Ts Td x) fr O kk := by
 show convA C O _ _ _ kk
 simp only [convA, hd, Option.map_some, hx]
 exact ⟨hs, h⟩
theorem V.ext {n i : Nat} {f : Nat -> BV} {v : BV} (hx : Fr.ev C fr x = .tup n f) (hi : i < n) (hv : f i = v) (h : kk v) : valA C S (.extract x i) fr O kk := by
 show extA _ _ kk
 rw [hx]; subst hv; exact ⟨hi, h⟩
theorem V.ncPtr {t off : Nat} (hx : Fr.ev C fr x = .ptr t off) (h : kk (.ptr t off)) : valA C S (.nilCheck x) fr O kk := by
 show nilChkA _ kk
 rw [hx]; exact h
theorem V.ldRp {ty : Ty} {m : Nat} {f : Nat -> PV} {v : PV} (hT : C.ty T = some ty) (hd : ty.d.agg = false) (hx : Fr.ev C fr x = .rp m f) (hm : 0 < m) (hv : f 0 = v) (h : kk (.p v)) : valA C S (.load T x) fr O kk := by
 show loadA C O T _ kk
 subst hv
 simp only [loadA, hT, hd, hx]
 exact ⟨hm, h⟩
theorem V.ldRpA {ty : Ty} {m : Nat} {f : Nat -> PV} (hT : C.ty T = some ty) (hd : ty.d.agg = true) (hx : Fr.ev C fr x = .rp m f) (hm : ty.size <= m) (h : kk (.agg ty.size f)) : valA C S (.load T x) fr O kk := by
 show loadA C O T _ kk
 simp only [loadA, hT, hd, hx]
 exact ⟨hm, h⟩
theorem V.ldPtr {ty : Ty} {t off : Nat} {ob : OB} {v : BV} (hT : C.ty T = some ty) (hd : ty.d.agg = false) (hx : Fr.ev C fr x = .ptr t off) (hO : Hp.get O t = some ob) (hm : off < ob.n) (hv : ob.c.get off = v) (h : kk v) : valA C S (.load T x) fr O kk := by
 show loadA C O T _ kk
 subst hv
 simp only [loadA, hT, hd, hx, hO]
 exact ⟨hm, h⟩
theorem V.ldPtrA {ty : Ty} {t off : Nat} {ob : OB} {f : Nat -> PV} (hT : C.ty T = some ty) (hd : ty.d.agg = true) (hx : Fr.ev C fr x = .ptr t off) (hO : Hp.get O t = some ob) (hp : ob.c.plain off ty.size = some f) (hm : off + ty.size <= ob.n) (h : kk (.agg ty.size f)) : valA C S (.load T x) fr O kk := by
 show loadA C O T _ kk
 simp only [loadA, hT, hd, hx, hO, hp]
 exact ⟨hm, h⟩
theorem V.ixBs {mi : Nat} {e : TypeId} {z : Option (Nat -> Value)} {s1 s2 : Nat} {te : Ty} {l : List UInt8} {i : Int} (hT : C.ty T = some ⟨.slice e, s1, s2, z⟩) (he : C.ty e = some te) (hs : te.size = 1) (hx : Fr.ev C fr x = .p (.bs l)) (hy : Fr.ev C fr y = .p (.v (.int .i64 i))) (hi : 0 <= i /\ i < l.length) (hmi : i.toNat = mi) (h : kk (.rp 1 (fun _ => .u8 (l.getD mi 0)))) : valA C S (.indexAddr T x y) fr O kk := by
 subst hmi
 show ixA C O T _ _ kk
 simp only [ixA, hx, hy, BV.toI, PV.toI, hT, Option.map_some, elt, he]
 exact ⟨hi, hs, h⟩
theorem V.ixSl {e : TypeId} {z : Option (Nat -> Value)} {s1 s2 : Nat} {te : Ty} {n s : Nat} {f : Nat -> PV} {i : Int} (hT : C.ty T = some ⟨.slice e, s1, s2, z⟩) (he : C.ty e = some te) (hs : s = te.size) (h1 : 0 < te.size) (hx : Fr.ev C fr x = .p (.sl n s f)) (hy : Fr.ev C fr y = .p (.v (.int .i64 i))) (hi : 0 <= i /\ i < n) (h : kk (.rp te.size (rpAt f i.toNat te.size))) : valA C S (.indexAddr T x y) fr O kk := by
 show ixA C O T _ _ kk
 simp only [ixA, hx, hy, BV.toI, PV.toI, hT, Option.map_some, elt, he]
 exact ⟨hi, hs, h1, h⟩
theorem V.ixOwn {e : TypeId} {z : Option (Nat -> Value)} {s1 s2 : Nat} {te : Ty} {t off n : Nat} {ob : OB} {i : Int} (hT : C.ty T = some ⟨.slice e, s1, s2, z⟩) (he : C.ty e = some te) (hx : Fr.ev C fr x = .own t off n) (hO : Hp.get O t = some ob) (hs : ob.s = te.size) (hy : Fr.ev C fr y = .p (.v (.int .i64 i))) (hi : 0 <= i /\ i < n) (h : kk (.ptr t (off + i.toNat * te.size))) : valA C S (.indexAddr T x y) fr O kk := by
 show ixA C O T _ _ kk
 simp only [ixA, hx, hy, BV.toI, PV.toI, hT, Option.map_some, elt, he, hO]
 exact ⟨hi, hs, h⟩
theorem V.ixArr {e n : Nat} {z : Option (Nat -> Value)} {s1 s2 : Nat} {te : Ty} {m : Nat} {f : Nat -> PV} {i : Int} (hT : C.ty T = some ⟨.array n e, s1, s2, z⟩) (he : C.ty e = some te) (hx : Fr.ev C fr x = .rp m f) (hm : n * te.size <= m) (hy : Fr.ev C fr y = .p (.v (.int .i64 i))) (hi : 0 <= i /\ i < n) (h : kk (.rp te.size (rpAt f i.toNat te.size))) : valA C S (.indexAddr T x y) fr O kk := by
 show ixA C O T _ _ kk
 simp only [ixA, hx, hy, BV.toI, PV.toI, hT, Option.map_some, elt, he]
 exact ⟨hi, hm, h⟩
theorem V.faRp {fs : List (Nat × TypeId)} {z : Option (Nat -> Value)} {s1 s2 i off : Nat} {ft : TypeId} {te : Ty} {m : Nat} {f : Nat -> PV} (hT : C.ty T = some ⟨.struct fs, s1, s2, z⟩) (hi : fs[i]? = some (off, ft)) (he : C.ty ft = some te) (h1 : 0 < te.size) (hx : Fr.ev C fr x = .rp m f) (hm : off <= m) (h : kk (.rp (m - off) (fun j => f (off + j)))) : valA C S (.fieldAddr T x i) fr O kk := by
 show fadA C O T _ i kk
 simp only [fadA, hT, Option.map_some, hi, elt, he, hx]
 exact ⟨h1, hm, h⟩
theorem V.faPtr {fs : List (Nat × TypeId)} {z : Option (Nat -> Value)} {s1 s2 i foff : Nat} {ft : TypeId} {te : Ty} {t off : Nat} {ob : OB} (hT : C.ty T = some ⟨.struct fs, s1, s2, z⟩) (hi : fs[i]? = some (foff, ft)) (he : C.ty ft = some te) (h1 : 0 < te.size) (hx : Fr.ev C fr x = .ptr t off) (hO : Hp.get O t = some ob) (hm : off + foff <= ob.n) (h : kk (.ptr t (off + foff))) : valA C S (.fieldAddr T x i) fr O kk := by
 show fadA C O T _ i kk
 simp only [fadA, hT, Option.map_some, hi, elt, he, hx, hO]
 exact ⟨h1, hm, h⟩
theorem V.len {e : TypeId} {z : Option (Nat -> Value)} {s1 s2 : Nat} {n : Nat} {v : BV} (hT : C.ty T = some ⟨.slice e, s1, s2, z⟩) (hx : Fr.ev C fr x = v) (hn : v.len = some n) (h : kk (.p (.v (.int .i64 (n : Int))))) : valA C S (.call ⟨.builtin .len, #[x], #[T]⟩) fr O kk := by
 show lenA C T _ kk
 simp only [lenA, hT, Option.map_some, hx, hn]
 exact h
theorem V.cutBs {e : TypeId} {z : Option (Nat -> Value)} {s1 s2 : Nat} {te : Ty} {b b' : List UInt8} {lo hi mx : Option Operand} {l hh : Int} (hT : C.ty T = some ⟨.slice e, s1, s2, z⟩) (he : C.ty e = some te) (hs : te.size = 1) (hx : Fr.ev C fr x = .p (.bs b))
  (hl : bnd C fr lo 0 = some l) (hhh : bnd C fr hi b.length = some hh) (hb : 0 <= l /\ l <= hh /\ hh <= b.length) (hm : mx = none ∨ ∃ y m, mx = some y /\ hi.isSome = true /\ (Fr.ev C fr y).toI = some m /\ hh <= m /\ m <= b.length) (hv : (b.take hh.toNat).drop l.toNat = b') (h : kk (.p (.bs b'))) : valA C S (.slice T x lo hi mx) fr O kk := by
 show cutA C fr O T _ lo hi mx kk
 subst hv
 simp only [cutA, hT, Option.map_some, hx, BV.len, elt, he, hl, hhh]
 refine ⟨hb, ?_, hs, h⟩
 rcases hm with rfl | ⟨y, m, rfl, h1, h2, h3⟩
 ·trivial
 ·simp only [h2]; exact ⟨h1, h3⟩
theorem V.pkTrue {u : BV} (hc : Fr.ev C fr x = .p (.v (.bool true))) (hx : Fr.ev C fr y = u) (h : kk u) : valA C S (.pick x y z) fr O kk := by
 show pickD _ _ _ kk
 rw [hc, hx]
 show pickI true u _ kk
 unfold pickI
 split
 ·exact h
 ·exact ⟨fun _ => h, (fun e => by cases e)⟩
theorem V.pkFalse {u : BV} (hc : Fr.ev C fr x = .p (.v (.bool false))) (hx : Fr.ev C fr z = u) (h : kk u) : valA C S (.pick x y z) fr O kk := by
 show pickD _ _ _ kk
 rw [hc, hx]
 show pickI false _ u kk
 unfold pickI
 split
 ·exact h
 ·exact ⟨(fun e => by cases e), fun _ => h⟩
end
end Go.Vc
