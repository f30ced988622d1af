/- What is proved: rules for told frames and blocks (each step of a function, as a rule over what its slots hold); no condition. Used by the laws of this seat. -/
import Derived.Test.YtdpdgejnfhjomaaDoorFrame1
import Derived.Scope
import Derived.ScopeJumps
import Derived.LoopNIn
import Derived.ProofKit
import Derived.LaidMore
import Derived.OpenShut
import Derived.Stop.Joined
import Derived.Carry
import Derived.Deep.Slices
set_option linter.unusedVariables false
set_option linter.unusedSimpArgs false
namespace Go.Vc
open Go
def noCall : Op -> Bool
 | .call c => match c.callee with
  | .builtin .len => true
  | .builtin .min => true
  | .builtin .max => true
  | .builtin .real => true
  | .builtin .imag => true
  | .builtin .complex => true
  | _ => false
 | _ => true
section
variable {C : Ctx} {S : FuncId -> Option Sp} {fr : Fr} {O : Hp} {k : OpK} {ops r : List Oper} {K : Fr -> Hp -> Prop} {op : Op} {T : TypeId} {pos : String} {af : Array Edge}
theorem A.v (hn : noCall op = true) (h : valA C S op fr O fun x => k fr x O) : opA C S op fr O k := by
 cases op with
 | pick c x y => exact pickD_A (kk := fun x => k fr x O) (show pickD _ _ _ _ from h)
 | binOp o t x y t' =>
  have h2 : binD C o t (Fr.ev C fr x) (Fr.ev C fr y) (fun x => k fr x O) := h
  exact binD_A h2
 | convert s d x => exact Or.inl h
 | call c =>
  obtain ⟨callee, args, ats⟩ := c
  cases callee with
  | builtin b =>
   cases b <;> first | (simp [noCall] at hn; done) | exact h | skip
   show bltA C fr O .len args.toList ats.toList k
   have h' : (match args.toList, ats.toList with | [x], [T] => lenA C T (Fr.ev C fr x) (fun x => k fr x O) | _, _ => False) := h
   revert h'
   cases args.toList with
   | nil => exact fun h => h.elim
   | cons x xs =>
    cases xs with
    | nil =>
     cases ats.toList with
     | nil => exact fun h => h.elim
     | cons t ts => cases ts <;> first | exact fun h => h | exact fun h => h.elim
    | cons y ys => exact fun h => h.elim
  | _ => simp [noCall] at hn
 | _ => first | exact h | exact h.elim
theorem So.n {d : Tmp} (hd : d < C.nt) (h : opA C S op fr O fun fr x O => opsA C S ops r ((d, x) :: fr) O K) : opsA C S ops (⟨some d, op, T, pos, af, none⟩ :: r) fr O K := by
 show opA C S op fr O (fun fr x O => dstA C.nt (some d) x fr fun fr => opsA C S ops r fr O K)
 have e : (fun fr x O => dstA C.nt (some d) x fr fun fr => opsA C S ops r fr O K) = (fun (fr : Fr) x O => opsA C S ops r ((d, x) :: fr) O K) := by
  funext fr x O
  exact propext ⟨fun h => h.2, fun h => ⟨hd, h⟩⟩
 rw [e]; exact h
theorem So.s (h : opA C S op fr O fun fr x O => opsA C S ops r fr O K) : opsA C S ops (⟨none, op, T, pos, af, none⟩ :: r) fr O K := h
theorem So.e (h : K fr O) : opsA C S ops [] fr O K := h
theorem Sd.n {d : Tmp} (hd : d < C.nt) (h : valA C S op fr O fun x => drawA C S ops r ((d, x) :: fr) O K) : drawA C S ops (⟨some d, op, T, pos, af, none⟩ :: r) fr O K := by
 show valA C S op fr O (fun x => dstD C.nt (some d) x fr fun fr => drawA C S ops r fr O K)
 have e : (fun x => dstD C.nt (some d) x fr fun fr => drawA C S ops r fr O K) = (fun x => drawA C S ops r ((d, x) :: fr) O K) := by
  funext x
  exact propext ⟨fun h => h.2, fun h => ⟨hd, h⟩⟩
 rw [e]; exact h
theorem Sd.e (h : K fr O) : drawA C S ops [] fr O K := h
theorem grd_split {g gd : Nat} {want b : Bool} {y n : Fr -> Prop} (hg : gslot ops g = some gd) (hb : Fr.get fr gd = .p (.v (.bool b))) (hlt : gd < C.nt) (h1 : b = want -> y ((gd, .p (.v (.bool want))) :: fr)) (h2 : b = !want -> n ((gd, .p (.v (.bool !want))) :: fr)) : grdA C ops (some (g, want)) fr y n := by
 simp only [grdA, hg, hb]; exact ⟨hlt, h1, h2⟩
theorem grd_yes {g gd : Nat} {want : Bool} {y n : Fr -> Prop} (hg : gslot ops g = some gd) (hb : Fr.get fr gd = .p (.v (.bool want))) (hlt : gd < C.nt) (h1 : y ((gd, .p (.v (.bool want))) :: fr)) : grdA C ops (some (g, want)) fr y n :=
 grd_split hg hb hlt (fun _ => h1) (fun e => by cases want <;> cases e)
theorem grd_no {g gd : Nat} {want b : Bool} {y n : Fr -> Prop} (hg : gslot ops g = some gd) (hb : Fr.get fr gd = .p (.v (.bool b))) (he : b = !want) (hlt : gd < C.nt) (h2 : n ((gd, .p (.v (.bool !want))) :: fr)) : grdA C ops (some (g, want)) fr y n :=
 grd_split hg hb hlt (fun e => by subst he; cases want <;> cases e) (fun _ => h2)
theorem grd_un {g gd : Nat} {want : Bool} {vs : Array Value} {y n : Fr -> Prop} (hg : gslot ops g = some gd) (hb : Fr.get fr gd = .p (.v (.tuple vs))) (h2 : n fr) : grdA C ops (some (g, want)) fr y n := by
 simp only [grdA, hg, hb]; exact h2
theorem So.gd {d g gd : Nat} {want b : Bool} (hg : gslot ops g = some gd) (hb : Fr.get fr gd = .p (.v (.bool b))) (hlt : gd < C.nt) (hd : d < C.nt)
  (h1 : b = want -> opA C S op ((gd, .p (.v (.bool want))) :: fr) O fun fr x O => opsA C S ops r ((d, x) :: fr) O K) (h2 : b = !want -> opsA C S ops r ((d, .p (.v undef)) :: (gd, .p (.v (.bool !want))) :: fr) O K) :
  opsA C S ops (⟨some d, op, T, pos, af, some (g, want)⟩ :: r) fr O K :=
 grd_split hg hb hlt (fun e => So.n (T := T) (pos := pos) (af := af) hd (h1 e)) (fun e => ⟨hd, h2 e⟩)
theorem So.gy {d g gd : Nat} {want : Bool} (hg : gslot ops g = some gd) (hb : Fr.get fr gd = .p (.v (.bool want))) (hlt : gd < C.nt) (hd : d < C.nt)
  (h1 : opA C S op ((gd, .p (.v (.bool want))) :: fr) O fun fr x O => opsA C S ops r ((d, x) :: fr) O K) :
  opsA C S ops (⟨some d, op, T, pos, af, some (g, want)⟩ :: r) fr O K := grd_yes hg hb hlt (So.n (T := T) (pos := pos) (af := af) hd h1)
theorem So.gn {d g gd : Nat} {want b : Bool} (hg : gslot ops g = some gd) (hb : Fr.get fr gd = .p (.v (.bool b))) (he : b = !want) (hlt : gd < C.nt) (hd : d < C.nt)
  (h2 : opsA C S ops r ((d, .p (.v undef)) :: (gd, .p (.v (.bool !want))) :: fr) O K) :
  opsA C S ops (⟨some d, op, T, pos, af, some (g, want)⟩ :: r) fr O K := grd_no hg hb he hlt ⟨hd, h2⟩
theorem So.gu {d g gd : Nat} {want : Bool} {vs : Array Value} (hg : gslot ops g = some gd) (hb : Fr.get fr gd = .p (.v (.tuple vs))) (hd : d < C.nt) (h2 : opsA C S ops r ((d, .p (.v undef)) :: fr) O K) :
  opsA C S ops (⟨some d, op, T, pos, af, some (g, want)⟩ :: r) fr O K := grd_un hg hb ⟨hd, h2⟩
theorem Sd.gd {d g gd : Nat} {want b : Bool} (hg : gslot ops g = some gd) (hb : Fr.get fr gd = .p (.v (.bool b))) (hlt : gd < C.nt) (hd : d < C.nt)
  (h1 : b = want -> valA C S op ((gd, .p (.v (.bool want))) :: fr) O fun x => drawA C S ops r ((d, x) :: (gd, .p (.v (.bool want))) :: fr) O K) (h2 : b = !want -> drawA C S ops r ((d, .p (.v undef)) :: (gd, .p (.v (.bool !want))) :: fr) O K) :
  drawA C S ops (⟨some d, op, T, pos, af, some (g, want)⟩ :: r) fr O K :=
 grd_split hg hb hlt (fun e => Sd.n (T := T) (pos := pos) (af := af) hd (h1 e)) (fun e => ⟨hd, h2 e⟩)
theorem Sd.gy {d g gd : Nat} {want : Bool} (hg : gslot ops g = some gd) (hb : Fr.get fr gd = .p (.v (.bool want))) (hlt : gd < C.nt) (hd : d < C.nt)
  (h1 : valA C S op ((gd, .p (.v (.bool want))) :: fr) O fun x => drawA C S ops r ((d, x) :: (gd, .p (.v (.bool want))) :: fr) O K) :
  drawA C S ops (⟨some d, op, T, pos, af, some (g, want)⟩ :: r) fr O K := grd_yes hg hb hlt (Sd.n (T := T) (pos := pos) (af := af) hd h1)
theorem Sd.gn {d g gd : Nat} {want b : Bool} (hg : gslot ops g = some gd) (hb : Fr.get fr gd = .p (.v (.bool b))) (he : b = !want) (hlt : gd < C.nt) (hd : d < C.nt)
  (h2 : drawA C S ops r ((d, .p (.v undef)) :: (gd, .p (.v (.bool !want))) :: fr) O K) :
  drawA C S ops (⟨some d, op, T, pos, af, some (g, want)⟩ :: r) fr O K := grd_no hg hb he hlt ⟨hd, h2⟩
theorem Sd.gu {d g gd : Nat} {want : Bool} {vs : Array Value} (hg : gslot ops g = some gd) (hb : Fr.get fr gd = .p (.v (.tuple vs))) (hd : d < C.nt) (h2 : drawA C S ops r ((d, .p (.v undef)) :: fr) O K) :
  drawA C S ops (⟨some d, op, T, pos, af, some (g, want)⟩ :: r) fr O K := grd_un hg hb ⟨hd, h2⟩
end
def leL : List BV -> List BV -> Prop
 | [], [] => True
 | x :: r, y :: r' => x.le y /\ leL r r'
 | _, _ => False
theorem leL_get : ∀ {xs ys : List BV}, leL xs ys -> xs.length = ys.length /\ ∀ (i : Nat) (y : BV), ys[i]? = some y -> ∃ x, xs[i]? = some x /\ x.le y
 | [], [], _ => ⟨rfl, fun i y h => by simp at h⟩
 | x :: r, y :: r', h => by
  obtain ⟨h1, h2⟩ := leL_get h.2
  refine ⟨by simp [h1], fun i z hz => ?_⟩
  cases i with
  | zero => simp only [List.getElem?_cons_zero, Option.some.injEq] at hz; subst hz; exact ⟨x, rfl, h.1⟩
  | succ i => simpa using h2 i z (by simpa using hz)
 | [], _ :: _, h => h.elim
 | _ :: _, [], h => h.elim
def mkE {α : Type} (args : α -> List BV) (hin : α -> Hp) (pre : α -> Prop) (res : α -> List BV) (hp : α -> Hp) : Spec := fun xs O kk =>
 ∃ a, leL xs (args a) /\ hpW O (hin a) (hin a) /\ pre a /\ kk (res a) (hp a)
theorem mkE_det {α : Type} (args : α -> List BV) (hin : α -> Hp) (pre : α -> Prop) (res : α -> List BV) (hp : α -> Hp) : SpDet (mkE args hin pre res hp) := by
 rintro xs O kk ⟨a, h1, h2, h3, h4⟩
 exact ⟨_, _, h4, fun kk' hk => ⟨a, h1, h2, h3, hk⟩⟩
def SubL (σ : Nat -> Nat) : Hp -> Hp -> Prop
 | [], _ => True
 | (t, ob) :: r, O => Hp.get O (σ t) = some (ob.ren σ) /\ SubL σ r O
theorem SubL.subH {σ : Nat -> Nat} {O : Hp} : ∀ {O2 : Hp}, SubL σ O2 O -> SubH σ O2 O
 | [], _, t, ob, h => by simp [Hp.get] at h
 | (k, o) :: r, h, t, ob, hg => by
  simp only [Hp.get] at hg
  split at hg
  ·rename_i e; subst e; cases hg; exact h.1
  ·exact SubL.subH h.2 t ob hg
def InnL (O : Hp) : Hp -> Prop
 | [] => True
 | (t, ob) :: r => ob.c.inn O /\ InnL O r
theorem InnL.get {O : Hp} : ∀ {O2 : Hp}, InnL O O2 -> ∀ t ob, Hp.get O2 t = some ob -> ob.c.inn O
 | [], _, t, ob, h => by simp [Hp.get] at h
 | (k, o) :: r, h, t, ob, hg => by
  simp only [Hp.get] at hg
  split at hg
  ·rename_i e; subst e; cases hg; exact h.1
  ·exact InnL.get h.2 t ob hg
def nd : List Nat -> Bool
 | [] => true
 | a :: r => !(r.any (· == a)) && nd r
theorem nd_inj {σ : Nat -> Nat} : ∀ {O : Hp}, nd ((doms O).map σ) = true -> InjH σ O
 | [], _, t, ob, t', ob', h, _, _ => by simp [Hp.get] at h
 | (k, o) :: r, h, t, ob, t', ob', h1, h2, he => by
  simp only [doms, List.map_cons, nd, Bool.and_eq_true, Bool.not_eq_true', List.any_eq_false, List.mem_map, beq_iff_eq] at h
  obtain ⟨h3, h4⟩ := h
  have mem : ∀ a oa, Hp.get r a = some oa -> a ∈ doms r := fun a oa ha => doms_mem.2 (by rw [ha]; rfl)
  simp only [Hp.get] at h1 h2
  by_cases e1 : k = t
  ·by_cases e2 : k = t'
   ·omega
   ·rw [if_neg e2] at h2
    exact absurd (by rw [<- he, e1]) (h3 (σ t') ⟨t', mem _ _ h2, rfl⟩)
  ·rw [if_neg e1] at h1
   by_cases e2 : k = t'
   ·exact absurd (by rw [he, e2]) (h3 (σ t) ⟨t, mem _ _ h1, rfl⟩)
   ·rw [if_neg e2] at h2
    exact nd_inj h4 t ob t' ob' h1 h2 he
def disjB (l m : List Nat) : Bool := l.all fun t => !(m.any (· == t))
theorem disjB_spec {l m : List Nat} (h : disjB l m = true) : ∀ t, t ∈ l -> t ∉ m := by
 intro t ht hm
 have := List.all_eq_true.1 h t ht
 simp only [Bool.not_eq_true', List.any_eq_false, beq_iff_eq] at this
 exact this t hm rfl
def pinK : List Nat -> Hp -> Hp -> Prop
 | [], _, _ => True
 | t :: r, Oc, O2 => (∃ ob ob2, Hp.get Oc t = some ob /\ Hp.get O2 t = some ob2 /\ ob2.s = ob.s /\ ob.n <= ob2.n) /\ pinK r Oc O2
theorem pinK_spec {Oc O2 : Hp} : ∀ {l : List Nat}, pinK l Oc O2 -> ∀ t, t ∈ l -> ∃ ob ob2, Hp.get Oc t = some ob /\ Hp.get O2 t = some ob2 /\ ob2.s = ob.s /\ ob.n <= ob2.n
 | a :: r, h, t, ht => by
  rcases List.mem_cons.1 ht with rfl | ht
  ·exact h.1
  ·exact pinK_spec h.2 t ht
theorem CV.ren_id (c : CV) : c.ren id = c := by cases c <;> rfl
theorem BV.ren_id : ∀ x : BV, x.ren id = x
 | .dead => rfl
 | .p _ => rfl
 | .own _ _ _ => rfl
 | .ptr _ _ => rfl
 | .mv _ _ _ => rfl
 | .rp _ _ => rfl
 | .agg _ _ => rfl
 | .clo fn caps => by
  simp only [BV.ren]
  congr 1
  have : (CV.ren id) = id := by funext c; exact CV.ren_id c
  rw [this]; simp
 | .tup n f => by
  simp only [BV.ren]
  congr 1
  funext j; exact BV.ren_id (f j)
 | .ag n f => by
  simp only [BV.ren]
  congr 1
  funext j; exact BV.ren_id (f j)
theorem BV.bare_inn {O : Hp} {x : BV} (h : x.bare) : x.inn O := by
 cases x with
 | clo fn caps =>
  have : ∀ caps : List CV, (∀ c, c ∈ caps -> match c with | .p _ => True | .ptr _ _ => False) -> CV.innL O caps := by
   intro caps
   induction caps with
   | nil => intro _; trivial
   | cons c r ih =>
    intro h
    refine ⟨?_, ih fun c hc => h c (List.mem_cons_of_mem _ hc)⟩
    have := h c List.mem_cons_self
    cases c
    ·trivial
    ·exact this.elim
  exact this caps h
 | own _ _ _ => exact h.elim
 | ptr _ _ => exact h.elim
 | mv _ _ _ => exact h.elim
 | tup _ _ => exact h.elim
 | ag _ _ => exact h.elim
 | _ => trivial
theorem bareL_innL {O : Hp} : ∀ {l : List BV}, bareL l -> BV.innL O l
 | [], _ => trivial
 | x :: r, h => ⟨BV.bare_inn h.1, bareL_innL h.2⟩
section
variable {C : Ctx} {S : FuncId -> Option Sp} {fr : Fr} {O : Hp} {k : OpK} {α : Type} {argE : α -> List BV} {hin : α -> Hp} {pre : α -> Prop} {Φ : α -> Prop} {res : α -> List BV} {hp : α -> Hp} {x : Operand} {args : Array Operand} {ats : Array TypeId} {f : FuncId}
theorem K.call {caps : List CV} {pins : List Nat} {fr' : Fr} {v : BV} {O' : Hp} (xs : List BV) (Oc : Hp) (σ : Nat -> Nat) (k0 : Nat) (hx : Fr.ev C fr x = .clo f caps) (hs : S f = some ⟨pins, mkE argE hin pre res hp⟩) (hk : fresh O = k0)
  (hargs : lendKL C fr O ((doms Oc).map σ) args.toList ++ capL caps = xs.map (BV.ren σ)) (hsub : SubL σ Oc O) (hinj : nd ((doms Oc).map σ) = true) (hinn : InnL Oc Oc) (hinx : BV.innL Oc xs) (hpl : pinL k0 C.pins)
  (hcp : disjB (((doms Oc).filter fun t => t ∉ pins).map σ) C.pins = true) (a : α) (hle : leL xs (argE a)) (hin' : hpW Oc (hin a) (hin a)) (hpre : pre a) (hΦ : ∀ a, pre a -> Φ a) (hpk : pinK pins Oc (hp a)) (hsc : tagsKL C fr ((doms Oc).map σ) args.toList = [] ∨ ((resV (res a)).scal /\ (hp a).scal))
  (hfr : ((doms Oc).filter (fun t => t ∉ pins)).foldr (fun t fr => Fr.kill (σ t) fr) fr = fr') (hv : (resV (res a)).ren (τL pins σ k0) = v) (hO : Hp.ren (τL pins σ k0) (hp a) ++ Hp.killL ((doms Oc).map σ) O = O') (h : Φ a -> k fr' v O') :
  callA C S fr O (Fr.ev C fr x) args.toList k := by
 rw [hx]
 simp only [callA, hs]
 subst hk
 refine ⟨xs, Oc, σ, hargs, hsub.subH, nd_inj hinj, hinn.get, hinx, hpl, fun t ht hp => disjB_spec hcp (σ t) (List.mem_map.2 ⟨t, List.mem_filter.2 ⟨ht, by simpa using hp⟩, rfl⟩), ?_⟩
 refine ⟨a, hle, hin', hpre, pinK_spec hpk, hsc, ?_⟩
 rw [hfr, hv, hO]; exact h (hΦ a hpre)
theorem K.call0 {v : BV} {O' : Hp} (xs : List BV) (k0 : Nat) (hx : Fr.ev C fr x = .clo f []) (hs : S f = some ⟨[], mkE argE hin pre res hp⟩) (hk : fresh O = k0) (hargs : lendL C fr O args.toList = xs) (hb : bareL xs) (hpl : pinL k0 C.pins)
  (a : α) (hle : leL xs (argE a)) (hin' : hpW [] (hin a) (hin a)) (hpre : pre a) (hΦ : ∀ a, pre a -> Φ a) (hsc : tagsL C fr args.toList = [] ∨ ((resV (res a)).scal /\ (hp a).scal)) (hv : (resV (res a)).ren (· + k0) = v) (hO : Hp.ren (· + k0) (hp a) ++ O = O') (h : Φ a -> k fr v O') :
  callA C S fr O (Fr.ev C fr x) args.toList k := by
 have e : τL [] id k0 = (· + k0) := by funext t; simp [τL]
 refine K.call (fr' := fr) (v := v) (O' := O') xs [] id k0 hx hs hk ?_ trivial rfl trivial (bareL_innL hb) hpl rfl a hle hin' hpre hΦ trivial (by simpa [doms, tagsKL_nil] using hsc) rfl (by rw [e]; exact hv) (by rw [e]; exact hO) h
 ·have e2 : BV.ren id = id := by funext y; exact BV.ren_id y
  simp only [doms, List.map_nil, lendKL_nil]
  rw [hargs, e2]; simp [capL]
theorem A.call {caps : List CV} {pins : List Nat} {fr' : Fr} {v : BV} {O' : Hp} (xs : List BV) (Oc : Hp) (σ : Nat -> Nat) (k0 : Nat) (hx : Fr.ev C fr x = .clo f caps) (hs : S f = some ⟨pins, mkE argE hin pre res hp⟩) (hk : fresh O = k0)
  (hargs : lendKL C fr O ((doms Oc).map σ) args.toList ++ capL caps = xs.map (BV.ren σ)) (hsub : SubL σ Oc O) (hinj : nd ((doms Oc).map σ) = true) (hinn : InnL Oc Oc) (hinx : BV.innL Oc xs) (hpl : pinL k0 C.pins)
  (hcp : disjB (((doms Oc).filter fun t => t ∉ pins).map σ) C.pins = true) (a : α) (hle : leL xs (argE a)) (hin' : hpW Oc (hin a) (hin a)) (hpre : pre a) (hΦ : ∀ a, pre a -> Φ a) (hpk : pinK pins Oc (hp a)) (hsc : tagsKL C fr ((doms Oc).map σ) args.toList = [] ∨ ((resV (res a)).scal /\ (hp a).scal))
  (hfr : ((doms Oc).filter (fun t => t ∉ pins)).foldr (fun t fr => Fr.kill (σ t) fr) fr = fr') (hv : (resV (res a)).ren (τL pins σ k0) = v) (hO : Hp.ren (τL pins σ k0) (hp a) ++ Hp.killL ((doms Oc).map σ) O = O') (h : Φ a -> k fr' v O') :
  opA C S (.call ⟨.value x, args, ats⟩) fr O k := by
 refine .inl ?_
 show callA C S fr O (Fr.ev C fr x) args.toList k
 rw [hx]
 simp only [callA, hs]
 subst hk
 refine ⟨xs, Oc, σ, hargs, hsub.subH, nd_inj hinj, hinn.get, hinx, hpl, fun t ht hp => disjB_spec hcp (σ t) (List.mem_map.2 ⟨t, List.mem_filter.2 ⟨ht, by simpa using hp⟩, rfl⟩), ?_⟩
 refine ⟨a, hle, hin', hpre, pinK_spec hpk, hsc, ?_⟩
 rw [hfr, hv, hO]; exact h (hΦ a hpre)
theorem A.call0 {v : BV} {O' : Hp} (xs : List BV) (k0 : Nat) (hx : Fr.ev C fr x = .clo f []) (hs : S f = some ⟨[], mkE argE hin pre res hp⟩) (hk : fresh O = k0) (hargs : lendL C fr O args.toList = xs) (hb : bareL xs) (hpl : pinL k0 C.pins)
  (a : α) (hle : leL xs (argE a)) (hin' : hpW [] (hin a) (hin a)) (hpre : pre a) (hΦ : ∀ a, pre a -> Φ a) (hsc : tagsL C fr args.toList = [] ∨ ((resV (res a)).scal /\ (hp a).scal)) (hv : (resV (res a)).ren (· + k0) = v) (hO : Hp.ren (· + k0) (hp a) ++ O = O') (h : Φ a -> k fr v O') :
  opA C S (.call ⟨.value x, args, ats⟩) fr O k := by
 have e : τL [] id k0 = (· + k0) := by funext t; simp [τL]
 refine A.call (fr' := fr) (v := v) (O' := O') xs [] id k0 hx hs hk ?_ trivial rfl trivial (bareL_innL hb) hpl rfl a hle hin' hpre hΦ trivial (by simpa [doms, tagsKL_nil] using hsc) rfl (by rw [e]; exact hv) (by rw [e]; exact hO) h
 ·have e2 : BV.ren id = id := by funext y; exact BV.ren_id y
  simp only [doms, List.map_nil, lendKL_nil]
  rw [hargs, e2]; simp [capL]
theorem V.call {kk : BV -> Prop} {v : BV} (xs : List BV) (k0 : Nat) (hx : Fr.ev C fr x = .clo f []) (hs : S f = some ⟨[], mkE argE hin pre res hp⟩) (hk : fresh O = k0) (hargs : lendL C fr O args.toList = xs) (hb : bareL xs) (hpl : pinL k0 C.pins)
  (a : α) (hle : leL xs (argE a)) (hin' : hpW [] (hin a) (hin a)) (hpre : pre a) (hΦ : ∀ a, pre a -> Φ a) (hsc : bareA C fr args.toList ∨ ((resV (res a)).scal /\ (hp a).scal)) (hv : lendR (hp a) (resV (res a)) = v) (h : Φ a -> kk v) :
  valA C S (.call ⟨.value x, args, ats⟩) fr O kk := by
 show callP C S fr O (Fr.ev C fr x) args.toList kk
 rw [hx]
 simp only [callP, hs]
 subst hk
 rw [hargs]
 exact ⟨trivial, hb, a, hle, hin', hpre, hsc, hpl, by rw [hv]; exact h (hΦ a hpre)⟩
def srcB (O : Hp) : BV -> Option (Nat × List UInt8)
 | .p (.bs l) => some (l.length, l)
 | .p (.str l) => some (l.length, l)
 | .p (.v (.slice none 0 0)) => some (0, [])
 | .own t off n => match Hp.get O t with
  | some ⟨_, 1, _, _, .bs l⟩ => some (n, (l.drop off).take n)
  | _ => none
 | _ => none
theorem srcB_A {u : BV} {m : Nat} {l : List UInt8} (h : srcB O u = some (m, l)) {kk : Nat -> Sr -> Prop} (hk : kk m (.bs l)) : srcA O true 1 u kk := by
 unfold srcB at h
 split at h
 ·cases h; exact ⟨rfl, hk⟩
 ·cases h; exact ⟨rfl, hk⟩
 ·cases h; exact hk
 ·split at h
  ·rename_i ho
   cases h
   simp only [srcA, ho]
   exact ⟨trivial, hk⟩
  ·cases h
 ·cases h
variable {d y : Operand} {T T2 e : TypeId} {s1 s2 : Nat} {z : Option (Nat -> Value)}
theorem A.apOwn {zE : Option (Nat -> Value)} {t off n n0 m mn : Nat} {l0 l l' : List UInt8} {u : BV} {fr' : Fr} {O' : Hp} (hT : C.ty T = some ⟨.slice e, s1, s2, z⟩) (he : C.ty e = some ⟨.int .u8, 1, 1, zE⟩) (hz : zE.isSome = true) (h2 : strOrSl C T2 = true)
  (hd : Fr.ev C fr d = .own t off n) (hO : Hp.get O t = some ⟨e, 1, n0, true, .bs l0⟩) (hy : Fr.ev C fr y = u) (hs : srcB O u = some (m, l)) (hl : (l0.drop off).take n ++ l = l') (hmn : n + m = mn) (hm : mn <= 140737488355328) (hp : disjB [t] C.pins = true)
  (hfr : Fr.kill t fr = fr') (hO' : Hp.kill t O = O') (h : k fr' (.own t 0 mn) ((t, ⟨e, 1, mn, true, .bs l'⟩) :: O')) :
  opA C S (.call ⟨.builtin .append, #[d, y], #[T, T2]⟩) fr O k := by
 refine Or.inl ?_
 show appA C fr O T T2 (Fr.ev C fr d) (Fr.ev C fr y) k
 subst hl; subst hfr; subst hO'; subst hmn
 have hu : isU8 C e = true := by simp [isU8, he]
 simp only [appA, hT, Option.map_some, he, hd, hy]
 refine ⟨hz, fun _ => trivial, by omega, by omega, h2, ?_⟩
 rw [hu]
 refine srcB_A hs ?_
 simp only [hO, catA]
 refine ⟨trivial, trivial, trivial, fun hx => disjB_spec hp t (by simp) hx, by omega, ?_⟩
 simpa using h
end
section
variable {C : Ctx} {fr : Fr} {O : Hp} {Q : QA}
theorem le_int {k : IntKind} {a b : Int} (h : a = b) : (BV.p (.v (.int k a))).le (.p (.v (.int k b))) := by subst h; exact .refl _
theorem le_bool {a b : Bool} (h : a = b) : (BV.p (.v (.bool a))).le (.p (.v (.bool b))) := by subst h; exact .refl _
theorem le_u64 {a b : UInt64} (h : a = b) : (BV.p (.u64 a)).le (.p (.u64 b)) := by subst h; exact .refl _
theorem le_bs {a b : List UInt8} (h : a = b) : (BV.p (.bs a)).le (.p (.bs b)) := by subst h; exact .refl _
theorem le_nil {b : List UInt8} (h : b = []) : (BV.p (.v (.slice none 0 0))).le (.p (.bs b)) := by subst h; exact .p _ _ .nilBs
theorem le_sl {n m s : Nat} {f g : Nat -> PV} (h : n = m) (h2 : ∀ j, j < n * s -> f j = g j) : (BV.p (.sl n s f)).le (.p (.sl m s g)) := by subst h; exact .p _ _ (.sl _ _ _ _ fun j hj => by rw [h2 j hj]; exact .refl _)
theorem le_own2 {t off off' n m : Nat} (h0 : off = off') (h : n = m) : (BV.own t off n).le (.own t off' m) := by subst h; subst h0; exact .refl _
theorem le_agg {n : Nat} {f g : Nat -> PV} (h : ∀ j, j < n -> f j = g j) : (BV.agg n f).le (.agg n g) := .agg _ _ _ fun j hj => by rw [h j hj]; exact .refl _
theorem ob_bs {E s n m : Nat} {w : Bool} {l l' : List UInt8} (hn : n = m) (h : l = l') : (⟨E, s, n, w, .bs l⟩ : OB) = ⟨E, s, m, w, .bs l'⟩ := by subst hn; subst h; rfl
theorem ob_rows {E s n m : Nat} {w : Bool} {f g : Nat -> PV} (hn : n = m) (h : ∀ j, j < n -> f j = g j) : (⟨E, s, n, w, .rows f⟩ : OB).le ⟨E, s, m, w, .rows g⟩ := by
 subst hn; exact ⟨rfl, rfl, rfl, rfl, trivial, fun j hj => by show (BV.p (f j)).le (.p (g j)); rw [h j hj]; exact .refl _⟩
def Hp.pick (ts : List Nat) (O : Hp) : Hp := match ts with
 | [] => []
 | t :: r => match Hp.get O t with
  | some ob => (t, ob) :: Hp.pick r O
  | none => Hp.pick r O
theorem R.loop {σ : Type} (front : σ -> Fr) (hfront : σ -> Hp) (ks ts : List Nat) (P : σ -> Prop) (μ : σ -> Nat) (s0 : σ) {c : Code} {fr0 : Fr} {O0 : Hp} (hpick : Fr.pick ks fr = fr0) (hpickH : Hp.pick ts O = O0) (h0 : P s0) (hs : subW fr O (front s0 ++ fr0) (hfront s0 ++ O0))
  (h : ∀ s, P s -> HT C c (front s ++ fr0) (hfront s ++ O0) (thenQ (fun fr O => ∃ s', P s' /\ μ s' < μ s /\ subW fr O (front s' ++ fr0) (hfront s' ++ O0)) Q)) : HT C (.loop c) fr O Q :=
 HT.loopW (fun s => front s ++ fr0) (fun s => hfront s ++ O0) P μ s0 h0 hs h
theorem R.cond {c : Operand} {b : Bool} {t : Nat} {x y : Code} (hc : c = .tmp t) (hb : Fr.get fr t = .p (.v (.bool b))) (h1 : b = true -> HT C x ((t, .p (.v (.bool true))) :: fr) O Q) (h2 : b = false -> HT C y ((t, .p (.v (.bool false))) :: fr) O Q) : HT C (.cond c x y) fr O Q := by
 subst hc
 refine HT.cond ?_
 show condA (Fr.get fr t) _ _
 rw [hb]
 exact ⟨h1, h2⟩
theorem _root_.Go.Vc.St.same_told {C : Ctx} {E : Env} {β : Loc} {fr fr' : Fr} {O : Hp} {a : Act} {w : World} (h : St C E β fr' O a w) (hs : ∀ s, Fr.get fr s = Fr.get fr' s) : St C E β fr O a w :=
 ⟨h.ctx, h.good, h.core, h.defers, h.size, fun d => by rw [hs d]; exact h.slot d, h.xs, h.tok.mono fun d _ e => by rw [<- hs d]; exact e⟩
theorem R.condT {t : Nat} {x y : Code} (hb : Fr.get fr t = .p (.v (.bool true))) (h1 : HT C x fr O Q) : HT C (.cond (.tmp t) x y) fr O Q := by
 refine HT.cond ?_
 show condA (Fr.get fr t) _ _
 rw [hb]
 refine ⟨fun _ => ⟨fun E β a w hst => ?_⟩, (fun e => by cases e)⟩
 exact h1.run E β a w (hst.same_told fun d => by
  simp only [tellB, Fr.get]
  by_cases hd : t = d
  ·subst hd; rw [hb]; simp
  ·rw [if_neg hd])
theorem R.condF {t : Nat} {x y : Code} (hb : Fr.get fr t = .p (.v (.bool false))) (h1 : HT C y fr O Q) : HT C (.cond (.tmp t) x y) fr O Q := by
 refine HT.cond ?_
 show condA (Fr.get fr t) _ _
 rw [hb]
 refine ⟨(fun e => by cases e), fun _ => ⟨fun E β a w hst => ?_⟩⟩
 exact h1.run E β a w (hst.same_told fun d => by
  simp only [tellB, Fr.get]
  by_cases hd : t = d
  ·subst hd; rw [hb]; simp
  ·rw [if_neg hd])
theorem R.cut {x y : Code} (φ : Prop) (front : Fr) (hfront : Hp) (ks ts : List Nat) {fr0 : Fr} {O0 : Hp} (hpick : Fr.pick ks fr = fr0) (hpickH : Hp.pick ts O = O0)
  (h : HT C x fr O (thenQ (fun fr O => φ /\ subW fr O (front ++ fr0) (hfront ++ O0)) Q)) (h2 : φ -> HT C y (front ++ fr0) (hfront ++ O0) Q) : HT C (x.seq y) fr O Q :=
 HT.seq (h.mono fun e fr O hq => by cases e <;> first | exact HT.subW hq.2 (h2 hq.1) | exact hq)
theorem ret_ok {pins : List Nat} {slots : List Tmp} {kk : List BV -> Hp -> Prop} {rs : List BV} {O2 : Hp} (σ : Nat -> Nat) (h : kk rs O2) (hlen : rs.length = slots.length) (hsl : nd slots = true) (hnd : nd ((doms O2).map σ) = true) (hinn : InnL O2 O2) (hinx : BV.innL O2 rs) (hp : pins.all (fun t => σ t == t) = true)
  (hw : subW fr O (List.zip slots (rs.map (BV.ren σ))) (Hp.ren σ O2)) : ∃ fr' O', subW fr O fr' O' /\ retU pins slots kk fr' O' := by
 have hi := nd_inj hnd
 refine ⟨_, _, hw, rs, O2, σ, h, ?_, fun t ob ht => Hp.get_ren hi ht, hi, hinn.get, hinx, fun t ht => by simpa using List.all_eq_true.1 hp t ht⟩
 have aux : ∀ (slots : List Nat) (l : List BV), l.length = slots.length -> nd slots = true -> slots.map (Fr.get (List.zip slots l)) = l := by
  intro slots
  induction slots with
  | nil => intro l hl _; exact (List.eq_nil_of_length_eq_zero (by simpa using hl)).symm
  | cons s r ih =>
   intro l hl hn
   cases l with
   | nil => simp at hl
   | cons x l =>
    simp only [nd, Bool.and_eq_true, Bool.not_eq_true', List.any_eq_false, beq_iff_eq] at hn
    simp only [List.zip_cons_cons, List.map_cons, Fr.get, if_true]
    congr 1
    rw [<- ih l (by simpa using hl) hn.2]
    refine List.map_congr_left fun t ht => ?_
    rw [ih l (by simpa using hl) hn.2, if_neg (fun e => hn.1 t ht e.symm)]
 exact aux slots _ (by simpa using hlen) hsl
end
def lenL : List BV -> Prop
 | [] => True
 | x :: r => x.lenOK /\ lenL r
theorem lenL_of : ∀ {ys : List BV}, (∀ (i : Nat) (y : BV), ys[i]? = some y -> y.lenOK) -> lenL ys
 | [], _ => trivial
 | y :: r, h => ⟨h 0 y rfl, lenL_of fun i z hz => h (i + 1) z (by simpa using hz)⟩
def numb : Nat -> List BV -> Fr
 | _, [] => []
 | i, x :: r => (i, x) :: numb (i + 1) r
theorem numb_argS {xs : List BV} : ∀ {l : List BV} {i : Nat}, (∀ (j : Nat) (y : BV), l[j]? = some y -> ∃ x, xs[i + j]? = some x /\ x.le y) -> argS xs (numb i l)
 | [], _, _ => trivial
 | y :: r, i, h => ⟨h 0 y rfl, numb_argS fun j z hz => by have := h (j + 1) z (by simpa using hz); rwa [show i + (j + 1) = i + 1 + j from by omega] at this⟩
theorem numb_frW {fr : Fr} {O : Hp} : ∀ {l : List BV} {i : Nat}, (∀ (j : Nat) (y : BV), l[j]? = some y -> Fr.get fr (i + j) = y) -> BV.innL O l -> frW fr O (numb i l)
 | [], _, _, _ => trivial
 | y :: r, i, h, hi => ⟨⟨by have := h 0 y rfl; rw [Nat.add_zero] at this; rw [this]; exact .refl _, hi.1⟩, numb_frW (fun j z hz => by have := h (j + 1) z (by simpa using hz); rwa [show i + (j + 1) = i + 1 + j from by omega] at this) hi.2⟩
theorem numb_get : ∀ {l : List BV} {i j : Nat} {y : BV}, l[j]? = some y -> Fr.get (numb i l) (i + j) = y
 | x :: r, i, 0, y, h => by simp at h; subst h; simp [numb, Fr.get]
 | x :: r, i, j + 1, y, h => by
  simp only [numb, Fr.get]
  rw [if_neg (by omega), show i + (j + 1) = i + 1 + j from by omega]
  exact numb_get (by simpa using h)
theorem FOK.ofE {P : Program} {gl : Nat -> Option (Nat × (Nat -> GV))} {ty : TypeId -> Option Ty} (hgood : ∀ T t, ty T = some t -> TyOK P T t) {f : FuncId} {fn : Func} {c : Code} {slots : List Tmp} {nt : Nat} {pins : List Nat}
  {α : Type} {argE : α -> List BV} {hin : α -> Hp} {pre : α -> Prop} {res : α -> List BV} {hp : α -> Hp}
  (hf : P.funcs[f]? = some fn) (hb : fn.body = some c) (hn : fn.ntmps = nt) (hname : (fn.name == "runtime.NumGoroutine") = false) (hres : fn.results = (slots.map ResultVar.tmp).toArray) (hl6 : slots.length <= 6) (ar : Nat) (har : ∀ a, (argE a).length = ar) (hnt : ar <= nt)
  (hinn : ∀ a, BV.innL (hin a) (argE a))
  (h : ∀ a kk, lenL (argE a) -> pre a -> kk (res a) (hp a) -> HT (cx P nt ty gl pins) c (numb 0 (argE a)) (hin a) (retQ pins slots kk)) : FOK P gl f ⟨pins, mkE argE hin pre res hp⟩ := by
 refine FOK.of hgood hf hb hn hname hres hl6 ?_
 rintro xs O kk hlen ⟨a, hle, hh, hpre, hk⟩
 obtain ⟨h1, h2⟩ := leL_get hle
 refine ⟨by have := har a; omega, numb 0 (argE a), numb_argS fun j y hy => by simpa using h2 j y hy, ?_⟩
 refine HT.subW ⟨numb_frW (fun j y hy => ?_) (hinn a), hh⟩ (h a kk (lenL_of fun i y hy => hlen i y (h2 i y hy)) hpre hk)
 exact numb_get hy
end Go.Vc

namespace Go.Vc
open Go
theorem bnT {b : Bool} (h : (!b) = true) : b = false := by cases b <;> simp_all
theorem bnF {b : Bool} (h : (!b) = false) : b = true := by cases b <;> simp_all
def sg : List (Nat × Nat) -> Nat -> Nat
 | [], t => t
 | (a, b) :: r, t => if a = t then b else sg r t
def frzF (C : Ctx) : List Operand -> Fr -> Hp -> Option (Fr × Hp)
 | [], fr, O => some (fr, O)
 | x :: r, fr, O => match Fr.ev C fr x with
  | .own t _ _ => match Hp.get O t with
   | some ob => frzF C r (Fr.frz t ob fr) (Hp.kill t O)
   | none => none
  | _ => frzF C r fr O
theorem frzF_L {C : Ctx} {kk : Fr -> Hp -> Prop} : ∀ {l : List Operand} {fr fr' : Fr} {O O' : Hp}, frzF C l fr O = some (fr', O') -> kk fr' O' -> frzL C l fr O kk
 | [], fr, fr', O, O', h, hk => by cases h; exact hk
 | x :: r, fr, fr', O, O', h, hk => by
  simp only [frzF] at h
  simp only [frzL, frz1]
  cases hx : Fr.ev C fr x with
  | own t off n =>
   rw [hx] at h
   simp only at h ⊢
   cases ht : Hp.get O t with
   | none => rw [ht] at h; cases h
   | some ob => rw [ht] at h; exact frzF_L h hk
  | _ => rw [hx] at h; exact frzF_L h hk
section
variable {C : Ctx} {S : FuncId -> Option Sp} {fr : Fr} {O : Hp} {k : OpK} {x y : Operand} {T e : TypeId} {s1 s2 : Nat} {z : Option (Nat -> Value)}
theorem A.bsl {te : Ty} {ze : Nat -> Value} {len : Nat} {parts : Array (Nat × Operand)} {fr' : Fr} {O1 : Hp} {F : Nat -> BV} {c : OC} {N : Nat} (k0 : Nat) (hT : C.ty T = some ⟨.slice e, s1, s2, z⟩) (he : C.ty e = some te) (hz : te.zero = some ze) (h1 : len * te.size <= 16777216) (h2 : 0 < te.size) (h3 : isU8 C e = true -> te.size = 1)
  (hf : frzF C (parts.toList.map (·.2)) fr O = some (fr', O1)) (hk : fresh O1 = k0) (hp : pinL k0 C.pins) (hl : layL (evs C fr' parts.toList)) (hF : fillF (len * te.size) (fun i => some (i * te.size, te.size)) (fun j => zeroF ze (j % te.size)) (evs C fr' parts.toList) = some F)
  (hN : len * te.size = N) (hc : toOC (isU8 C e) (tab (len * te.size) 0 F) = c) (h : k fr' (.own k0 0 len) ((k0, ⟨e, te.size, N, true, c⟩) :: O1)) : opA C S (.buildSlice T len parts) fr O k := by
 show bslA C fr O T len parts.toList k
 subst hk; subst hc; subst hN
 simp only [bslA, hT, Option.map_some, he, hz]
 refine ⟨h1, h2, h3, frzF_L hf ⟨fun hx => absurd (pinL_spec hp _ hx) (by omega), hl, ?_⟩⟩
 simp only [hF]
 exact h
theorem A.mkB {zE : Nat -> Value} {l c : Int} {n : Nat} (k0 : Nat) (hT : C.ty T = some ⟨.slice e, s1, s2, z⟩) (he : C.ty e = some ⟨.int .u8, 1, 1, some zE⟩) (hz : cst (zE 0) = .u8 0) (hx : Fr.ev C fr x = .p (.v (.int .i64 l))) (hy : Fr.ev C fr y = .p (.v (.int .i64 c))) (h0 : 0 <= l /\ l <= c /\ c <= 281474976710656)
  (hn : l.toNat = n) (hk : fresh O = k0) (hp : pinL k0 C.pins) (h : k fr (.own k0 0 n) ((k0, ⟨e, 1, n, true, .bs (List.replicate n 0)⟩) :: O)) : opA C S (.makeSlice T x y) fr O k := by
 show mkA C fr O T _ _ k
 subst hk; subst hn
 have hu : isU8 C e = true := by simp [isU8, he]
 simp only [mkA, hT, Option.map_some, he, hx, hy, BV.toI, PV.toI, hu]
 exact ⟨⟨h0.1, h0.2.1, by omega⟩, by omega, by omega, fun hx => absurd (pinL_spec hp _ hx) (by omega), trivial, hz, h⟩
theorem A.eqNilBs {l : List UInt8} {T' : TypeId} (hT : C.ty T = some ⟨.slice e, s1, s2, z⟩) (hx : Fr.ev C fr x = .p (.bs l)) (hy : Fr.ev C fr y = .p (.v (.slice none 0 0))) (h1 : l.length = 0 -> k fr (.p (.v (.bool true))) O) (h2 : k fr (.p (.v (.bool false))) O) : opA C S (.binOp .eql T x y T') fr O k := by
 show binA C .eql T (Fr.ev C fr x) (Fr.ev C fr y) (fun r => k fr r O)
 rw [hx, hy]
 simp only [binA, binP, eqA, eqB, hT, Option.map_some, nilQ]
 exact ⟨h1, h2⟩
def srcR (O : Hp) (s : Nat) : BV -> Option (Nat × (Nat -> PV))
 | .p (.sl n s' g) => if s' = s then some (n, g) else none
 | .p (.v (.slice none 0 0)) => some (0, fun _ => .u8 0)
 | .own t off n => match Hp.get O t with
  | some ⟨_, s', _, _, .rows g⟩ => if s' = s then some (n, fun j => g (off + j)) else none
  | _ => none
 | _ => none
theorem srcR_A {s : Nat} {u : BV} {m : Nat} {g : Nat -> PV} (h : srcR O s u = some (m, g)) (hone : ∀ j, j < m * s -> (g j).one) {kk : Nat -> Sr -> Prop} (hk : kk m (.rows g)) : srcA O false s u kk := by
 unfold srcR at h
 split at h
 ·split at h
  ·rename_i e; cases h; exact ⟨e, hone, hk⟩
  ·cases h
 ·cases h; exact hk
 ·split at h
  ·rename_i ho
   split at h
   ·rename_i e
    cases h
    simp only [srcA, ho]
    exact ⟨e, hone, hk⟩
   ·cases h
  ·cases h
 ·cases h
variable {T2 : TypeId} {d : Operand} {te : Ty}
theorem A.apRows {t off n n0 m mn : Nat} {f g : Nat -> PV} {u : BV} {fr' : Fr} {O' : Hp} (hT : C.ty T = some ⟨.slice e, s1, s2, z⟩) (he : C.ty e = some te) (hz : te.zero.isSome = true) (hu : isU8 C e = false) (h2 : strOrSl C T2 = true) (hs1 : 0 < te.size) (hb1 : 0 < te.bytes)
  (hd : Fr.ev C fr d = .own t off n) (hO : Hp.get O t = some ⟨e, te.size, n0, true, .rows f⟩) (hy : Fr.ev C fr y = u) (hs : srcR O te.size u = some (m, g)) (hone : ∀ j, j < m * te.size -> (g j).one) (hmn : n + m = mn) (hm : mn * te.bytes <= 140737488355328) (hp : disjB [t] C.pins = true)
  (hfr : Fr.kill t fr = fr') (hO' : Hp.kill t O = O') (h : k fr' (.own t 0 mn) ((t, ⟨e, te.size, mn * te.size, true, .rows (fun j => if j < n * te.size then f (off + j) else g (j - n * te.size))⟩) :: O')) :
  opA C S (.call ⟨.builtin .append, #[d, y], #[T, T2]⟩) fr O k := by
 refine Or.inl ?_
 show appA C fr O T T2 (Fr.ev C fr d) (Fr.ev C fr y) k
 subst hfr; subst hO'; subst hmn
 simp only [appA, hT, Option.map_some, he, hd, hy]
 refine ⟨hz, fun hx => (by rw [hu] at hx; cases hx), hs1, hb1, h2, ?_⟩
 rw [hu]
 refine srcR_A hs hone ?_
 simp only [hO, catA]
 exact ⟨trivial, trivial, trivial, fun hx => disjB_spec hp t (by simp) hx, hm, h⟩
theorem A.apRows1 {t n n0 m mn : Nat} {f g : Nat -> PV} {u : BV} {fr' : Fr} {O' : Hp} (hT : C.ty T = some ⟨.slice e, s1, s2, z⟩) (he : C.ty e = some te) (h1 : te.size = 1) (hz : te.zero.isSome = true) (hu : isU8 C e = false) (h2 : strOrSl C T2 = true) (hb1 : 0 < te.bytes)
  (hd : Fr.ev C fr d = .own t 0 n) (hO : Hp.get O t = some ⟨e, 1, n0, true, .rows f⟩) (hy : Fr.ev C fr y = u) (hs : srcR O 1 u = some (m, g)) (hone : ∀ j, j < m -> (g j).one) (hmn : n + m = mn) (hm : mn * te.bytes <= 140737488355328) (hp : disjB [t] C.pins = true)
  (hfr : Fr.kill t fr = fr') (hO' : Hp.kill t O = O') (h : k fr' (.own t 0 mn) ((t, ⟨e, 1, mn, true, .rows (fun j => if j < n then f j else g (j - n))⟩) :: O')) :
  opA C S (.call ⟨.builtin .append, #[d, y], #[T, T2]⟩) fr O k := by
 refine A.apRows hT he hz hu h2 (by omega) hb1 hd (by rw [h1]; exact hO) hy (by rw [h1]; exact hs) (by rw [h1]; simpa using hone) hmn hm hp hfr hO' ?_
 rw [h1]; simpa using h
theorem A.cvM {bE : Nat} {zE : Option (Nat -> Value)} {t off n : Nat} {ob : OB} (hT : C.ty T = some ⟨.slice e, s1, s2, z⟩) (he : C.ty e = some ⟨.int .u8, 1, bE, zE⟩) (hx : Fr.ev C fr x = .own t off n) (hn : 0 < n) (hO : Hp.get O t = some ob) (hw : ob.whole = true)
  (h : k fr (.own t off n) O) : opA C S (.convert T T x) fr O k := by
 refine Or.inr ?_
 simp only [cvbA, hT, Option.map_some, hx, hO, isU8, he]
 exact ⟨trivial, trivial, hn, hw, h⟩
theorem A.sto {ty : Ty} {t off : Nat} {E s n : Nat} {w : Bool} {c c' : OC} {v : BV} {O' : Hp} (hT : C.ty T = some ty) (hd : ty.d.agg = false) (h1 : ty.size = 1) (hx : Fr.ev C fr x = .ptr t off) (hy : Fr.ev C fr y = v) (hv : v.one) (hO : Hp.get O t = some ⟨E, s, n, w, c⟩) (hm : off < n) (hc : c.put off v = some c')
  (hO' : Hp.set O t ⟨E, s, n, w, c'⟩ = O') (h : k fr .dead O') : opA C S (.store T x y) fr O k := by
 refine Or.inl ?_
 show stoA C O T _ _ (fun O' => k fr .dead O')
 simp only [stoA, hT, hx, hy, hO]
 exact ⟨hd, h1, hv, hm, by simp only [hc, hO']; exact h⟩
end
section
variable {C : Ctx} {S : FuncId -> Option Sp} {fr : Fr} {O : Hp} {kk : BV -> Prop} {x y : Operand} {T e : TypeId} {s1 s2 : Nat} {z : Option (Nat -> Value)} {te : Ty}
theorem V.shlC {n : Nat} {a b r : PV} {T' : TypeId} (hx : Fr.ev C fr x = .p a) (hy : Fr.ev C fr y = .p b) (hb : b.toI = some (n : Int)) (hr : shP .shl a (n : Int) = some r) (h : kk (.p r)) : valA C S (.binOp .shl T x y T') fr O kk :=
 V.bin (vc := (0 : Int) <= n) hx hy (by simp only [binP, hb, hr, Option.map_some]) (by omega) h
theorem V.shrC {n : Nat} {a b r : PV} {T' : TypeId} (hx : Fr.ev C fr x = .p a) (hy : Fr.ev C fr y = .p b) (hb : b.toI = some (n : Int)) (hr : shP .shr a (n : Int) = some r) (h : kk (.p r)) : valA C S (.binOp .shr T x y T') fr O kk :=
 V.bin (vc := (0 : Int) <= n) hx hy (by simp only [binP, hb, hr, Option.map_some]) (by omega) h
theorem V.shrI {n : Nat} {M a : Int} {kd : IntKind} {b : PV} {T' : TypeId} (hx : Fr.ev C fr x = .p (.v (.int kd a))) (hy : Fr.ev C fr y = .p b) (hb : b.toI = some (n : Int)) (hM : (2 : Int) ^ (min n kd.bits) = M) (h : kk (.p (.v (.int kd (a / M))))) : valA C S (.binOp .shr T x y T') fr O kk :=
 V.shrC (r := .v (.int kd (a / M))) hx hy hb (by subst hM; rfl) h
theorem V.shlI {n : Nat} {M a : Int} {b : PV} {T' : TypeId} (hx : Fr.ev C fr x = .p (.v (.int .i64 a))) (hy : Fr.ev C fr y = .p b) (hb : b.toI = some (n : Int)) (hM : (2 : Int) ^ (min n 64) = M) (h0 : -9223372036854775808 <= a * M /\ a * M <= 9223372036854775807) (h : kk (.p (.v (.int .i64 (a * M))))) : valA C S (.binOp .shl T x y T') fr O kk :=
 V.shlC (r := .v (.int .i64 (a * M))) hx hy hb (by subst hM; show some (PV.v (.int .i64 (iShl .i64 a n))) = _; simp only [iShl, IntKind.bits]; rw [wrap_i64 h0.1 h0.2]) h
theorem V.ixOwn10 {mi : Nat} {t n : Nat} {ob : OB} {i : Int} (hT : C.ty T = some ⟨.slice e, s1, s2, z⟩) (he : C.ty e = some te) (h1 : te.size = 1) (hx : Fr.ev C fr x = .own t 0 n) (hO : Hp.get O t = some ob) (hs : ob.s = te.size) (hy : Fr.ev C fr y = .p (.v (.int .i64 i))) (hi : 0 <= i /\ i < n) (hmi : i.toNat = mi) (h : kk (.ptr t mi)) : valA C S (.indexAddr T x y) fr O kk := by
 subst hmi
 exact V.ixOwn hT he hx hO hs hy hi (by rw [h1, Nat.mul_one, Nat.zero_add]; exact h)
theorem V.ixOwnS0 {mi : Nat} {t n s : Nat} {ob : OB} {i : Int} (hT : C.ty T = some ⟨.slice e, s1, s2, z⟩) (he : C.ty e = some te) (h1 : te.size = s) (hx : Fr.ev C fr x = .own t 0 n) (hO : Hp.get O t = some ob) (hs : ob.s = te.size) (hy : Fr.ev C fr y = .p (.v (.int .i64 i))) (hi : 0 <= i /\ i < n) (hmi : i.toNat = mi) (h : kk (.ptr t (mi * s))) : valA C S (.indexAddr T x y) fr O kk := by
 subst hmi
 exact V.ixOwn hT he hx hO hs hy hi (by rw [h1, Nat.zero_add]; exact h)
theorem V.ixSl1 {mi : Nat} {n : Nat} {f : Nat -> PV} {i : Int} (hT : C.ty T = some ⟨.slice e, s1, s2, z⟩) (he : C.ty e = some te) (h1 : te.size = 1) (hx : Fr.ev C fr x = .p (.sl n 1 f)) (hy : Fr.ev C fr y = .p (.v (.int .i64 i))) (hi : 0 <= i /\ i < n) (hmi : i.toNat = mi) (h : kk (.rp 1 (fun _ => f mi))) : valA C S (.indexAddr T x y) fr O kk := by
 subst hmi
 exact V.ixSl hT he h1.symm (by omega) hx hy hi (by rw [h1]; exact h)
theorem V.ixArr1 {mi : Nat} {n m : Nat} {f : Nat -> PV} {i : Int} (hT : C.ty T = some ⟨.array n e, s1, s2, z⟩) (he : C.ty e = some te) (h1 : te.size = 1) (hx : Fr.ev C fr x = .rp m f) (hm : n <= m) (hy : Fr.ev C fr y = .p (.v (.int .i64 i))) (hi : 0 <= i /\ i < n) (hmi : i.toNat = mi) (h : kk (.rp 1 (fun _ => f mi))) : valA C S (.indexAddr T x y) fr O kk := by
 subst hmi
 exact V.ixArr hT he hx (by rw [h1]; omega) hy hi (by rw [h1]; exact h)
theorem V.ixSlS {mi : Nat} {n s : Nat} {f : Nat -> PV} {i : Int} (hT : C.ty T = some ⟨.slice e, s1, s2, z⟩) (he : C.ty e = some te) (h1 : te.size = s) (hs : s ≠ 1 /\ 0 < s) (hx : Fr.ev C fr x = .p (.sl n s f)) (hy : Fr.ev C fr y = .p (.v (.int .i64 i))) (hi : 0 <= i /\ i < n) (hmi : i.toNat = mi) (h : kk (.rp s (fun j => f (mi * s + j)))) : valA C S (.indexAddr T x y) fr O kk := by
 subst hmi
 exact V.ixSl hT he h1.symm (by omega) hx hy hi (by rw [h1]; simp only [rpAt, if_neg hs.1]; exact h)
end
section
variable {C : Ctx} {fr : Fr} {O : Hp} {Q : QA}
theorem R.phan {c : Code} (d t T s : Nat) (oc : OC) (h1 : Fr.get fr d = .p (.v (.slice none 0 0))) (h2 : Hp.get O t = none) (h3 : disjB [t] C.pins = true) (h4 : OB.wf ⟨T, s, 0, true, oc⟩) (h : HT C c ((d, .own t 0 0) :: fr) ((t, ⟨T, s, 0, true, oc⟩) :: O) Q) : HT C c fr O Q :=
 HT.phan [(d, t, T, s, oc)] ⟨h1, h2, fun hx => disjB_spec h3 t (by simp) hx, h4, h⟩
end
def noGotoQ (Q : QA) : QA := fun e fr O =>
 match e with
 | .goto _ => False
 | e => Q e fr O
section
variable {C : Ctx} {fr : Fr} {O : Hp} {Q : QA}
theorem HT.scopeS {c : Code} (h : HT C c fr O (noGotoQ Q)) (hr : C.r = none := by rfl) : HT C (.scope c) fr O Q := by
 refine ⟨fun E β a w hst => (wpIn_off hr).2 (wp_scope_straight (wp_mono ((wpIn_off hr).1 (h.run E β a w hst)) fun e a' w' hq => ?_))⟩
 obtain ⟨fr', O', β', E', hE, hq, hst'⟩ := hq
 cases e with
 | goto l => exact hq.elim
 | _ => exact ⟨fr', O', β', E', hE, hq, hst'⟩
end
end Go.Vc

namespace Go.Vc
open Go
def rvS (tmps : Array Value) : ResultVar -> Sem Value
 | .tmp t => pure (tmps.getD t undef)
 | .cell a t => do loadVar t (<- asAddr (tmps.getD a undef))
def rvA (C : Ctx) (fr : Fr) (O : Hp) (x : BV) : ResultVar -> Prop
 | .tmp s => (Fr.get fr s).le x
 | .cell s T => loadA C O T (Fr.get fr s) fun y => y.le x
def rvL (C : Ctx) (fr : Fr) (O : Hp) : List ResultVar -> List BV -> Prop
 | [], [] => True
 | r :: rs, x :: xs => rvA C fr O x r /\ rvL C fr O rs xs
 | _, _ => False
theorem loadVar_of {P : Program} {T : TypeId} {a : Addr} {w : World} {u : Value} (h : (Instr.loadAt T (.pointer (some a))).run P w = .ok u w) : (loadVar T a).run P w = .ok u w := by
 simpa [Instr.loadAt, Instr.sureAddr] using h
theorem rvA_ok {C : Ctx} {E : Env} {β : Loc} {fr : Fr} {O : Hp} {a : Act} {w : World} (hst : St C E β fr O a w) {x : BV} : ∀ (r : ResultVar), rvA C fr O x r ->
  ∃ u, (rvS a.tmps r).run C.P w = .ok u w /\ x.Rep (Un E.N β O) β O w u
 | .tmp s, h => ⟨a.tmps.getD s undef, rfl, h.rep (hst.slot s)⟩
 | .cell s T, h => by
  have hs := hst.slot s
  show ∃ u, (do loadVar T (<- asAddr (a.tmps.getD s undef)) : Sem Value).run C.P w = .ok u w /\ _
  simp only [rvA, loadA] at h
  split at h
  ·exact h.elim
  rename_i ty hT
  split at h
  ·rename_i m f hd hx
   obtain ⟨hm, h⟩ := h
   rw [hx] at hs
   obtain ⟨ad, e, hc⟩ := hs
   obtain ⟨cs, hl, h1, h2⟩ := cells_list (w := w) (a := ad) (n := ty.size) (R := fun j y => (f j).Rep (Un E.N β O) w y) (fun j hj => (hc j (by omega)).2)
   refine ⟨.agg cs.toArray, ?_, h.rep (x := .agg ty.size f) ⟨cs.toArray, rfl, by simpa using hl, fun j hj => by simpa using h2 j hj⟩⟩
   rw [e]
   simp [asAddr, loadVar_of (run_load_agg (hst.ty hT) hd cs hl h1)]
  ·rename_i t off hd hx
   split at h
   case h_2 => exact h.elim
   rename_i ob hob
   split at h
   case h_2 =>
    obtain ⟨hm, h⟩ := h
    rw [hx] at hs
    obtain ⟨ob', hob', _, _, e⟩ := hs
    obtain ⟨cs, hl, h1, h2⟩ := cells_list (w := w) (a := ⟨(β t).b, (β t).o + off, none⟩) (n := ty.size) (R := fun j y => (ob.c.get (off + j)).Rep (Un E.N β O) β O w y) (fun j hj => by
     obtain ⟨u, hu, _, hr⟩ := hst.core.mem.cell hob (j := off + j) (by omega)
     exact ⟨u, by rw [Addr.add_mid, Nat.add_assoc]; exact hu, hr⟩)
    refine ⟨.agg cs.toArray, ?_, h.rep (x := .ag ty.size _) ⟨cs.toArray, rfl, by simpa using hl, fun j hj => by simpa using h2 j hj⟩⟩
    rw [e]
    simp [asAddr, loadVar_of (run_load_agg (hst.ty hT) hd cs hl h1)]
   rename_i f hf
   obtain ⟨hm, h⟩ := h
   rw [hx] at hs
   obtain ⟨ob', hob', _, _, e⟩ := hs
   obtain ⟨cs, hl, h1, h2⟩ := cells_list (w := w) (a := ⟨(β t).b, (β t).o + off, none⟩) (n := ty.size) (R := fun j y => (f j).Rep (Un E.N β O) w y) (fun j hj => by
    obtain ⟨u, hu, _, hr⟩ := hst.core.mem.cell hob (j := off + j) (by omega)
    rw [OC.plain_get hf j hj] at hr
    exact ⟨u, by rw [Addr.add_mid, Nat.add_assoc]; exact hu, hr⟩)
   refine ⟨.agg cs.toArray, ?_, h.rep (x := .agg ty.size f) ⟨cs.toArray, rfl, by simpa using hl, fun j hj => by simpa using h2 j hj⟩⟩
   rw [e]
   simp [asAddr, loadVar_of (run_load_agg (hst.ty hT) hd cs hl h1)]
  ·rename_i m f hd hx
   obtain ⟨hm, h⟩ := h
   rw [hx] at hs
   obtain ⟨ad, e, hc⟩ := hs
   obtain ⟨_, y, hy, hr⟩ := hc 0 hm
   refine ⟨y, ?_, h.rep (x := .p (f 0)) hr⟩
   have hy' : w.cell? ad = some y := by simpa [Addr.add] using hy
   rw [e]
   simp [asAddr, loadVar_of (run_load_cell (hst.ty hT) hd hy')]
  ·rename_i y hd hx
   rw [hx] at hs
   obtain ⟨ad, z, e, _, hz, hr⟩ := hs
   refine ⟨z, ?_, h.rep (x := .p y) hr⟩
   rw [e]
   simp [asAddr, loadVar_of (run_load_cell (hst.ty hT) hd hz)]
  ·rename_i t off hd hx
   split at h
   case h_2 => exact h.elim
   rename_i ob hob
   obtain ⟨hm, h⟩ := h
   rw [hx] at hs
   obtain ⟨ob', hob', _, _, e⟩ := hs
   obtain ⟨u, hu, _, hr⟩ := hst.core.mem.cell hob hm
   refine ⟨u, ?_, h.rep hr⟩
   rw [e]
   simp [asAddr, loadVar_of (run_load_cell (hst.ty hT) hd hu)]
  ·exact h.elim
theorem rvL_ok {C : Ctx} {E : Env} {β : Loc} {fr : Fr} {O : Hp} {a : Act} {w : World} (hst : St C E β fr O a w) : ∀ (rs : List ResultVar) (xs : List BV), rvL C fr O rs xs ->
  ∃ us : List Value, us.length = rs.length /\ xs.length = rs.length /\ (∀ (i : Nat) (r : ResultVar), rs[i]? = some r -> ∃ u, us[i]? = some u /\ (rvS a.tmps r).run C.P w = .ok u w) /\ ∀ (i : Nat) (x : BV), xs[i]? = some x -> ∃ u, us[i]? = some u /\ x.Rep (Un E.N β O) β O w u
 | [], [], _ => ⟨[], rfl, rfl, fun i r h => by simp at h, fun i x h => by simp at h⟩
 | r :: rs, x :: xs, h => by
  obtain ⟨u, h1, h2⟩ := rvA_ok hst r h.1
  obtain ⟨us, h3, h4, h5, h6⟩ := rvL_ok hst rs xs h.2
  refine ⟨u :: us, by simp [h3], by simp [h4], fun i r' hr => ?_, fun i x' hx => ?_⟩
  ·cases i with
   | zero => simp at hr; subst hr; exact ⟨u, rfl, h1⟩
   | succ i => simpa using h5 i r' (by simpa using hr)
  ·cases i with
   | zero => simp at hx; subst hx; exact ⟨u, rfl, h2⟩
   | succ i => simpa using h6 i x' (by simpa using hx)
 | [], _ :: _, h => h.elim
 | _ :: _, [], h => h.elim
theorem run_resultsC {fn : Func} {rvs : List ResultVar} (h : fn.results = rvs.toArray) (hl : rvs.length <= 4) (tmps : Array Value) (P : Program) (w : World) {us : List Value} (hu : us.length = rvs.length)
  (hr : ∀ (i : Nat) (r : ResultVar), rvs[i]? = some r -> ∃ u, us[i]? = some u /\ (rvS tmps r).run P w = .ok u w) :
  ∃ v, (results fn tmps).run P w = .ok v w /\ ((∃ u, us = [u] /\ v = u) ∨ ((∀ u, us ≠ [u]) /\ v = .tuple us.toArray)) := by
 have e : results fn tmps = (do let vs <- fn.results.mapM (rvS tmps); pure (if h : vs.size = 1 then vs[0] else .tuple vs)) := rfl
 rw [e, h]
 rcases rvs with _ | ⟨a, _ | ⟨b, _ | ⟨c, _ | ⟨d, _ | ⟨f, r⟩⟩⟩⟩⟩
 ·have : us = [] := List.eq_nil_of_length_eq_zero hu
  subst this
  exact ⟨.tuple #[], by simp, .inr ⟨by simp, rfl⟩⟩
 ·obtain ⟨u, h0, h1⟩ := hr 0 a rfl
  match us, hu, h0 with
  | [u'], _, h0 =>
   simp at h0; subst h0
   exact ⟨u', by simp [h1], .inl ⟨u', rfl, rfl⟩⟩
 ·obtain ⟨u, h0, h1⟩ := hr 0 a rfl
  obtain ⟨u2, h2, h3⟩ := hr 1 b rfl
  match us, hu, h0, h2 with
  | [x, y], _, h0, h2 =>
   simp at h0 h2; subst h0; subst h2
   exact ⟨.tuple #[x, y], by simp [h1, h3], .inr ⟨by simp, rfl⟩⟩
 ·obtain ⟨u, h0, h1⟩ := hr 0 a rfl
  obtain ⟨u2, h2, h3⟩ := hr 1 b rfl
  obtain ⟨u3, h4, h5⟩ := hr 2 c rfl
  match us, hu, h0, h2, h4 with
  | [x, y, z], _, h0, h2, h4 =>
   simp at h0 h2 h4; subst h0; subst h2; subst h4
   exact ⟨.tuple #[x, y, z], by simp [h1, h3, h5], .inr ⟨by simp, rfl⟩⟩
 ·obtain ⟨u, h0, h1⟩ := hr 0 a rfl
  obtain ⟨u2, h2, h3⟩ := hr 1 b rfl
  obtain ⟨u3, h4, h5⟩ := hr 2 c rfl
  obtain ⟨u4, h6, h7⟩ := hr 3 d rfl
  match us, hu, h0, h2, h4, h6 with
  | [x, y, z, t], _, h0, h2, h4, h6 =>
   simp at h0 h2 h4 h6; subst h0; subst h2; subst h4; subst h6
   exact ⟨.tuple #[x, y, z, t], by simp [h1, h3, h5, h7], .inr ⟨by simp, rfl⟩⟩
 ·simp at hl
theorem resV_repC {U : Addr -> Prop} {β : Loc} {O : Hp} {w : World} {rs : List BV} {us : List Value} {v : Value} (hlen : rs.length = us.length) (hrep : ∀ (j : Nat) (x : BV), rs[j]? = some x -> ∃ u, us[j]? = some u /\ x.Rep U β O w u)
  (hv : (∃ u, us = [u] /\ v = u) ∨ ((∀ u, us ≠ [u]) /\ v = .tuple us.toArray)) : (resV rs).Rep U β O w v := by
 rcases hv with ⟨s, rfl, rfl⟩ | ⟨hne, rfl⟩
 ·match rs, hlen with
  | [x], _ =>
   obtain ⟨u, hu, hr⟩ := hrep 0 x rfl
   simp only [List.getElem?_cons_zero, Option.some.injEq] at hu
   subst hu
   exact hr
 ·have : resV rs = .tup rs.length (fun j => rs.getD j .dead) := by
   match rs, hlen with
   | [], _ => rfl
   | [x], hlen =>
    match us, hlen with
    | [s], _ => exact absurd rfl (hne s)
   | _ :: _ :: _, _ => rfl
  rw [this]
  refine ⟨_, rfl, by simp [hlen], fun j hj => ?_⟩
  obtain ⟨u, hu, hr⟩ := hrep j (rs.getD j .dead) (by simp [List.getD_eq_getElem?_getD, List.getElem?_eq_getElem hj])
  exact ⟨u, by simpa using hu, hr⟩
def retC (C : Ctx) (rvs : List ResultVar) (kk : List BV -> Hp -> Prop) (fr : Fr) (O : Hp) : Prop :=
 ∃ fr' O', subW fr O fr' O' /\ ∃ (rs : List BV) (O2 : Hp) (σ : Nat -> Nat), kk rs O2 /\ rvL C fr' O' rvs (rs.map (BV.ren σ)) /\ SubH σ O2 O' /\ InjH σ O2 /\ InnH O2 /\ BV.innL O2 rs /\ ∀ t, t ∈ C.pins -> σ t = t
def retCQ (C : Ctx) (rvs : List ResultVar) (kk : List BV -> Hp -> Prop) : QA := fun e fr O =>
 match e with
 | .normal => retC C rvs kk fr O
 | .ret => retC C rvs kk fr O
 | _ => False
theorem FOK.ofC {P : Program} {gl : Nat -> Option (Nat × (Nat -> GV))} {ty : TypeId -> Option Ty} (hgood : ∀ T t, ty T = some t -> TyOK P T t) {f : FuncId} {fn : Func} {c : Code} {rvs : List ResultVar} {nt : Nat} {pins : List Nat} {sp : Spec}
  (hf : P.funcs[f]? = some fn) (hb : fn.body = some c) (hn : fn.ntmps = nt) (hname : (fn.name == "runtime.NumGoroutine") = false) (hres : fn.results = rvs.toArray) (hl6 : rvs.length <= 4)
  (h : ∀ xs O kk, (∀ (i : Nat) (y : BV), (∃ x, xs[i]? = some x /\ x.le y) -> y.lenOK) -> sp xs O kk -> xs.length <= nt /\ ∃ fr, argS xs fr /\ HT (cx P nt ty gl pins) c fr O (retCQ (cx P nt ty gl pins) rvs kk)) : FOK P gl f ⟨pins, sp⟩ := by
 refine ⟨fun args w => ?_, fun N ng β O w xs vals kk hN hng hgl hm hsz hrep hsp => ?_⟩
 ·have hne : ¬ fn.name = "runtime.NumGoroutine" := by simpa using hname
  simp [callFunc, hf, hne, hb]
 ·obtain ⟨hle, fr, harg, ht⟩ := h xs O kk (fun i y ⟨x, hx, hxy⟩ => by
   obtain ⟨u, _, hr⟩ := hrep i x hx
   exact BV.Rep.lenOK (hxy.rep hr)) hsp
  let E : Env := ⟨cx P nt ty gl pins, ng, N, Owns β O, w, β, [], fun s pe => ⟨s, pe, 0, #[], #[], .skip, .skip, 0⟩, []⟩
  have hst : St (cx P nt ty gl pins) E β fr O { tmps := vals ++ Array.replicate (fn.ntmps - vals.size) undef, defers := [] } w := by
   refine ⟨rfl, hgood, ⟨⟨hng, hN, fun g m f hg j hj => ?_, fun p hp => by cases hp⟩, hm, Keep.refl _ _, fun t ob ht a ha => .inl ⟨t, ob, ht, ha⟩, fun t _ => rfl, fun p hp => by cases hp⟩, DefOK.nil _ _, by simp [hn]; omega, fun d => ?_, fun i fr0 hi => by simp [E] at hi, fun h => by simp [E] at h⟩
   ·obtain ⟨h1, h2, h3⟩ := hgl g m f hg j hj
    refine ⟨h1, h2, ?_, h3⟩
    rintro ⟨t, ob, ht, hre, hb, _⟩
    obtain ⟨cs, fr, _, _, _, h4, _⟩ := hm.obj t ob ht hre
    simp at hb
    show False
    have h5 : g < ng := h3
    omega
   ·rcases argS_get harg d with e | ⟨x, hx, hle'⟩
    ·rw [e]; trivial
    ·obtain ⟨u, hu, hr⟩ := hrep d x hx
     have hget : (vals ++ Array.replicate (fn.ntmps - vals.size) undef).getD d undef = u := by
      have hlt : d < vals.size := (Array.getElem?_eq_some_iff.1 hu).1
      rw [Array.getD_eq_getD_getElem?, Array.getElem?_append_left hlt, hu]
      rfl
     show (Fr.get fr d).Rep _ _ _ w ((vals ++ Array.replicate (fn.ntmps - vals.size) undef).getD d undef)
     rw [hget]
     exact hle'.rep hr
  refine calls_of_HT (C := cx P nt ty gl pins) rfl rfl hf hb (fun e fr O hq => by cases e <;> first | exact .inl rfl | exact .inr rfl | exact hq.elim) hst ht ?_
  intro e fr' O' β' a' w' hq hst'
  have hend : ∀ (fr' : Fr) (O' : Hp), St (cx P nt ty gl pins) E β' fr' O' a' w' -> retC (cx P nt ty gl pins) rvs kk fr' O' -> ∃ v, (results fn a'.tmps).run P w' = .ok v w' /\ FPost N ng β O w pins kk (.returned v) w' := by
   rintro fr0 O0 hst0 ⟨fr', O', hsw, rs, O2, σ, hk, hrv, hsub, hinj, hinn, hinx, hpin⟩
   have hst' := hst0.subW hsw
   obtain ⟨us, hu1, hu2, hu3, hu4⟩ := rvL_ok hst' rvs _ hrv
   obtain ⟨v, hv, hvv⟩ := run_resultsC (P := P) (w := w') hres hl6 a'.tmps hu1 hu3
   have hU : ∀ a, Un N (fun t => β' (σ t)) O2 a -> Un N β' O' a := by
    rintro a (h1 | ⟨t, ob, h1, h2⟩)
    ·exact .inl h1
    ·exact .inr ⟨σ t, _, hsub t ob h1, OB.cov_ren.2 h2⟩
   refine ⟨v, hv, v, fun t => β' (σ t), O2, rs, rfl, hk, ?_, hst'.core.keep, fun t ht => ?_, fun t ob a ht ha => ?_, ?_⟩
   ·have hm' := hst'.core.mem
    refine ⟨fun t ob ht => OB.wf_ren.1 (hm'.wf _ _ (hsub t ob ht)), fun t ob ht => by have := hm'.pos _ _ (hsub t ob ht); exact this, fun t ob ht hre => by have := hm'.obj0 _ _ (hsub t ob ht) hre; exact this, fun t ob ht hre => ?_, fun t ob t' ob' ht ht' hne a ha ha' => ?_, fun t ob ht a ha => ?_⟩
    ·obtain ⟨cs, fr, h1, h2, h3, h4, h5⟩ := hm'.obj _ _ (hsub t ob ht) hre
     refine ⟨cs, fr, h1, h2, h3, h4, fun j hj => ?_⟩
     obtain ⟨u, hu, hr⟩ := h5 j hj
     refine ⟨u, hu, BV.Rep.unren hU hsub _ _ (OC.inn_getI (hinn t ob ht) j) ?_⟩
     rw [<- OC.get_ren]; exact hr
    ·exact hm'.disj _ _ _ _ (hsub t ob ht) (hsub t' ob' ht') (fun e => hne (hinj t ob t' ob' ht ht' e)) a (OB.cov_ren.2 ha) (OB.cov_ren.2 ha')
    ·exact hm'.notN _ _ (hsub t ob ht) a (OB.cov_ren.2 ha)
   ·show β' (σ t) = β t
    rw [hpin t ht]
    exact hst'.core.pins t ht
   ·exact hst'.core.dom _ _ (hsub t ob ht) a (OB.cov_ren.2 ha)
   ·refine resV_repC (us := us) (by rw [hu1, <- hu2]; simp) (fun j x hj => ?_) hvv
    obtain ⟨u, hu, hr⟩ := hu4 j (x.ren σ) (by rw [List.getElem?_map, hj]; rfl)
    exact ⟨u, hu, BV.Rep.unren hU hsub _ _ (BV.innL_mem hinx x (List.mem_of_getElem? hj)) hr⟩
  cases e with
  | normal => exact hend fr' O' hst' hq
  | ret => exact hend fr' O' hst' hq
  | _ => exact hq.elim
theorem FOK.ofEC {P : Program} {gl : Nat -> Option (Nat × (Nat -> GV))} {ty : TypeId -> Option Ty} (hgood : ∀ T t, ty T = some t -> TyOK P T t) {f : FuncId} {fn : Func} {c : Code} {rvs : List ResultVar} {nt : Nat} {pins : List Nat}
  {α : Type} {argE : α -> List BV} {hin : α -> Hp} {pre : α -> Prop} {res : α -> List BV} {hp : α -> Hp}
  (hf : P.funcs[f]? = some fn) (hb : fn.body = some c) (hn : fn.ntmps = nt) (hname : (fn.name == "runtime.NumGoroutine") = false) (hres : fn.results = rvs.toArray) (hl6 : rvs.length <= 4) (ar : Nat) (har : ∀ a, (argE a).length = ar) (hnt : ar <= nt)
  (hinn : ∀ a, BV.innL (hin a) (argE a))
  (h : ∀ a kk, lenL (argE a) -> pre a -> kk (res a) (hp a) -> HT (cx P nt ty gl pins) c (numb 0 (argE a)) (hin a) (retCQ (cx P nt ty gl pins) rvs kk)) : FOK P gl f ⟨pins, mkE argE hin pre res hp⟩ := by
 refine FOK.ofC hgood hf hb hn hname hres hl6 ?_
 rintro xs O kk hlen ⟨a, hle, hh, hpre, hk⟩
 obtain ⟨h1, h2⟩ := leL_get hle
 refine ⟨by have := har a; omega, numb 0 (argE a), numb_argS fun j y hy => by simpa using h2 j y hy, ?_⟩
 refine HT.subW ⟨numb_frW (fun j y hy => ?_) (hinn a), hh⟩ (h a kk (lenL_of fun i y hy => hlen i y (h2 i y hy)) hpre hk)
 exact numb_get hy
theorem retC_ok {C : Ctx} {rvs : List ResultVar} {kk : List BV -> Hp -> Prop} {rs : List BV} {O2 : Hp} {fr : Fr} {O : Hp} (σ : Nat -> Nat) (fr' : Fr) (O' : Hp) (h : kk rs O2) (hw : subW fr O fr' O') (hrv : rvL C fr' O' rvs (rs.map (BV.ren σ))) (hsub : SubL σ O2 O') (hnd : nd ((doms O2).map σ) = true) (hinn : InnL O2 O2) (hinx : BV.innL O2 rs)
  (hp : C.pins.all (fun t => σ t == t) = true) : retC C rvs kk fr O :=
 ⟨fr', O', hw, rs, O2, σ, h, hrv, hsub.subH, nd_inj hnd, hinn.get, hinx, fun t ht => by simpa using List.all_eq_true.1 hp t ht⟩
section
variable {C : Ctx} {S : FuncId -> Option Sp} {fr : Fr} {O : Hp} {k : OpK} {T : TypeId}
theorem pinL_not {k0 : Nat} {l : List Nat} (h : pinL k0 l) : k0 ∉ l := fun hm => Nat.lt_irrefl _ (pinL_spec h k0 hm)
theorem A.alloc {d : TyD} {n b : Nat} {z : Nat -> Value} (k0 s : Nat) (hT : C.ty T = some ⟨d, n, b, some z⟩) (hk : fresh O = k0) (hp : pinL k0 C.pins) {f : Nat -> PV} (hf : ∀ j, j < n -> cst (z j) = f j)
  (h : k fr (.ptr k0 0) ((k0, ⟨T, s, n, true, .rows f⟩) :: O)) : opA C S (.alloc T) fr O k := by
 subst hk
 show allocA C fr O T k
 simp only [allocA, hT]
 exact ⟨s, .rows f, trivial, fun j hj => by rw [hf j hj]; rfl, pinL_not hp, h⟩
theorem A.alloc1 {d : TyD} {n b : Nat} {z : Nat -> Value} (k0 : Nat) {x : PV} (hT : C.ty T = some ⟨d, n, b, some z⟩) (hn : n = 1) (hk : fresh O = k0) (hp : pinL k0 C.pins) (hx : cst (z 0) = x)
  (h : k fr (.ptr k0 0) ((k0, ⟨T, 1, 1, true, .cells [.p x]⟩) :: O)) : opA C S (.alloc T) fr O k := by
 subst hk; subst hn
 show allocA C fr O T k
 simp only [allocA, hT]
 exact ⟨1, .cells [.p x], rfl, fun j hj => by
  have : j = 0 := by omega
  subst this
  rw [hx]; rfl, pinL_not hp, h⟩
theorem A.boxAg {x : Operand} {n : Nat} {f : Nat -> PV} (k0 s : Nat) (hx : Fr.ev C fr x = .agg n f) (hl : ∀ j, j < n -> (BV.p (f j)).one) (hk : fresh O = k0) (hp : pinL k0 C.pins)
  (h : k fr (.ptr k0 0) ((k0, ⟨T, s, n, true, .rows f⟩) :: O)) : opA C S (.box T x) fr O k := by
 subst hk
 show boxA C fr O T (Fr.ev C fr x) k
 rw [hx]
 exact ⟨hl, s, .rows f, trivial, fun j hj => rfl, pinL_not hp, h⟩
theorem A.stoAg {p x : Operand} {d : TyD} {n m b t E s : Nat} {w : Bool} {c : OC} {z : Option (Nat -> Value)} {f : Nat -> PV} {O' : Hp} (hT : C.ty T = some ⟨d, n, b, z⟩) (hp : Fr.ev C fr p = .ptr t 0) (hx : Fr.ev C fr x = .agg n f) (hn : 0 < n) (hone : ∀ j, j < n -> (BV.p (f j)).one)
  (hO : Hp.get O t = some ⟨E, s, m, w, c⟩) (hm : m = n) (hO' : Hp.set O t ⟨E, s, m, w, .rows f⟩ = O') (h : k fr .dead O') : opA C S (.store T p x) fr O k := by
 subst hm; subst hO'
 refine Or.inr (Or.inl ?_)
 show stoB C O T _ _ (fun O' => k fr .dead O')
 simp only [stoB, hT, hp, hx]
 refine ⟨trivial, hn, hone, _, .rows f, hO, by simp, trivial, fun j hj => ?_, h⟩
 have hj' : j < m := hj
 rw [if_pos (by omega)]
 rfl
theorem rvA_cell {s T : Nat} {d : TyD} {n b t off : Nat} {z : Option (Nat -> Value)} {ob : OB} {f : Nat -> PV} {x : BV} (hT : C.ty T = some ⟨d, n, b, z⟩) (hagg : d.agg = true) (hx : Fr.get fr s = .ptr t off) (hO : Hp.get O t = some ob) (hpl : ob.c.plain off n = some f) (hle : off + n <= ob.n)
  (h : (BV.agg n f).le x) : rvA C fr O x (.cell s T) := by
 show loadA C O T (Fr.get fr s) fun y => y.le x
 simp only [loadA, hT, hx, hagg, hO, hpl]
 exact ⟨hle, h⟩
end
end Go.Vc

namespace Go.Vc
open Go
section
variable {C : Ctx} {S : FuncId -> Option Sp} {fr : Fr} {O : Hp} {kk : BV -> Prop} {x y : Operand} {T T' e : TypeId}
theorem V.eqPtr {e1 s1 s2 : Nat} {z : Option (Nat -> Value)} {a c : BV} {b : Bool} (hT : C.ty T = some ⟨.pointer e1, s1, s2, z⟩) (hx : Fr.ev C fr x = a) (hy : Fr.ev C fr y = c) (hp : binPP .eql a c = none) (hb : ptrQ a c = some b) (h : kk (.p (.v (.bool b)))) : valA C S (.binOp .eql T x y T') fr O kk := by
 simp only [valA, hx, hy, binD, hp, eqDD, eqD, hT, Option.map_some, hb]
 exact ⟨trivial, h⟩
theorem V.nePtr {e1 s1 s2 : Nat} {z : Option (Nat -> Value)} {a c : BV} {b : Bool} (hT : C.ty T = some ⟨.pointer e1, s1, s2, z⟩) (hx : Fr.ev C fr x = a) (hy : Fr.ev C fr y = c) (hp : binPP .neq a c = none) (hb : ptrQ a c = some b) (h : kk (.p (.v (.bool !b)))) : valA C S (.binOp .neq T x y T') fr O kk := by
 simp only [valA, hx, hy, binD, hp, eqDD, eqD, hT, Option.map_some, hb]
 exact ⟨trivial, h⟩
theorem V.pb {b : Builtin} {args : Array Operand} {ats : Array TypeId} {ps : List PV} {r : PV} (hne : b ≠ .len) (hp : pvL (args.toList.map (Fr.ev C fr)) = some ps) (hr : pbP b ps = some r) (h : kk (.p r)) : valA C S (.call ⟨.builtin b, args, ats⟩) fr O kk := by
 have h2 : pbA C fr b args.toList kk := by
  unfold pbA
  simp only [hp, hr]
  exact h
 cases b <;> first | exact absurd rfl hne | exact h2
end
end Go.Vc

namespace Go.Vc
open Go
section
variable {E E' : Env} {U U' : Addr -> Prop} {β β' : Loc} {O O' : Hp} {w w' : World}
end
end Go.Vc

namespace Go.Vc
open Go
structure PS where
 act : List Nat
 l : Nat
 keep : List Nat
def drawI (C : Ctx) (S : FuncId -> Option Sp) (ops : List Oper) : List Nat -> Fr -> Hp -> (Fr -> Hp -> Prop) -> Prop
 | [], fr, O, K => K fr O
 | i :: is, fr, O, K => match ops[i]? with
  | none => False
  | some o => grdA C ops o.guard fr
    (fun fr => valA C S o.op fr O fun x => dstD C.nt o.dst x fr fun fr => drawI C S ops is fr O K)
    (fun fr => dstD C.nt o.dst (.p (.v undef)) fr fun fr => drawI C S ops is fr O K)
theorem lastV_congr2 {V V' : Nat -> BV} {ops : List Oper} {p q : Nat -> Bool} {s : Nat} {base : BV} : ∀ {n : Nat}, (∀ j, j < n -> dstOf ops j = some s -> p j = q j /\ (p j = true -> V j = V' j)) -> lastV V ops p s base n = lastV V' ops q s base n
 | 0, _ => rfl
 | n + 1, h => by
  simp only [lastV]
  have ih := lastV_congr2 (V := V) (V' := V') (base := base) (n := n) fun j hj => h j (by omega)
  by_cases hd : dstOf ops n = some s
  ·obtain ⟨h1, h2⟩ := h n (by omega) hd
   rw [<- h1, ih]
   by_cases hp : p n = true
   ·rw [if_pos ⟨hp, hd⟩, if_pos ⟨hp, hd⟩, h2 hp]
   ·rw [if_neg (fun e => hp e.1), if_neg (fun e => hp e.1)]
  ·rw [if_neg (fun e => hd e.2), if_neg (fun e => hd e.2), ih]
theorem lastV_none {V : Nat -> BV} {ops : List Oper} {p : Nat -> Bool} {s : Nat} {base : BV} : ∀ {n : Nat}, (∀ j, j < n -> dstOf ops j = some s -> p j = false) -> lastV V ops p s base n = base
 | 0, _ => rfl
 | n + 1, h => by
  simp only [lastV]
  rw [if_neg (fun e => by rw [h n (by omega) e.2] at e; cases e.1)]
  exact lastV_none fun j hj => h j (by omega)
theorem lastV_one {V : Nat -> BV} {ops : List Oper} {p : Nat -> Bool} {s i : Nat} {base : BV} (hi : dstOf ops i = some s) (hp : p i = true) (hone : ∀ j, j ≠ i -> p j = true -> dstOf ops j ≠ some s) : ∀ {n : Nat}, i < n -> lastV V ops p s base n = V i
 | 0, h => by omega
 | n + 1, h => by
  simp only [lastV]
  by_cases hn : n = i
  ·subst hn; rw [if_pos ⟨hp, hi⟩]
  ·rw [if_neg (fun e => hone n hn e.1 e.2)]
   exact lastV_one hi hp hone (by omega)
theorem dstOf_lt {ops : List Oper} {j d : Nat} (h : dstOf ops j = some d) : j < ops.length := by
 unfold dstOf at h
 cases hj : ops[j]? with
 | none => rw [hj] at h; cases h
 | some p => exact (List.getElem?_eq_some_iff.1 hj).1
theorem drawI_plan {C : Ctx} {S : FuncId -> Option Sp} (hS : ∀ f s, S f = some s -> FOK C.P C.gl f s) (hD : ∀ f s, S f = some s -> SpDet s.sp) {ops : List Oper} {O : Hp} {K : Fr -> Hp -> Prop} {base : Nat -> BV} :
  ∀ (is pre : List Nat) (fr : Fr) (V : Nat -> BV), is.Pairwise (· < ·) -> (∀ i, i ∈ pre -> ∀ j, j ∈ is -> i < j) -> (∀ s, Fr.get fr s = lastV V ops (fun j => decide (j ∈ pre)) s (base s) ops.length) -> drawI C S ops is fr O K ->
   ∃ V' : Nat -> BV, (∀ j, j ∈ pre -> V' j = V j) /\ (∃ fe, K fe O /\ ∀ s, Fr.get fe s = lastV V' ops (fun j => decide (j ∈ pre ++ is)) s (base s) ops.length) /\
    ∀ i, i ∈ is -> ∃ o, ops[i]? = some o /\ ∃ d, o.dst = some d /\ d < C.nt /\ StepF C ops o O (fun s => lastV V' ops (fun j => decide (j ∈ pre ++ is /\ j < i)) s (base s) ops.length) (V' i)
 | [], pre, fr, V, _, _, hfr, h => ⟨V, fun _ _ => rfl, ⟨fr, h, fun s => by rw [hfr s]; simp⟩, fun i hi => by cases hi⟩
 | k :: is, pre, fr, V, hso, hlt, hfr, h => by
  unfold drawI at h
  cases h0 : ops[k]? with
  | none => rw [h0] at h; exact h.elim
  | some o =>
  rw [h0] at h
  simp only at h
  have hkl : k < ops.length := (List.getElem?_eq_some_iff.1 h0).1
  have hks : ∀ j, j ∈ is -> k < j := (List.pairwise_cons.1 hso).1
  obtain ⟨fr1, hsame, hcase⟩ := grdA_cases h
  have hstep : ∃ v, (∃ d, o.dst = some d /\ d < C.nt /\ drawI C S ops is ((d, v) :: fr1) O K) /\ StepF C ops o O (Fr.get fr1) v := by
   rcases hcase with ⟨hg, hv⟩ | ⟨hg, hv⟩
   ·obtain ⟨v, hk, hp⟩ := valA_pure hS hD hv
    unfold dstD at hk
    split at hk
    ·exact hk.elim
    ·rename_i d hd
     exact ⟨v, ⟨d, hd, hk.1, hk.2⟩, .inl ⟨hg, fun fr ha => hp fr fun y hy => by rw [ha y hy, evF_get C fr1]⟩⟩
   ·unfold dstD at hv
    split at hv
    ·exact hv.elim
    ·rename_i d hd
     exact ⟨_, ⟨d, hd, hv.1, hv.2⟩, .inr ⟨hg, rfl⟩⟩
  obtain ⟨v, ⟨d, hd, hdn, hrest⟩, hst⟩ := hstep
  have hdk : dstOf ops k = some d := by simp [dstOf, h0, hd]
  have hkp : k ∉ pre := fun hm => Nat.lt_irrefl _ (hlt k hm k (by simp))
  let V1 : Nat -> BV := fun j => if j = k then v else V j
  have hV1 : ∀ s, lastV V1 ops (fun j => decide (j ∈ pre)) s (base s) ops.length = lastV V ops (fun j => decide (j ∈ pre)) s (base s) ops.length := fun s =>
   lastV_congr2 fun j _ _ => ⟨rfl, fun hj => by
    have : j ≠ k := fun e => hkp (by rw [<- e]; simpa using hj)
    simp [V1, this]⟩
  have hfr' : ∀ s, Fr.get ((d, v) :: fr1) s = lastV V1 ops (fun j => decide (j ∈ pre ++ [k])) s (base s) ops.length := by
   intro s
   rw [lastV_set (p := fun j => decide (j ∈ pre)) hdk (fun j hj => by simp [hj]) (by simp) (fun j hj _ => by
    simp only [decide_eq_false_iff_not]
    exact fun hm => by have := hlt j hm k (by simp); omega) hkl, hV1 s, <- hfr s, <- hsame s]
   simp only [Fr.get, V1, if_true]
  obtain ⟨V', h1, ⟨fe, h2, h3⟩, h4⟩ := drawI_plan hS hD is (pre ++ [k]) _ V1 (List.pairwise_cons.1 hso).2 (fun i hi j hj => by
   rcases List.mem_append.1 hi with hi | hi
   ·exact hlt i hi j (by simp [hj])
   ·have : i = k := by simpa using hi
    subst this; exact hks j hj) hfr' hrest
  have e1 : pre ++ [k] ++ is = pre ++ k :: is := by simp
  rw [e1] at h3 h4
  have hVk : V' k = v := by rw [h1 k (by simp)]; simp [V1]
  refine ⟨V', fun j hj => ?_, ⟨fe, h2, h3⟩, fun i hi => ?_⟩
  ·rw [h1 j (by simp [hj])]
   have : j ≠ k := fun e => hkp (e ▸ hj)
   simp [V1, this]
  ·rcases List.mem_cons.1 hi with rfl | hi
   ·refine ⟨o, h0, d, hd, hdn, ?_⟩
    rw [hVk]
    have e : (fun s => lastV V' ops (fun j => decide (j ∈ pre ++ i :: is /\ j < i)) s (base s) ops.length) = Fr.get fr1 := by
     funext s
     rw [hsame s, hfr s]
     refine lastV_congr2 fun j _ _ => ⟨?_, fun hj => ?_⟩
     ·simp only [decide_eq_decide]
      constructor
      ·rintro ⟨hm, hji⟩
       rcases List.mem_append.1 hm with hm | hm
       ·exact hm
       ·rcases List.mem_cons.1 hm with rfl | hm
        ·omega
        ·have := hks j hm; omega
      ·exact fun hm => ⟨List.mem_append_left _ hm, hlt j hm i (by simp)⟩
     ·simp only [decide_eq_true_eq] at hj
      have hm : j ∈ pre := by
       rcases List.mem_append.1 hj.1 with hm | hm
       ·exact hm
       ·rcases List.mem_cons.1 hm with rfl | hm
        ·omega
        ·have := hks j hm; omega
      rw [h1 j (by simp [hm])]
      have : j ≠ i := fun e => hkp (e ▸ hm)
      simp [V1, this]
    rw [e]; exact hst
   ·exact h4 i hi
def slotI (ops : List Oper) (i : Nat) : Nat := (dstOf ops i).getD 0
def flV (ops : List Oper) (keep : List Nat) (F : Fr) : List (Nat × BV) := keep.map fun i => (i, Fr.get F (slotI ops i))
def flEq (ops : List Oper) (F : Fr) : List (Nat × BV) -> Prop
 | [] => True
 | (i, v) :: r => Fr.get F (slotI ops i) = v /\ flEq ops F r
def Fr.rm (ks : List Nat) : Fr -> Fr
 | [] => []
 | (d, x) :: r => if d ∈ ks then Fr.rm ks r else (d, x) :: Fr.rm ks r
def nokey (ks : List Nat) : Fr -> Bool
 | [] => true
 | (d, _) :: r => !(decide (d ∈ ks)) && nokey ks r
def FG (fl : List (Nat × BV)) (G : Fr -> Fr) : Prop := ∃ g : BV -> BV, (∀ ff s, Fr.get (G ff) s = g (Fr.get ff s)) /\ g .dead = .dead /\ ∀ i v, (i, v) ∈ fl -> g v = v
def loudA (C : Ctx) (S : FuncId -> Option Sp) (ops : List Oper) (l : Nat) (fr : Fr) (O : Hp) (k : Fr -> Hp -> Prop) : Prop :=
 match ops[l]? with
 | none => False
 | some o => grdA C ops o.guard fr (fun fr => opA C S o.op fr O fun fr x O => dstA C.nt o.dst x fr fun fr => k fr O) (fun fr => dstA C.nt o.dst (.p (.v undef)) fr fun fr => k fr O)
def planA (C : Ctx) (S : FuncId -> Option Sp) (ops : List Oper) (last : List Nat) : List PS -> List (Nat × BV) -> Fr -> Hp -> (Fr -> Hp -> Prop) -> Prop
 | [], fl, b, O, K => drawI C S ops last b O fun F O => flEq ops F fl /\ K F O
 | st :: r, fl, b, O, K => drawI C S ops st.act b O fun F O => flEq ops F fl /\
   match st.keep with
   | [] => loudA C S ops st.l F O fun fr O => planA C S ops last r [] fr O K
   | k :: ks => ∀ ff : Fr, loudA C S ops st.l (Fr.rm ((k :: ks).map (slotI ops)) F ++ ff) O fun fr O =>
     ∃ (b' : Fr) (G : Fr -> Fr), fr = b' ++ G ff /\ nokey ((k :: ks).map (slotI ops)) b' = true /\ FG (flV ops (k :: ks) F) G /\ planA C S ops last r (flV ops (k :: ks) F) b' O K
def sortedB : List Nat -> Bool
 | i :: j :: r => decide (i < j) && sortedB (j :: r)
 | _ => true
def okAct (ops : List Oper) (A : List (List Nat)) (before fl act : List Nat) : Bool :=
 sortedB act && act.all (fun i => !before.contains i) && fl.all (fun i => act.contains i) &&
 fl.all (fun i => act.all fun j => j == i || (dstOf ops j != dstOf ops i)) && act.all (fun i => act.all fun j => okPair ops A i j)
def okStages (ops : List Oper) (A : List (List Nat)) (last : List Nat) : List PS -> List Nat -> List Nat -> Bool
 | [], before, fl => okAct ops A before fl last && (List.range ops.length).all fun i => before.contains i || last.contains i
 | st :: r, before, fl => okAct ops A before fl st.act && decide (st.l < ops.length) && !before.contains st.l && !st.act.contains st.l && st.keep.all (fun i => st.act.contains i) &&
   st.keep.all (fun i => (dstOf ops i).isSome && (dstOf ops st.l != dstOf ops i) && st.act.all fun j => j == i || (dstOf ops j != dstOf ops i)) &&
   st.act.all (fun i => st.keep.contains i || (A.getD st.l []).contains i) &&
   (List.range ops.length).all (fun i => before.contains i || st.act.contains i || i == st.l || match ops[i]? with
    | none => true
    | some o => o.after.any fun e => Region.binds .any e && !before.contains e.on && !st.act.contains e.on) &&
   okStages ops A last r (st.l :: st.act.filter (fun i => !st.keep.contains i) ++ before) st.keep
def okPlan (ops : List Oper) (last : List Nat) (sts : List PS) : Bool :=
 let A := ancs ops
 ancOK ops A && (List.range ops.length).all (fun i => match ops[i]? with
  | none => true
  | some o => o.after.all fun e => !Region.binds .any e || decide (e.on < i)) && okStages ops A last sts [] []
structure ActOK (ops : List Oper) (A : List (List Nat)) (before fl act : List Nat) : Prop where
 sorted : act.Pairwise (· < ·)
 disj : ∀ i, i ∈ act -> i ∉ before
 sub : ∀ i, i ∈ fl -> i ∈ act
 one : ∀ i, i ∈ fl -> ∀ j, j ∈ act -> j ≠ i -> dstOf ops j ≠ dstOf ops i
 pair : ∀ i, i ∈ act -> ∀ j, j ∈ act -> okPair ops A i j = true
theorem sortedB_spec : ∀ {l : List Nat}, sortedB l = true -> l.Pairwise (· < ·)
 | [], _ => List.Pairwise.nil
 | [i], _ => by simp
 | i :: j :: r, h => by
  simp only [sortedB, Bool.and_eq_true, decide_eq_true_eq] at h
  have ih := sortedB_spec h.2
  refine List.pairwise_cons.2 ⟨fun k hk => ?_, ih⟩
  rcases List.mem_cons.1 hk with rfl | hk
  ·exact h.1
  ·exact Nat.lt_trans h.1 ((List.pairwise_cons.1 ih).1 k hk)
theorem okAct_spec {ops : List Oper} {A : List (List Nat)} {before fl act : List Nat} (h : okAct ops A before fl act = true) : ActOK ops A before fl act := by
 simp only [okAct, Bool.and_eq_true, List.all_eq_true, Bool.not_eq_true', List.contains_eq_mem, decide_eq_false_iff_not, decide_eq_true_eq, Bool.or_eq_true, beq_iff_eq, bne_iff_ne, ne_eq] at h
 obtain ⟨⟨⟨⟨h1, h2⟩, h3⟩, h4⟩, h5⟩ := h
 exact ⟨sortedB_spec h1, h2, h3, fun i hi j hj hne => (h4 i hi j hj).resolve_left hne, h5⟩
theorem okPair_spec {ops : List Oper} {A : List (List Nat)} {i j d : Nat} {o : Oper} (h : okPair ops A i j = true) (hi : ops[i]? = some o) (hd : dstOf ops j = some d) (hne : j ≠ i) (hl : d ∈ o.looksAt ops.toArray ∨ o.dst = some d) :
  (j < i -> j ∈ A.getD i []) /\ (i < j -> i ∈ A.getD j []) := by
 unfold dstOf at hd
 cases hj : ops[j]? with
 | none => rw [hj] at hd; cases hd
 | some p =>
  rw [hj] at hd
  have hd' : p.dst = some d := by simpa using hd
  unfold okPair at h
  rw [hi, hj] at h
  simp only [hd', decide_eq_true_eq, if_neg hne] at h
  have hc : ((o.looksAt ops.toArray).contains d || o.dst == some d) = true := by
   simp only [Bool.or_eq_true, List.contains_iff_mem, beq_iff_eq]; exact hl
  rw [if_pos hc] at h
  constructor
  ·intro hlt; rw [if_pos hlt] at h; simpa using h
  ·intro hlt; rw [if_neg (by omega)] at h; simpa using h
section
variable {C : Ctx} {S : FuncId -> Option Sp} {ops : List Oper} {A : List (List Nat)}
def ClosedL (ops : List Oper) (listed : Array Bool) : Prop := ∀ i o, ops[i]? = some o -> listed.getD i false = true -> ∀ e ∈ o.after, Region.binds .any e = true -> listed.getD e.on false = true
def toldL (ops : List Oper) (V : Nat -> BV) (act : List Nat) (b : Fr) (listed : Array Bool) (fr : Fr) : Prop :=
 ∀ s, Fr.get fr s = lastV V ops (fun j => decide (j ∈ act) && listed.getD j false) s (Fr.get b s) ops.length
structure Inv (C : Ctx) (ops : List Oper) (E0 : Env) (V : Nat -> BV) (before act : List Nat) (b : Fr) (O : Hp) (fuel : Nat) (listed : Array Bool) (a : Act) (w : World) (β : Loc) (E : Env) (fr : Fr) : Prop where
 ev : Ev E0 E
 size : listed.size = ops.length
 closed : ClosedL ops listed
 cnt : (List.range ops.length).countP (fun i => !listed.getD i true) <= fuel
 bef : ∀ i, i ∈ before -> listed.getD i false = true
 aft : ∀ i, i < ops.length -> i ∉ before -> i ∉ act -> listed.getD i false = false
 st : St C E β fr O a w
 told : toldL ops V act b listed fr
theorem listed_iff {listed : Array Bool} (hsz : listed.size = ops.length) {i : Nat} (hi : i < ops.length) : listed.getD i true = false ↔ listed.getD i false = false := by
 have : i < listed.size := by omega
 simp [Array.getD, this]
theorem ready_nil (hback : ∀ i o, ops[i]? = some o -> ∀ e ∈ o.after, Region.binds .any e = true -> e.on < i) {listed : Array Bool} (hsz : listed.size = ops.length) (hr : Region.ready .any ops.toArray listed = []) : ∀ i, i < ops.length -> listed.getD i false = true := by
 intro i
 induction i using Nat.strongRecOn with
 | _ i ih =>
  intro hi
  cases hl : listed.getD i false with
  | true => rfl
  | false =>
   exfalso
   have : i ∈ Region.ready .any ops.toArray listed := by
    rw [mem_ready]
    refine ⟨(listed_iff hsz hi).2 hl, ops[i], by simp [hi], fun e he hb => ?_⟩
    have hlt := hback i ops[i] (by simp [hi]) e he hb
    exact ih e.on hlt (by omega)
   rw [hr] at this; cases this
theorem anc_listed (hanc : ∀ i o j, ops[i]? = some o -> j ∈ A.getD i [] -> ∃ e ∈ o.after, Region.binds .any e = true /\ e.on < i /\ (e.on = j ∨ j ∈ A.getD e.on [])) {listed : Array Bool} (hcl : ClosedL ops listed) :
  ∀ i o, ops[i]? = some o -> (listed.getD i false = true ∨ ∀ e ∈ o.after, Region.binds .any e = true -> listed.getD e.on false = true) -> ∀ j, j ∈ A.getD i [] -> listed.getD j false = true := by
 intro i
 induction i using Nat.strongRecOn with
 | _ i ih =>
  intro o hi hd j hj
  obtain ⟨e, he, hb, hlt, hc⟩ := hanc i o j hi hj
  have hel : listed.getD e.on false = true := by
   rcases hd with hd | hd
   ·exact hcl i o hi hd e he hb
   ·exact hd e he hb
  rcases hc with rfl | hc
  ·exact hel
  ·have hlt' : e.on < ops.length := Nat.lt_trans hlt (List.getElem?_eq_some_iff.1 hi).1
   exact ih e.on hlt ops[e.on] (by simp [hlt']) (.inl hel) j hc
theorem listed_set {listed : Array Bool} (hsz : listed.size = ops.length) (hcl : ClosedL ops listed) {fuel i : Nat} {o : Oper} (hlt : i < ops.length) (hun : listed.getD i true = false) (hio : ops[i]? = some o) (hdeps : ∀ e ∈ o.after, Region.binds .any e = true -> listed.getD e.on false = true)
    (hcnt : (List.range ops.length).countP (fun i => !listed.getD i true) <= fuel + 1) :
    (listed.setIfInBounds i true).size = ops.length /\ ClosedL ops (listed.setIfInBounds i true) /\ (List.range ops.length).countP (fun j => !(listed.setIfInBounds i true).getD j true) <= fuel /\
      (∀ j, j ≠ i -> (listed.setIfInBounds i true).getD j false = listed.getD j false) /\ (listed.setIfInBounds i true).getD i false = true := by
  have hgs : ∀ j, j ≠ i -> (listed.setIfInBounds i true).getD j false = listed.getD j false := fun j hj => getD_set_ne false (Ne.symm hj)
  have hgi : (listed.setIfInBounds i true).getD i false = true := by
    have : i < listed.size := by omega
    simp [Array.getD, this]
  refine ⟨by simpa using hsz, fun j oj hj hlj e he hb => ?_, ?_, hgs, hgi⟩
  · by_cases hji : j = i
    · subst hji
      rw [hio] at hj; cases hj
      exact getD_set_true (hdeps e he hb)
    · rw [hgs j hji] at hlj
      exact getD_set_true (hcl j oj hj hlj e he hb)
  · have := countP_lt (p := fun i => !listed.getD i true) (p' := fun j => !(listed.setIfInBounds i true).getD j true) (l := List.range ops.length) (i := i) (List.mem_range.2 hlt) (by simp only [hun, Bool.not_false])
      (by have : i < listed.size := by omega
          simp [Array.getD, this]) (fun j hj => by
        by_cases hji : i = j
        · subst hji
          have : i < listed.size := by omega
          simp [Array.getD, this] at hj
        · rw [getD_set_ne true hji] at hj; exact hj)
    omega
theorem stage_any (hnd : nodefB ops = true) (hanc : ∀ i o j, ops[i]? = some o -> j ∈ A.getD i [] -> ∃ e ∈ o.after, Region.binds .any e = true /\ e.on < i /\ (e.on = j ∨ j ∈ A.getD e.on []))
  (hback : ∀ i o, ops[i]? = some o -> ∀ e ∈ o.after, Region.binds .any e = true -> e.on < i) {Q : Exit -> Act -> World -> Prop} {E0 : Env} {V : Nat -> BV} {before fl act : List Nat} {b : Fr} {O : Hp} (hok : ActOK ops A before fl act)
  (hstep : ∀ i, i ∈ act -> ∃ o, ops[i]? = some o /\ ∃ d, o.dst = some d /\ d < C.nt /\ StepF C ops o O (fun s => lastV V ops (fun j => decide (j ∈ act /\ j < i)) s (Fr.get b s) ops.length) (V i))
  (hdone : ∀ (listed : Array Bool) (a : Act) (w : World) (β : Loc) (E : Env) (fr : Fr), Inv C ops E0 V before act b O ops.length listed a w β E fr -> (∀ i, i < ops.length -> listed.getD i false = true) -> Q .normal a w)
  (hother : ∀ (fuel : Nat) (listed : Array Bool) (a : Act) (w : World) (β : Loc) (E : Env) (fr : Fr) (i : Nat), Inv C ops E0 V before act b O (fuel + 1) listed a w β E fr -> i ∈ Region.ready .any ops.toArray listed -> i ∉ act ->
   wpOpIn (rnd C) 0 C.P ops.toArray Q i (wpAnyIn (rnd C) 0 C.P .any ops.toArray Q fuel (listed.setIfInBounds i true)) a w) :
  ∀ (fuel : Nat) (listed : Array Bool) (a : Act) (w : World) (β : Loc) (E : Env) (fr : Fr), Inv C ops E0 V before act b O fuel listed a w β E fr -> wpAnyIn (rnd C) 0 C.P .any ops.toArray Q fuel listed a w := by
 have hend : ∀ (fuel : Nat) (listed : Array Bool) (a : Act) (w : World) (β : Loc) (E : Env) (fr : Fr), Inv C ops E0 V before act b O fuel listed a w β E fr -> Region.ready .any ops.toArray listed = [] -> Q .normal a w := fun fuel listed a w β E fr h hr =>
  hdone listed a w β E fr ⟨h.ev, h.size, h.closed, Nat.le_trans List.countP_le_length (by simp), h.bef, h.aft, h.st, h.told⟩ (ready_nil hback h.size hr)
 intro fuel
 induction fuel with
 | zero =>
  intro listed a w β E fr h
  have hr : Region.ready .any ops.toArray listed = [] := by
   cases hh : Region.ready .any ops.toArray listed with
   | nil => rfl
   | cons i r =>
    have hi : i ∈ Region.ready .any ops.toArray listed := by rw [hh]; exact List.mem_cons_self
    obtain ⟨h1, o, h2, _⟩ := mem_ready.1 hi
    have hlt : i < ops.length := by
     have := (Array.getElem?_eq_some_iff.1 h2).1
     simpa using this
    have : 0 < (List.range ops.length).countP (fun i => !listed.getD i true) := List.countP_pos_iff.2 ⟨i, List.mem_range.2 hlt, by simp only [h1, Bool.not_false]⟩
    have := h.cnt
    omega
  exact ⟨hr, hend 0 listed a w β E fr h hr⟩
 | succ fuel ih =>
  intro listed a w β E fr h
  refine ⟨hend _ listed a w β E fr h, fun i hi => ?_⟩
  by_cases hia : i ∈ act
  case neg => exact hother fuel listed a w β E fr i h hi hia
  obtain ⟨hun, o, ho, hdeps⟩ := mem_ready.1 hi
  have hlt : i < ops.length := by
   have := (Array.getElem?_eq_some_iff.1 ho).1
   simpa using this
  have hio : ops[i]? = some o := by simpa using ho
  have hunf : listed.getD i false = false := (listed_iff h.size hlt).1 hun
  obtain ⟨o', ho', d, hd, hdn, hst0⟩ := hstep i hia
  rw [hio] at ho'; cases ho'
  have hdi : dstOf ops i = some d := by simp [dstOf, hio, hd]
  have hanc' := anc_listed hanc h.closed
  have hlook : ∀ s, s ∈ o.looksAt ops.toArray -> Fr.get fr s = lastV V ops (fun j => decide (j ∈ act /\ j < i)) s (Fr.get b s) ops.length := by
   intro s hs
   rw [h.told s]
   refine lastV_congr fun j hj hdj => ?_
   by_cases hja : j ∈ act
   ·by_cases hji : j = i
    ·subst hji; simp [hunf]
    ·have hp := okPair_spec (hok.pair i hia j hja) hio hdj hji (.inl hs)
     rcases Nat.lt_or_ge j i with h1 | h1
     ·have := hanc' i o hio (.inr hdeps) j (hp.1 h1)
      simp [hja, this, h1]
     ·have h2 : i < j := by omega
      cases hlj : listed.getD j false with
      | false => simp; omega
      | true =>
       have := hanc' j ops[j] (by simp [hj]) (.inl hlj) i (hp.2 h2)
       rw [hunf] at this; cases this
   ·simp [hja]
  have hlast : ∀ j, i < j -> dstOf ops j = some d -> (decide (j ∈ act) && listed.getD j false) = false := by
   intro j hij hdj
   by_cases hja : j ∈ act
   ·cases hlj : listed.getD j false with
    | false => simp
    | true =>
     have hp := okPair_spec (hok.pair i hia j hja) hio hdj (by omega) (.inr hd)
     have hj := dstOf_lt hdj
     have := hanc' j ops[j] (by simp [hj]) (.inl hlj) i (hp.2 hij)
     rw [hunf] at this; cases this
   ·simp [hja]
  obtain ⟨k1, k2, k3, k4, k5⟩ := listed_set h.size h.closed hlt hun hio hdeps h.cnt
  have hnext : ∀ β' w' u, St C E β' fr O a w' -> (V i).Rep (Un E.N β' O) β' O w' u -> wpAnyIn (rnd C) 0 C.P .any ops.toArray Q fuel (listed.setIfInBounds i true) (a.put o.dst u) w' := by
   intro β' w' u hst' hu
   rw [hd]
   refine ih (listed.setIfInBounds i true) _ w' β' E ((d, V i) :: fr) ⟨h.ev, k1, k2, k3, fun j hj => ?_, fun j hj h1 h2 => ?_, hst'.put hdn hu, fun s => ?_⟩
   ·have : j ≠ i := fun e => hok.disj i hia (e ▸ hj)
    rw [k4 j this]; exact h.bef j hj
   ·have : j ≠ i := fun e => h2 (e ▸ hia)
    rw [k4 j this]; exact h.aft j hj h1 h2
   ·rw [lastV_set (p := fun j => decide (j ∈ act) && listed.getD j false) hdi (fun j hj => by rw [k4 j hj]) (by simp [hia, k5]) hlast hlt]
    simp only [Fr.get]
    split
    ·rfl
    ·exact h.told s
  unfold wpOpIn
  rw [ho]
  show if Region.wanted o (yielded ops.toArray a.tmps) = true then _ else _
  have hguard : ∀ g want s, o.guard = some (g, want) -> gslot ops g = some s -> s ∈ o.looksAt ops.toArray := by
   intro g want s h1 h2
   unfold Oper.looksAt
   refine List.mem_append_right _ ?_
   rw [h1]
   unfold gslot at h2
   simp only [List.getElem?_toArray]
   cases hg : ops[g]? with
   | none => rw [hg] at h2; cases h2
   | some og => rw [hg] at h2; simp only at h2; simp [h2]
  rcases hst0 with ⟨hg, hp⟩ | ⟨hg, hv⟩
  ·have hw : Region.wanted o (yielded ops.toArray a.tmps) = true := by
    refine wanted_yes h.st (hg.imp id ?_)
    rintro ⟨g, want, s, h1, h2, h3, h4⟩
    exact ⟨g, want, s, h1, h2, h3, by rw [hlook s (hguard g want s h1 h2)]; exact h4⟩
   rw [if_pos hw]
   refine Oper.wp_in (.inr (nodefB_spec hnd i o hio)) (hp fr (fun y hy => ?_) E β a w h.st _ Q hnext)
   rw [evF_get]
   cases y with
   | tmp t =>
    exact hlook t (List.mem_append_left _ (List.mem_filterMap.2 ⟨.tmp t, hy, rfl⟩))
   | _ => rfl
  ·have hw : Region.wanted o (yielded ops.toArray a.tmps) = false := by
    refine wanted_no h.st ?_
    obtain ⟨g, want, s, h1, h2, h3⟩ := hg
    refine ⟨g, want, s, h1, h2, ?_⟩
    rw [hlook s (hguard g want s h1 h2)]; exact h3
   rw [if_neg (by rw [hw]; simp)]
   exact ⟨fun _ _ => trivial, hnext β w undef h.st (by rw [hv]; exact rfl)⟩
end
end Go.Vc

namespace Go.Vc
open Go
theorem Fr.get_append (X Y : Fr) (s : Nat) : Fr.get (X ++ Y) s = if s ∈ X.map (·.1) then Fr.get X s else Fr.get Y s := by
 induction X with
 | nil => rfl
 | cons p r ih =>
  obtain ⟨d, x⟩ := p
  show (if d = s then x else Fr.get (r ++ Y) s) = if s ∈ d :: r.map (·.1) then (if d = s then x else Fr.get r s) else Fr.get Y s
  by_cases hd : d = s
  ·subst hd; rw [if_pos rfl, if_pos List.mem_cons_self, if_pos rfl]
  ·rw [if_neg hd, if_neg hd, ih]
   by_cases hm : s ∈ r.map (·.1)
   ·rw [if_pos hm, if_pos (List.mem_cons_of_mem _ hm)]
   ·rw [if_neg hm, if_neg (fun h => (List.mem_cons.1 h).elim (fun e => hd e.symm) hm)]
theorem Fr.get_nokey {X : Fr} {s : Nat} (h : s ∉ X.map (·.1)) : Fr.get X s = .dead := by
 induction X with
 | nil => rfl
 | cons p r ih =>
  obtain ⟨d, x⟩ := p
  simp only [List.map_cons, List.mem_cons, not_or] at h
  simp only [Fr.get]
  rw [if_neg (fun e => h.1 e.symm)]
  exact ih h.2
theorem Fr.rm_spec {ks : List Nat} {F : Fr} : (∀ s, s ∈ ks -> s ∉ (Fr.rm ks F).map (·.1)) /\ ∀ s, s ∉ ks -> Fr.get (Fr.rm ks F) s = Fr.get F s := by
 induction F with
 | nil => exact ⟨fun s _ => by simp [Fr.rm], fun s _ => rfl⟩
 | cons p r ih =>
  obtain ⟨d, x⟩ := p
  simp only [Fr.rm]
  by_cases hd : d ∈ ks
  ·rw [if_pos hd]
   refine ⟨ih.1, fun s hs => ?_⟩
   simp only [Fr.get]
   rw [if_neg (fun e => hs (by rw [<- e]; exact hd))]
   exact ih.2 s hs
  ·rw [if_neg hd]
   refine ⟨fun s hs => ?_, fun s hs => ?_⟩
   ·simp only [List.map_cons, List.mem_cons, not_or]
    exact ⟨fun e => hd (by rw [<- e]; exact hs), ih.1 s hs⟩
   ·simp only [Fr.get]
    split
    ·rfl
    ·exact ih.2 s hs
theorem nokey_spec {ks : List Nat} : ∀ {X : Fr}, nokey ks X = true -> ∀ s, s ∈ ks -> s ∉ X.map (·.1)
 | [], _, s, _ => by simp
 | (d, x) :: r, h, s, hs => by
  simp only [nokey, Bool.and_eq_true, Bool.not_eq_true', decide_eq_false_iff_not] at h
  simp only [List.map_cons, List.mem_cons, not_or]
  exact ⟨fun e => h.1 (by rw [<- e]; exact hs), nokey_spec h.2 s hs⟩
theorem flEq_spec {ops : List Oper} {F : Fr} : ∀ {fl : List (Nat × BV)}, flEq ops F fl -> ∀ i v, (i, v) ∈ fl -> Fr.get F (slotI ops i) = v
 | [], _, i, v, h => by cases h
 | (j, u) :: r, h, i, v, hm => by
  rcases List.mem_cons.1 hm with e | e
  ·cases e; exact h.1
  ·exact flEq_spec h.2 i v e
theorem St.less {C : Ctx} {E : Env} {β : Loc} {fr fr' : Fr} {O : Hp} {a : Act} {w : World} (h : St C E β fr O a w) (hs : ∀ s, Fr.get fr' s = Fr.get fr s ∨ Fr.get fr' s = .dead) : St C E β fr' O a w :=
 ⟨h.ctx, h.good, h.core, h.defers, h.size, fun d => by
  rcases hs d with e | e
  ·rw [e]; exact h.slot d
  ·rw [e]; trivial, h.xs, h.tok.mono fun d _ e => by
  rcases hs d with e1 | e1
  ·rw [<- e1]; exact e
  ·rw [e1] at e; cases e⟩
section
variable {C : Ctx} {S : FuncId -> Option Sp} {ops : List Oper}
theorem loudA_ok (hS : ∀ f s, S f = some s -> FOK C.P C.gl f s) {Q : Exit -> Act -> World -> Prop} {l : Nat} {o : Oper} (ho : ops[l]? = some o) {fr : Fr} {O : Hp} {k : Fr -> Hp -> Prop} (h : loudA C S ops l fr O k) {E : Env} {β : Loc} {a : Act} {w : World} (hst : St C E β fr O a w) {KK : Act -> World -> Prop}
  (hK : ∀ E' fr' O' β' a' w', Ev E E' -> k fr' O' -> St C E' β' fr' O' a' w' -> KK a' w') : wpOpIn (rnd C) 0 C.P ops.toArray Q l KK a w := by
 unfold loudA at h
 rw [ho] at h
 simp only at h
 unfold wpOpIn
 rw [show ops.toArray[l]? = some o by simpa using ho]
 show if Region.wanted o (yielded ops.toArray a.tmps) = true then _ else _
 obtain ⟨fr1, hst1, ⟨hw, h1⟩ | ⟨hw, h1⟩⟩ := grdA_ok hst h
 ·rw [if_pos hw]
  refine opA_X hS h1 E β a w hst1 _ Q fun fr' x O' β' E' w' u hE' hk hst' hx => ?_
  obtain ⟨fr2, h2, hst2⟩ := dstA_ok hst' hx hk
  exact hK E' fr2 O' β' _ w' hE' h2 hst2
 ·rw [if_neg (by rw [hw]; simp)]
  obtain ⟨fr2, h2, hst2⟩ := dstA_ok (x := .p (.v undef)) (u := undef) hst1 rfl h1
  exact ⟨fun _ _ => trivial, hK E fr2 O β _ w (Ev.refl E) h2 hst2⟩
variable {A : List (List Nat)} {last : List Nat}
theorem plan_any (hS : ∀ f s, S f = some s -> FOK C.P C.gl f s) (hD : ∀ f s, S f = some s -> SpDet s.sp) (hnd : nodefB ops = true) (hanc : ∀ i o j, ops[i]? = some o -> j ∈ A.getD i [] -> ∃ e ∈ o.after, Region.binds .any e = true /\ e.on < i /\ (e.on = j ∨ j ∈ A.getD e.on []))
  (hback : ∀ i o, ops[i]? = some o -> ∀ e ∈ o.after, Region.binds .any e = true -> e.on < i) {Q : Exit -> Act -> World -> Prop} {E0 : Env} {K : Fr -> Hp -> Prop} (hQ : ∀ E fr O β a w, Ev E0 E -> K fr O -> St C E β fr O a w -> Q .normal a w) :
  ∀ (sts : List PS) (before : List Nat) (fl : List (Nat × BV)) (b : Fr) (O : Hp), okStages ops A last sts before (fl.map (·.1)) = true -> planA C S ops last sts fl b O K ->
   ∀ (fuel : Nat) (listed : Array Bool) (a : Act) (w : World) (β : Loc) (E : Env) (fr : Fr), Ev E0 E -> listed.size = ops.length -> ClosedL ops listed -> (List.range ops.length).countP (fun i => !listed.getD i true) <= fuel ->
    (∀ i, i ∈ before -> listed.getD i false = true) -> (∀ i, i < ops.length -> i ∉ before -> i ∉ fl.map (·.1) -> listed.getD i false = false) -> St C E β fr O a w ->
    (∃ W : Nat -> BV, (∀ i v, (i, v) ∈ fl -> W i = v) /\ toldL ops W (fl.map (·.1)) b listed fr) -> wpAnyIn (rnd C) 0 C.P .any ops.toArray Q fuel listed a w := by
 have start : ∀ (before : List Nat) (fl : List (Nat × BV)) (act : List Nat) (b : Fr) (O : Hp) (KK : Fr -> Hp -> Prop), ActOK ops A before (fl.map (·.1)) act -> drawI C S ops act b O (fun F O => flEq ops F fl /\ KK F O) ->
   ∃ (V : Nat -> BV) (F : Fr), KK F O /\ (∀ i v, (i, v) ∈ fl -> V i = v) /\ (∀ s, Fr.get F s = lastV V ops (fun j => decide (j ∈ act)) s (Fr.get b s) ops.length) /\
    (∀ i, i ∈ act -> ∃ o, ops[i]? = some o /\ ∃ d, o.dst = some d /\ d < C.nt /\ StepF C ops o O (fun s => lastV V ops (fun j => decide (j ∈ act /\ j < i)) s (Fr.get b s) ops.length) (V i)) /\
    ∀ (fuel : Nat) (listed : Array Bool) (a : Act) (w : World) (β : Loc) (E : Env) (fr : Fr), Ev E0 E -> listed.size = ops.length -> ClosedL ops listed -> (List.range ops.length).countP (fun i => !listed.getD i true) <= fuel ->
     (∀ i, i ∈ before -> listed.getD i false = true) -> (∀ i, i < ops.length -> i ∉ before -> i ∉ fl.map (·.1) -> listed.getD i false = false) -> St C E β fr O a w ->
     (∃ W : Nat -> BV, (∀ i v, (i, v) ∈ fl -> W i = v) /\ toldL ops W (fl.map (·.1)) b listed fr) -> Inv C ops E0 V before act b O fuel listed a w β E fr := by
  intro before fl act b O KK hok h
  obtain ⟨V, _, ⟨F, ⟨hfl, hKK⟩, hF⟩, hstep⟩ := drawI_plan hS hD (base := Fr.get b) act [] b (fun _ => .dead) hok.sorted (fun i hi => by cases hi) (fun s => (lastV_none fun j _ _ => by simp).symm) h
  simp only [List.nil_append] at hF hstep
  have hV : ∀ i v, (i, v) ∈ fl -> V i = v := by
   intro i v hm
   have him : i ∈ fl.map (·.1) := List.mem_map.2 ⟨_, hm, rfl⟩
   have hia := hok.sub i him
   obtain ⟨o, ho, d, hd, _⟩ := hstep i hia
   have hdi : dstOf ops i = some d := by simp [dstOf, ho, hd]
   have h1 := flEq_spec hfl i v hm
   rw [show slotI ops i = d by simp [slotI, hdi], hF d, lastV_one hdi (by simp [hia]) (fun j hj hp hdj => hok.one i him j (by simpa using hp) hj (by rw [hdj, hdi])) (dstOf_lt hdi)] at h1
   exact h1
  refine ⟨V, F, hKK, hV, hF, hstep, ?_⟩
  rintro fuel listed a w β E fr hE hsz hcl hcnt hbef haft hst ⟨W, hW, htold⟩
  refine ⟨hE, hsz, hcl, hcnt, hbef, fun i hi h1 h2 => haft i hi h1 fun hm => h2 (hok.sub i hm), hst, fun s => ?_⟩
  rw [htold s]
  refine lastV_congr2 fun j hj _ => ⟨?_, fun hp => ?_⟩
  ·by_cases hjf : j ∈ fl.map (·.1)
   ·simp only [decide_eq_true hjf, decide_eq_true (hok.sub j hjf)]
   ·by_cases hja : j ∈ act
    ·have := haft j hj (hok.disj j hja) hjf
     simp only [decide_eq_false hjf, decide_eq_true hja, this, Bool.false_and, Bool.and_false]
    ·simp only [decide_eq_false hjf, decide_eq_false hja, Bool.false_and]
  ·simp only [Bool.and_eq_true, decide_eq_true_eq] at hp
   obtain ⟨⟨j', v⟩, hm, hjj⟩ := List.mem_map.1 hp.1
   simp only at hjj
   subst hjj
   rw [hW _ _ hm, hV _ _ hm]
 intro sts
 induction sts with
 | nil =>
  intro before fl b O hok h
  simp only [okStages, Bool.and_eq_true, List.all_eq_true, Bool.or_eq_true, List.contains_eq_mem, decide_eq_true_eq] at hok
  have hA := okAct_spec hok.1
  obtain ⟨V, F, hKK, hV, hF, hstep, hinv⟩ := start before fl last b O K hA h
  intro fuel listed a w β E fr hE hsz hcl hcnt hbef haft hst htold
  refine stage_any hnd hanc hback hA hstep ?_ ?_ fuel listed a w β E fr (hinv fuel listed a w β E fr hE hsz hcl hcnt hbef haft hst htold)
  ·intro listed a w β E fr hI hall
   refine hQ E F O β a w hI.ev hKK (hI.st.same_get fun s => ?_)
   rw [hF s, hI.told s]
   exact lastV_congr fun j hj _ => by rw [hall j hj]; simp
  ·intro fuel listed a w β E fr i hI hi hia
   obtain ⟨hun, o, ho, _⟩ := mem_ready.1 hi
   have hlt : i < ops.length := by
    have := (Array.getElem?_eq_some_iff.1 ho).1
    simpa using this
   exfalso
   rcases hok.2 i (List.mem_range.2 hlt) with h1 | h1
   ·have := hI.bef i h1
    rw [(listed_iff hI.size hlt).1 hun] at this; cases this
   ·exact hia h1
 | cons st r ihr =>
  intro before fl b O hok h
  simp only [okStages, Bool.and_eq_true, List.all_eq_true, Bool.or_eq_true, List.contains_eq_mem, decide_eq_true_eq, Bool.not_eq_true', decide_eq_false_iff_not, beq_iff_eq, bne_iff_ne, ne_eq] at hok
  obtain ⟨⟨⟨⟨⟨⟨⟨⟨hok0, hll⟩, hlb⟩, hla⟩, hks⟩, hkd⟩, hmust⟩, hlater⟩, hrest⟩ := hok
  have hA := okAct_spec hok0
  obtain ⟨V, F, hKK, hV, hF, hstep, hinv⟩ := start before fl st.act b O _ hA h
  intro fuel listed a w β E fr hE hsz hcl hcnt hbef haft hst htold
  refine stage_any hnd hanc hback hA hstep ?_ ?_ fuel listed a w β E fr (hinv fuel listed a w β E fr hE hsz hcl hcnt hbef haft hst htold)
  ·intro listed a w β E fr hI hall
   have := hI.aft st.l hll hlb hla
   rw [hall st.l hll] at this; cases this
  intro fuel listed a w β E fr i hI hi hia
  obtain ⟨hun, o, ho, hdeps⟩ := mem_ready.1 hi
  have hlt : i < ops.length := by
   have := (Array.getElem?_eq_some_iff.1 ho).1
   simpa using this
  have hio : ops[i]? = some o := by simpa using ho
  have hunf : listed.getD i false = false := (listed_iff hI.size hlt).1 hun
  have hib : i ∉ before := fun hb => by rw [hI.bef i hb] at hunf; cases hunf
  by_cases hil : i = st.l
  case neg =>
   exfalso
   rcases hlater i (List.mem_range.2 hlt) with ((h1 | h1) | h1) | h1
   ·exact hib h1
   ·exact hia h1
   ·exact hil h1
   ·rw [hio] at h1
    simp only at h1
    obtain ⟨e, he, h2⟩ := Array.any_eq_true'.1 h1
    simp only [Bool.and_eq_true, Bool.not_eq_true', List.contains_eq_mem, decide_eq_false_iff_not] at h2
    have := hI.aft e.on (Nat.lt_trans (hback i o hio e he h2.1.1) hlt) h2.1.2 h2.2
    rw [hdeps e he h2.1.1] at this; cases this
  subst hil
  have hanc' := anc_listed hanc hI.closed
  have hmustL : ∀ j, j ∈ st.act -> j ∉ st.keep -> listed.getD j false = true := fun j hj hk =>
   hanc' st.l o hio (.inr hdeps) j ((hmust j hj).resolve_left hk)
  obtain ⟨k1, k2, k3, k4, k5⟩ := listed_set hI.size hI.closed hlt hun hio hdeps hI.cnt
  have hbef' : ∀ j, j ∈ (st.l :: st.act.filter (fun i => !st.keep.contains i) ++ before) -> (listed.setIfInBounds st.l true).getD j false = true := by
   intro j hj
   by_cases hjl : j = st.l
   ·rw [hjl]; exact k5
   rw [k4 j hjl]
   rcases List.mem_append.1 hj with hj | hj
   ·rcases List.mem_cons.1 hj with e | hj
    ·exact absurd e hjl
    ·obtain ⟨h1, h2⟩ := List.mem_filter.1 hj
     exact hmustL j h1 (by simpa using h2)
   ·exact hI.bef j hj
  have haft' : ∀ (fl' : List (Nat × BV)), fl'.map (·.1) = st.keep -> ∀ j, j < ops.length -> j ∉ (st.l :: st.act.filter (fun i => !st.keep.contains i) ++ before) -> j ∉ fl'.map (·.1) -> (listed.setIfInBounds st.l true).getD j false = false := by
   intro fl' hfl' j hj h1 h2
   rw [hfl'] at h2
   simp only [List.cons_append, List.mem_cons, List.mem_append, List.mem_filter, not_or] at h1
   rw [k4 j h1.1]
   refine hI.aft j hj h1.2.2 fun hja => h1.2.1 ⟨hja, by simpa using h2⟩
  cases hkeep : st.keep with
  | nil =>
   rw [hkeep] at hKK
   simp only at hKK
   have hallA : ∀ j, j ∈ st.act -> listed.getD j false = true := fun j hj => hmustL j hj (by rw [hkeep]; simp)
   have hstF : St C E β F O a w := hI.st.same_get fun s => by
    rw [hF s, hI.told s]
    exact lastV_congr fun j hj _ => by
     by_cases hja : j ∈ st.act
     ·simp [hja, hallA j hja]
     ·simp [hja]
   refine loudA_ok hS hio hKK hstF fun E' fr' O' β' a' w' hE' hk hst' => ?_
   exact ihr _ [] fr' O' (by rw [hkeep] at hrest; exact hrest) hk fuel _ a' w' β' E' fr' (hI.ev.trans hE') k1 k2 k3 (by rw [hkeep] at hbef'; exact hbef') (by have := haft' [] (by rw [hkeep]; rfl); rw [hkeep] at this; exact this) hst'
    ⟨fun _ => .dead, fun _ _ h => (by cases h), fun s => (lastV_none fun j _ _ => rfl).symm⟩
  | cons k0 ks =>
   rw [hkeep] at hKK
   simp only at hKK
   rw [<- hkeep] at hKK
   have hdk : ∀ i, i ∈ st.keep -> dstOf ops i = some (slotI ops i) := fun i hi => by
    have := (hkd i hi).1.1
    cases hd : dstOf ops i with
    | none => rw [hd] at this; cases this
    | some d => simp [slotI, hd]
   have hone : ∀ i, i ∈ st.keep -> ∀ j, j ∈ st.act -> j ≠ i -> dstOf ops j ≠ dstOf ops i := fun i hi j hj hne => ((hkd i hi).2 j hj).resolve_left hne
   have hFk : ∀ i, i ∈ st.keep -> Fr.get F (slotI ops i) = V i := fun i hi => by
    rw [hF, lastV_one (hdk i hi) (by simp [hks i hi]) (fun j hj hp hdj => hone i hi j (by simpa using hp) hj (by rw [hdj, hdk i hi])) (dstOf_lt (hdk i hi))]
   let ffo : List Nat := st.keep.filter (fun i => listed.getD i false)
   let ff : Fr := ffo.map (fun i => (slotI ops i, V i))
   have hslot_inj : ∀ i, i ∈ st.keep -> ∀ j, j ∈ st.keep -> slotI ops i = slotI ops j -> i = j := fun i hi j hj e => by
    rcases Nat.decEq j i with hne | he
    ·exact absurd (by rw [hdk j hj, hdk i hi, e]) (hone i hi j (hks j hj) hne)
    ·exact he.symm
   have hff1 : ∀ i, i ∈ st.keep -> Fr.get ff (slotI ops i) = if listed.getD i false = true then V i else .dead := by
    intro i hi
    have aux : ∀ L : List Nat, (∀ j, j ∈ L -> j ∈ st.keep) -> Fr.get (L.map (fun i => (slotI ops i, V i))) (slotI ops i) = if i ∈ L then V i else .dead := by
     intro L
     induction L with
     | nil => intro _; rfl
     | cons j L ih =>
      intro hL
      simp only [List.map_cons, Fr.get, List.mem_cons]
      by_cases hji : j = i
      ·subst hji; simp
      ·rw [if_neg (fun e => hji (hslot_inj j (hL j (by simp)) i hi e)), ih fun k hk => hL k (by simp [hk])]
       have : ¬ i = j := fun e => hji e.symm
       simp [this]
    rw [aux ffo (fun j hj => (List.mem_filter.1 hj).1)]
    have : i ∈ ffo ↔ listed.getD i false = true := by simp [ffo, List.mem_filter, hi]
    simp only [this]
   have hff0 : ∀ s, s ∉ st.keep.map (slotI ops) -> Fr.get ff s = .dead := by
    intro s hs
    refine Fr.get_nokey fun hm => hs ?_
    obtain ⟨⟨d, x⟩, h1, h2⟩ := List.mem_map.1 hm
    obtain ⟨j, h3, h4⟩ := List.mem_map.1 h1
    cases h4
    simp only at h2
    exact List.mem_map.2 ⟨j, (List.mem_filter.1 h3).1, h2⟩
   have hrm := Fr.rm_spec (ks := st.keep.map (slotI ops)) (F := F)
   have hstF : St C E β (Fr.rm (st.keep.map (slotI ops)) F ++ ff) O a w := hI.st.less fun s => by
    rw [Fr.get_append]
    by_cases hs : s ∈ st.keep.map (slotI ops)
    ·rw [if_neg (hrm.1 s hs)]
     obtain ⟨i, hi, rfl⟩ := List.mem_map.1 hs
     rw [hff1 i hi]
     by_cases hl : listed.getD i false = true
     ·rw [if_pos hl]
      refine .inl ?_
      rw [hI.told, lastV_one (hdk i hi) (by simp only [decide_eq_true (hks i hi), hl]; rfl) (fun j hj hp hdj => hone i hi j (by simp only [Bool.and_eq_true, decide_eq_true_eq] at hp; exact hp.1) hj (by rw [hdj, hdk i hi])) (dstOf_lt (hdk i hi))]
     ·rw [if_neg hl]; exact .inr rfl
    ·have e1 : Fr.get F s = Fr.get fr s := by
      rw [hF s, hI.told s]
      refine lastV_congr fun j hj hdj => ?_
      by_cases hja : j ∈ st.act
      ·have : j ∉ st.keep := fun hk => hs (List.mem_map.2 ⟨j, hk, by simp [slotI, hdj]⟩)
       simp [hja, hmustL j hja this]
      ·simp [hja]
     by_cases hm : s ∈ (Fr.rm (st.keep.map (slotI ops)) F).map (·.1)
     ·rw [if_pos hm, hrm.2 s hs]; exact .inl e1
     ·rw [if_neg hm]; exact .inr (hff0 s hs)
   refine loudA_ok hS hio (hKK ff) hstF fun E' fr' O' β' a' w' hE' hk hst' => ?_
   obtain ⟨b', G, rfl, hnk, ⟨g, hg, hgd, hgv⟩, hplan⟩ := hk
   have hflm : (flV ops st.keep F).map (·.1) = st.keep := by simp [flV, Function.comp_def]
   have hnk' := nokey_spec hnk
   have hgV : ∀ i, i ∈ st.keep -> g (V i) = V i := fun i hi => by
    have := hgv i (Fr.get F (slotI ops i)) (List.mem_map.2 ⟨i, hi, rfl⟩)
    rwa [hFk i hi] at this
   refine ihr _ (flV ops st.keep F) b' O' (by rw [hflm]; simpa only [List.contains_eq_mem] using hrest) hplan fuel _ a' w' β' E' _ (hI.ev.trans hE') k1 k2 k3 hbef' (haft' _ hflm) hst' ⟨V, fun i v hm => ?_, fun s => ?_⟩
   ·obtain ⟨j, hj, e⟩ := List.mem_map.1 hm
    cases e
    exact (hFk _ hj).symm
   ·rw [hflm, Fr.get_append]
    by_cases hs : s ∈ st.keep.map (slotI ops)
    ·rw [if_neg (hnk' s hs)]
     obtain ⟨i, hi, rfl⟩ := List.mem_map.1 hs
     rw [hg, hff1 i hi]
     have hne : i ≠ st.l := fun e => hla (e ▸ hks i hi)
     by_cases hl : listed.getD i false = true
     ·rw [if_pos hl, hgV i hi, lastV_one (hdk i hi) (by simp only [decide_eq_true hi, k4 i hne, hl]; rfl) (fun j hj hp hdj => hone i hi j (hks j (by simp only [Bool.and_eq_true, decide_eq_true_eq] at hp; exact hp.1)) hj (by rw [hdj, hdk i hi])) (dstOf_lt (hdk i hi))]
     ·rw [if_neg hl, hgd, lastV_none (fun j hj hdj => (by
       by_cases hjk : j ∈ st.keep
       ·have : j = i := hslot_inj j hjk i hi (by simp [slotI, hdj])
        subst this
        simp only [k4 j hne, Bool.eq_false_iff.2 hl, Bool.and_false]
       ·simp [hjk])), Fr.get_nokey (hnk' _ hs)]
    ·rw [hg, hff0 s hs, hgd, lastV_none (fun j hj hdj => (by
      have : j ∉ st.keep := fun hk => hs (List.mem_map.2 ⟨j, hk, by simp [slotI, hdj]⟩)
      simp [this]))]
     by_cases hm : s ∈ b'.map (·.1)
     ·rw [if_pos hm]
     ·rw [if_neg hm, Fr.get_nokey hm]
end
theorem okPlan_spec {ops : List Oper} {last : List Nat} {sts : List PS} (h : okPlan ops last sts = true) :
  (∀ i o j, ops[i]? = some o -> j ∈ (ancs ops).getD i [] -> ∃ e ∈ o.after, Region.binds .any e = true /\ e.on < i /\ (e.on = j ∨ j ∈ (ancs ops).getD e.on [])) /\
  (∀ i o, ops[i]? = some o -> ∀ e ∈ o.after, Region.binds .any e = true -> e.on < i) /\ okStages ops (ancs ops) last sts [] [] = true := by
 unfold okPlan at h
 simp only [Bool.and_eq_true] at h
 obtain ⟨⟨h1, h2⟩, h3⟩ := h
 refine ⟨fun i o j hi hj => ?_, fun i o hi e he hb => ?_, h3⟩
 ·have hlt : i < ops.length := (List.getElem?_eq_some_iff.1 hi).1
  have := List.all_eq_true.1 h1 i (List.mem_range.2 hlt)
  rw [hi] at this
  have := List.all_eq_true.1 this j hj
  obtain ⟨e, he, hb⟩ := Array.any_eq_true'.1 this
  simp only [Bool.and_eq_true, decide_eq_true_eq, Bool.or_eq_true, beq_iff_eq, List.contains_iff_mem] at hb
  exact ⟨e, he, hb.1.1, hb.1.2, hb.2⟩
 ·have hlt : i < ops.length := (List.getElem?_eq_some_iff.1 hi).1
  have := List.all_eq_true.1 h2 i (List.mem_range.2 hlt)
  rw [hi] at this
  have := Array.all_eq_true_iff_forall_mem.1 this e he
  simp only [Bool.or_eq_true, Bool.not_eq_true', hb, decide_eq_true_eq] at this
  rcases this with h | h
  ·cases h
  ·exact h
theorem HT.plan {C : Ctx} {S : FuncId -> Option Sp} (hS : ∀ f s, S f = some s -> FOK C.P C.gl f s) (hD : ∀ f s, S f = some s -> SpDet s.sp) (hm : C.P.follows .mixedOrders = true) {fr : Fr} {O : Hp} {Q : QA} {id : Nat} {l : List Oper} (last : List Nat) (sts : List PS) (hB : okPlan l last sts = true)
  (h : planA C S l last sts [] fr O (Q .normal)) (hnd : nodefB l = true := by rfl) : HT C (.region id l.toArray true) fr O Q := by
 refine ⟨fun E β a w hst => ?_⟩
 have hst' : St C E β fr O a { w with drawn := w.drawn + 1 } := hst.goes hst.core.drew (fun _ _ _ => trivial)
 obtain ⟨h1, h2, h3⟩ := okPlan_spec hB
 refine wpIn_region_any hm (plan_any (E0 := E) hS hD hnd h1 h2 (fun E' fr O β a w hE hk hs => ⟨fr, O, β, E', hE, hk, hs⟩) sts [] [] fr O h3 h _ _ a _ β E fr (Ev.refl E) (by simp) ?_ ?_ (fun i hi => by cases hi) (fun i _ _ _ => by rw [getD_replicate_false]) hst' ⟨fun _ => .dead, fun _ _ h => (by cases h), fun s => (lastV_none fun j _ _ => rfl).symm⟩)
 ·intro i o _ hl
  rw [getD_replicate_false] at hl; cases hl
 ·refine Nat.le_trans (List.countP_le_length) ?_
  simp
end Go.Vc

namespace Go.Vc
open Go
section
variable {C : Ctx} {S : FuncId -> Option Sp} {fr b : Fr} {O : Hp} {ops : List Oper} {K : Fr -> Hp -> Prop} {op : Op} {T : TypeId} {pos : String} {af : Array Edge} {i : Nat} {is last act : List Nat} {r : List PS} {l : Nat} {fl : List (Nat × BV)}
theorem HT.planS {Q : QA} (hS : ∀ f s, S f = some s -> FOK C.P C.gl f s) (hD : ∀ f s, S f = some s -> SpDet s.sp) (hm : C.P.follows .mixedOrders = true) {id : Nat} {l : List Oper} (last : List Nat) (sts : List PS) (hB : okPlan l last sts = true) (h : planA C S l last sts [] fr O (Q .normal)) (hnd : nodefB l = true := by rfl) :
  HT C (.region id l.toArray true) fr O Q := HT.plan hS hD hm last sts hB h hnd
theorem Si.n {d : Tmp} (ho : ops[i]? = some ⟨some d, op, T, pos, af, none⟩) (hd : d < C.nt) (h : valA C S op fr O fun x => drawI C S ops is ((d, x) :: fr) O K) : drawI C S ops (i :: is) fr O K := by
 unfold drawI
 rw [ho]
 have e : (fun x => dstD C.nt (some d) x fr fun fr => drawI C S ops is fr O K) = (fun x => drawI C S ops is ((d, x) :: fr) O K) := by
  funext x
  exact propext ⟨fun h => h.2, fun h => ⟨hd, h⟩⟩
 show valA C S op fr O (fun x => dstD C.nt (some d) x fr fun fr => drawI C S ops is fr O K)
 rw [e]; exact h
theorem Si.e (h : K fr O) : drawI C S ops [] fr O K := h
theorem Si.gd {d g gd : Nat} {want b : Bool} (ho : ops[i]? = some ⟨some d, op, T, pos, af, some (g, want)⟩) (hg : gslot ops g = some gd) (hb : Fr.get fr gd = .p (.v (.bool b))) (hlt : gd < C.nt) (hd : d < C.nt)
  (h1 : b = want -> valA C S op ((gd, .p (.v (.bool want))) :: fr) O fun x => drawI C S ops is ((d, x) :: (gd, .p (.v (.bool want))) :: fr) O K) (h2 : b = !want -> drawI C S ops is ((d, .p (.v undef)) :: (gd, .p (.v (.bool !want))) :: fr) O K) :
  drawI C S ops (i :: is) fr O K := by
 unfold drawI
 rw [ho]
 refine grd_split hg hb hlt (fun e => ?_) (fun e => ⟨hd, h2 e⟩)
 have e' : (fun x => dstD C.nt (some d) x ((gd, .p (.v (.bool want))) :: fr) fun fr => drawI C S ops is fr O K) = (fun x => drawI C S ops is ((d, x) :: (gd, .p (.v (.bool want))) :: fr) O K) := by
  funext x
  exact propext ⟨fun h => h.2, fun h => ⟨hd, h⟩⟩
 show valA C S op _ O (fun x => dstD C.nt (some d) x ((gd, .p (.v (.bool want))) :: fr) fun fr => drawI C S ops is fr O K)
 rw [e']; exact h1 e
theorem Si.gy {d g gd : Nat} {want : Bool} (ho : ops[i]? = some ⟨some d, op, T, pos, af, some (g, want)⟩) (hg : gslot ops g = some gd) (hb : Fr.get fr gd = .p (.v (.bool want))) (hlt : gd < C.nt) (hd : d < C.nt)
  (h1 : valA C S op ((gd, .p (.v (.bool want))) :: fr) O fun x => drawI C S ops is ((d, x) :: (gd, .p (.v (.bool want))) :: fr) O K) : drawI C S ops (i :: is) fr O K :=
 Si.gd ho hg hb hlt hd (fun _ => h1) (fun e => by cases want <;> cases e)
theorem Si.gn {d g gd : Nat} {want b : Bool} (ho : ops[i]? = some ⟨some d, op, T, pos, af, some (g, want)⟩) (hg : gslot ops g = some gd) (hb : Fr.get fr gd = .p (.v (.bool b))) (he : b = !want) (hlt : gd < C.nt) (hd : d < C.nt)
  (h2 : drawI C S ops is ((d, .p (.v undef)) :: (gd, .p (.v (.bool !want))) :: fr) O K) : drawI C S ops (i :: is) fr O K :=
 Si.gd ho hg hb hlt hd (fun e => by subst he; cases want <;> cases e) (fun _ => h2)
theorem Pl.e (h : drawI C S ops last b O fun F O => flEq ops F fl /\ K F O) : planA C S ops last [] fl b O K := h
theorem Pl.l0 (h : drawI C S ops act b O fun F O => flEq ops F fl /\ loudA C S ops l F O fun fr O => planA C S ops last r [] fr O K) : planA C S ops last (⟨act, l, []⟩ :: r) fl b O K := h
theorem Pl.lk {k : Nat} {ks : List Nat} (h : drawI C S ops act b O fun F O => flEq ops F fl /\ ∀ ff : Fr, loudA C S ops l (Fr.rm ((k :: ks).map (slotI ops)) F ++ ff) O fun fr O =>
  ∃ (b' : Fr) (G : Fr -> Fr), fr = b' ++ G ff /\ nokey ((k :: ks).map (slotI ops)) b' = true /\ FG (flV ops (k :: ks) F) G /\ planA C S ops last r (flV ops (k :: ks) F) b' O K) : planA C S ops last (⟨act, l, k :: ks⟩ :: r) fl b O K := h
theorem flEq_nil {F : Fr} : flEq ops F [] := trivial
theorem flEq_cons {F : Fr} {v : BV} {r : List (Nat × BV)} (h : Fr.get F (slotI ops i) = v) (h2 : flEq ops F r) : flEq ops F ((i, v) :: r) := ⟨h, h2⟩
theorem Lo.n {d : Tmp} {k : Fr -> Hp -> Prop} (ho : ops[l]? = some ⟨some d, op, T, pos, af, none⟩) (hd : d < C.nt) (h : opA C S op fr O fun fr x O => k ((d, x) :: fr) O) : loudA C S ops l fr O k := by
 unfold loudA
 rw [ho]
 show opA C S op fr O (fun fr x O => dstA C.nt (some d) x fr fun fr => k fr O)
 have e : (fun fr x O => dstA C.nt (some d) x fr fun fr => k fr O) = (fun (fr : Fr) x O => k ((d, x) :: fr) O) := by
  funext fr x O
  exact propext ⟨fun h => h.2, fun h => ⟨hd, h⟩⟩
 rw [e]; exact h
theorem Lo.s {k : Fr -> Hp -> Prop} (ho : ops[l]? = some ⟨none, op, T, pos, af, none⟩) (h : opA C S op fr O fun fr x O => k fr O) : loudA C S ops l fr O k := by
 unfold loudA
 rw [ho]
 exact h
theorem Lo.gd {d g gd : Nat} {want b : Bool} {k : Fr -> Hp -> Prop} (ho : ops[l]? = some ⟨some d, op, T, pos, af, some (g, want)⟩) (hg : gslot ops g = some gd) (hb : Fr.get fr gd = .p (.v (.bool b))) (hlt : gd < C.nt) (hd : d < C.nt)
  (h1 : b = want -> opA C S op ((gd, .p (.v (.bool want))) :: fr) O fun fr x O => k ((d, x) :: fr) O) (h2 : b = !want -> k ((d, .p (.v undef)) :: (gd, .p (.v (.bool !want))) :: fr) O) : loudA C S ops l fr O k := by
 unfold loudA
 rw [ho]
 refine grd_split hg hb hlt (fun e => ?_) (fun e => ⟨hd, h2 e⟩)
 show opA C S op _ O (fun fr x O => dstA C.nt (some d) x fr fun fr => k fr O)
 have e' : (fun fr x O => dstA C.nt (some d) x fr fun fr => k fr O) = (fun (fr : Fr) x O => k ((d, x) :: fr) O) := by
  funext fr x O
  exact propext ⟨fun h => h.2, fun h => ⟨hd, h⟩⟩
 rw [e']; exact h1 e
theorem Lo.gy {d g gd : Nat} {want : Bool} {k : Fr -> Hp -> Prop} (ho : ops[l]? = some ⟨some d, op, T, pos, af, some (g, want)⟩) (hg : gslot ops g = some gd) (hb : Fr.get fr gd = .p (.v (.bool want))) (hlt : gd < C.nt) (hd : d < C.nt)
  (h1 : opA C S op ((gd, .p (.v (.bool want))) :: fr) O fun fr x O => k ((d, x) :: fr) O) : loudA C S ops l fr O k :=
 Lo.gd ho hg hb hlt hd (fun _ => h1) (fun e => by cases want <;> cases e)
theorem Lo.gn {d g gd : Nat} {want b : Bool} {k : Fr -> Hp -> Prop} (ho : ops[l]? = some ⟨some d, op, T, pos, af, some (g, want)⟩) (hg : gslot ops g = some gd) (hb : Fr.get fr gd = .p (.v (.bool b))) (he : b = !want) (hlt : gd < C.nt) (hd : d < C.nt)
  (h2 : k ((d, .p (.v undef)) :: (gd, .p (.v (.bool !want))) :: fr) O) : loudA C S ops l fr O k :=
 Lo.gd ho hg hb hlt hd (fun e => by subst he; cases want <;> cases e) (fun _ => h2)
def flP (P : BV -> Prop) : List (Nat × BV) -> Prop
 | [] => True
 | (_, v) :: r => P v /\ flP P r
theorem flP_cons {P : BV -> Prop} {i : Nat} {v : BV} {r : List (Nat × BV)} (h : P v) (h2 : flP P r) : flP P ((i, v) :: r) := ⟨h, h2⟩
theorem flP_nil {P : BV -> Prop} : flP P [] := trivial
theorem flP_spec {P : BV -> Prop} : ∀ {fl : List (Nat × BV)}, flP P fl -> ∀ i v, (i, v) ∈ fl -> P v
 | [], _, i, v, h => by cases h
 | (j, u) :: r, h, i, v, hm => by
  rcases List.mem_cons.1 hm with e | e
  ·cases e; exact h.1
  ·exact flP_spec h.2 i v e
theorem FG.id : FG fl (fun ff => ff) := ⟨fun v => v, fun _ _ => rfl, rfl, fun _ _ _ => rfl⟩
theorem FG.kill (t : Nat) (h : flP (fun v => v.kill t = v) fl) : FG fl (Fr.kill t) := ⟨BV.kill t, fun ff s => Fr.get_kill t ff s, rfl, flP_spec h⟩
theorem FG.frz (t : Nat) (ob : OB) (h : flP (fun v => v.frz t ob = v) fl) : FG fl (Fr.frz t ob) := ⟨BV.frz t ob, fun ff s => Fr.get_frz t ob ff s, rfl, flP_spec h⟩
theorem Fr.kill_append (t : Nat) (X Y : Fr) : Fr.kill t (X ++ Y) = Fr.kill t X ++ Fr.kill t Y := by
 induction X with
 | nil => rfl
 | cons p r ih => obtain ⟨d, x⟩ := p; show _ :: Fr.kill t (r ++ Y) = _ :: (Fr.kill t r ++ Fr.kill t Y); rw [ih]
theorem Fr.frz_append (t : Nat) (ob : OB) (X Y : Fr) : Fr.frz t ob (X ++ Y) = Fr.frz t ob X ++ Fr.frz t ob Y := by
 induction X with
 | nil => rfl
 | cons p r ih => obtain ⟨d, x⟩ := p; show _ :: Fr.frz t ob (r ++ Y) = _ :: (Fr.frz t ob r ++ Fr.frz t ob Y); rw [ih]
theorem az1d {X ff : Fr} {t : Nat} {ob : OB} {p : Nat × BV} : p :: Fr.frz t ob (X ++ ff) = (p :: Fr.frz t ob X) ++ Fr.frz t ob ff := by rw [Fr.frz_append]; rfl
theorem ap0 {X ff : Fr} : X ++ ff = X ++ ff := rfl
theorem ap0d {X ff : Fr} {p : Nat × BV} : p :: (X ++ ff) = (p :: X) ++ ff := rfl
theorem ap1d {X ff : Fr} {t : Nat} {p : Nat × BV} : p :: Fr.kill t (X ++ ff) = (p :: Fr.kill t X) ++ Fr.kill t ff := by rw [Fr.kill_append]; rfl
theorem A.mkv {f : FuncId} {y : Operand} {first caps : Array Operand} {t off : Nat} {k : OpK} (h0 : first.toList = [y]) (h1 : caps.toList = []) (hy : Fr.ev C fr y = .ptr t off) (h : k fr (.mv f t off) O) : opA C S (.makeFunc (.func f) first caps) fr O k :=
 (show mkfA C fr f first.toList caps.toList (fun r => k fr r O) from .inr ⟨y, t, off, h0, h1, hy, h⟩)
theorem A.callV {α : Type} {argE : α -> List BV} {hin : α -> Hp} {pre : α -> Prop} {Φ : α -> Prop} {res : α -> List BV} {hp : α -> Hp} {x : Operand} {args : Array Operand} {ats : Array TypeId} {f : FuncId} {k : OpK} {t off : Nat} {pins : List Nat} {fr' : Fr} {v : BV} {O' : Hp} (xs : List BV) (Oc : Hp) (σ : Nat -> Nat) (k0 : Nat) (hx : Fr.ev C fr x = .mv f t off) (hs : S f = some ⟨pins, mkE argE hin pre res hp⟩) (hk : fresh O = k0)
  (hargs : .ptr t off :: (lendKL C fr O ((doms Oc).map σ) args.toList ++ []) = xs.map (BV.ren σ)) (hsub : SubL σ Oc O) (hinj : nd ((doms Oc).map σ) = true) (hinn : InnL Oc Oc) (hinx : BV.innL Oc xs) (hpl : pinL k0 C.pins)
  (hcp : disjB (((doms Oc).filter fun t => t ∉ pins).map σ) C.pins = true) (a : α) (hle : leL xs (argE a)) (hin' : hpW Oc (hin a) (hin a)) (hpre : pre a) (hΦ : ∀ a, pre a -> Φ a) (hpk : pinK pins Oc (hp a)) (hsc : tagsKL C fr ((doms Oc).map σ) args.toList = [] ∨ ((resV (res a)).scal /\ (hp a).scal))
  (hfr : ((doms Oc).filter (fun t => t ∉ pins)).foldr (fun t fr => Fr.kill (σ t) fr) fr = fr') (hv : (resV (res a)).ren (τL pins σ k0) = v) (hO : Hp.ren (τL pins σ k0) (hp a) ++ Hp.killL ((doms Oc).map σ) O = O') (h : Φ a -> k fr' v O') :
  opA C S (.call ⟨.value x, args, ats⟩) fr O k := by
 refine .inl ?_
 show callA C S fr O (Fr.ev C fr x) args.toList k
 rw [hx]
 simp only [callA, hs]
 subst hk
 refine ⟨xs, Oc, σ, hargs, hsub.subH, nd_inj hinj, hinn.get, hinx, hpl, fun t ht hp => disjB_spec hcp (σ t) (List.mem_map.2 ⟨t, List.mem_filter.2 ⟨ht, by simpa using hp⟩, rfl⟩), ?_⟩
 refine ⟨a, hle, hin', hpre, pinK_spec hpk, hsc, ?_⟩
 rw [hfr, hv, hO]; exact h (hΦ a hpre)
end
end Go.Vc

namespace Go.Vc
open Go
section
variable {C : Ctx} {S : FuncId -> Option Sp} {fr : Fr} {O : Hp} {k : OpK} {T : TypeId}
theorem A.bldS {n b : Nat} {fs : List (Nat × TypeId)} {z : Nat -> Value} {ps : Array (Nat × Operand)} {fr' : Fr} {O1 : Hp} {F : Nat -> BV} {f : Nat -> PV} (hT : C.ty T = some ⟨.struct fs, n, b, some z⟩) (he : (fs.all fun p => (elt C p.2).isSome) = true) (hf : frzF C (ps.toList.map (·.2)) fr O = some (fr', O1)) (hl : layL (evs C fr' ps.toList))
  (hF : fillF n (placeS C fs) (zeroF z) (evs C fr' ps.toList) = some F) (hff : ∀ j, j < n -> F j = .p (f j)) (h : k fr' (.agg n f) O1) : opA C S (.build T ps) fr O k := by
 show Vc.bldA C fr O T ps.toList k
 simp only [Vc.bldA, hT]
 refine .inl (frzF_L hf ⟨hl, F, ?_, f, hff, h⟩)
 simp only [bldF]
 exact ⟨he, hF⟩
theorem A.bldG {n b : Nat} {fs : List (Nat × TypeId)} {z : Nat -> Value} {ps : Array (Nat × Operand)} {F G : Nat -> BV} (hT : C.ty T = some ⟨.struct fs, n, b, some z⟩) (he : (fs.all fun p => (elt C p.2).isSome) = true) (hl : layL (evs C fr ps.toList))
  (hF : fillF n (placeS C fs) (zeroF z) (evs C fr ps.toList) = some F) (hG : F = G) (h : k fr (.ag n G) O) : opA C S (.build T ps) fr O k := by
 subst hG
 show Vc.bldA C fr O T ps.toList k
 simp only [Vc.bldA, hT]
 refine .inr ⟨hl, F, ?_, h⟩
 simp only [bldF]
 exact ⟨he, hF⟩
theorem A.boxG {x : Operand} {n : Nat} {g : Nat -> BV} (k0 s : Nat) (l : List BV) (hx : Fr.ev C fr x = .ag n g) (hl : ∀ j, j < n -> (g j).one) (hlen : l.length = n) (hg : ∀ j, j < n -> l.getD j .dead = g j) (hk : fresh O = k0) (hp : pinL k0 C.pins)
  (h : k fr (.ptr k0 0) ((k0, ⟨T, s, n, true, .cells l⟩) :: O)) : opA C S (.box T x) fr O k := by
 subst hk
 show boxA C fr O T (Fr.ev C fr x) k
 rw [hx]
 exact ⟨hl, s, .cells l, hlen, fun j hj => hg j hj, pinL_not hp, h⟩
end
theorem R.norm {C : Ctx} {fr : Fr} {O : Hp} {Q : QA} {c : Code} (ks ts : List Nat) {fr0 : Fr} {O0 : Hp} (hpick : Fr.pick ks fr = fr0) (hpickH : Hp.pick ts O = O0) (hs : Go.Vc.subW fr O fr0 O0) (h : HT C c fr0 O0 Q) : HT C c fr O Q := HT.subW hs h
theorem ap0dg {X ff : Fr} {p q : Nat × BV} : p :: q :: (X ++ ff) = (p :: q :: X) ++ ff := rfl
theorem R.tell {C : Ctx} {fr : Fr} {O : Hp} {Q : QA} {c : Code} (front : Fr) (hfront : Hp) (ks ts : List Nat) {fr0 : Fr} {O0 : Hp} (hpick : Fr.pick ks fr = fr0) (hpickH : Hp.pick ts O = O0) (hs : Go.Vc.subW fr O (front ++ fr0) (hfront ++ O0)) (h : HT C c (front ++ fr0) (hfront ++ O0) Q) : HT C c fr O Q := HT.subW hs h
theorem HT.frzS {C : Ctx} {fr fr' : Fr} {O O' : Hp} {Q : QA} {c : Code} (t : Nat) {ob : OB} (ht : Hp.get O t = some ob) (hf : Fr.frz t ob fr = fr') (hO : Hp.kill t O = O') (h : HT C c fr' O' Q) : HT C c fr O Q := by
 subst hf; subst hO
 exact ⟨fun E β a w hst => h.run E β a w (hst.frz ht)⟩
def allP (P : Nat -> Prop) : Nat -> Prop
 | 0 => True
 | n + 1 => allP P n /\ P n
theorem allP_spec {P : Nat -> Prop} : ∀ {n : Nat}, allP P n -> ∀ j, j < n -> P j
 | 0, _, j, hj => by omega
 | n + 1, h, j, hj => by
  by_cases e : j = n
  ·subst e; exact h.2
  ·exact allP_spec h.1 j (by omega)
section
variable {C : Ctx} {S : FuncId -> Option Sp} {fr : Fr} {O : Hp} {k : OpK} {T T2 e : TypeId} {s1 s2 : Nat} {z : Option (Nat -> Value)}
end
def nilLe (tn n : Nat) (c c' : OC) : Prop := ∀ j, j < n -> c'.get j = c.get j ∨ (c.get j = .p (.v (.slice none 0 0)) /\ c'.get j = .own tn 0 0)
theorem HT.phanC {C : Ctx} {fr : Fr} {O O' : Hp} {Q : QA} {c : Code} (t tn T s : Nat) (oc : OC) {ob : OB} {c' : OC} (h1 : Hp.get O t = some ob) (h2 : Hp.get O tn = none) (h3 : disjB [tn] C.pins = true) (h4 : OB.wf ⟨T, s, 0, true, oc⟩) (h5 : OB.wf { ob with c := c' }) (h6 : nilLe tn ob.n ob.c c')
  (hO : (tn, ⟨T, s, 0, true, oc⟩) :: Hp.set O t { ob with c := c' } = O') (h : HT C c fr O' Q) : HT C c fr O Q := by
 subst hO
 refine ⟨fun E β a w hst => ?_⟩
 have hne : t ≠ tn := fun e => by rw [e, h2] at h1; cases h1
 have g := hst.core.phantom tn h2 (by rw [hst.ctx]; exact fun hx => disjB_spec h3 tn (by simp) hx) T s oc h4
 have hst' := hst.goes g (fun _ _ _ => trivial)
 refine h.run E (β.set tn ⟨0, 0, false⟩) a w ?_
 have hget : ∀ k o, Hp.get ((tn, ⟨T, s, 0, true, oc⟩) :: Hp.set O t { ob with c := c' }) k = some o -> (k = t /\ o = { ob with c := c' }) ∨ (k ≠ t /\ Hp.get ((tn, ⟨T, s, 0, true, oc⟩) :: O) k = some o) := by
  intro k o hk
  by_cases hkn : tn = k
  ·subst hkn
   refine .inr ⟨Ne.symm hne, ?_⟩
   simp only [Hp.get, if_true] at hk ⊢
   exact hk
  ·simp only [Hp.get, if_neg hkn] at hk ⊢
   by_cases hkt : k = t
   ·subst hkt
    rw [Hp.get_set_same _ h1] at hk
    exact .inl ⟨rfl, (Option.some.inj hk).symm⟩
   ·rw [Hp.get_set_other _ hkt] at hk
    exact .inr ⟨hkt, hk⟩
 have hget' : ∀ k o, Hp.get ((tn, ⟨T, s, 0, true, oc⟩) :: O) k = some o -> ∃ o', Hp.get ((tn, ⟨T, s, 0, true, oc⟩) :: Hp.set O t { ob with c := c' }) k = some o' /\ o'.s = o.s /\ o'.n = o.n /\ o'.whole = o.whole := by
  intro k o hk
  by_cases hkn : tn = k
  ·subst hkn
   simp only [Hp.get, if_true] at hk ⊢
   exact ⟨o, hk, rfl, rfl, rfl⟩
  ·simp only [Hp.get, if_neg hkn] at hk ⊢
   by_cases hkt : k = t
   ·subst hkt
    rw [h1] at hk; cases hk
    exact ⟨_, Hp.get_set_same _ h1, rfl, rfl, rfl⟩
   ·rw [Hp.get_set_other _ hkt]
    exact ⟨o, hk, rfl, rfl, rfl⟩
 have htO : Hp.get ((tn, ⟨T, s, 0, true, oc⟩) :: O) t = some ob := by simp only [Hp.get, if_neg (Ne.symm hne)]; exact h1
 have hUn : ∀ a, Un E.N (β.set tn ⟨0, 0, false⟩) ((tn, ⟨T, s, 0, true, oc⟩) :: Hp.set O t { ob with c := c' }) a -> Un E.N (β.set tn ⟨0, 0, false⟩) ((tn, ⟨T, s, 0, true, oc⟩) :: O) a := by
  rintro a (h7 | ⟨k, o, h7, h8⟩)
  ·exact .inl h7
  ·rcases hget k o h7 with ⟨rfl, rfl⟩ | ⟨_, h9⟩
   ·exact .inr ⟨k, ob, htO, h8⟩
   ·exact .inr ⟨k, o, h9, h8⟩
 have hstab : Stab (Un E.N (β.set tn ⟨0, 0, false⟩) ((tn, ⟨T, s, 0, true, oc⟩) :: O)) (Un E.N (β.set tn ⟨0, 0, false⟩) ((tn, ⟨T, s, 0, true, oc⟩) :: Hp.set O t { ob with c := c' })) w w := fun a y hU hy => ⟨fun h7 => hU (hUn a h7), hy⟩
 have htag : ∀ k, KeepsTag (β.set tn ⟨0, 0, false⟩) ((tn, ⟨T, s, 0, true, oc⟩) :: O) w (β.set tn ⟨0, 0, false⟩) ((tn, ⟨T, s, 0, true, oc⟩) :: Hp.set O t { ob with c := c' }) w k := fun k o hk => by
  obtain ⟨o', k1, k2, k3, _⟩ := hget' k o hk
  exact ⟨rfl, o', k1, k2, by omega, fun E sz hs => ⟨E, sz, hs, Nat.le_refl _⟩⟩
 have hm := hst'.core.mem
 refine ⟨hst'.ctx, hst'.good, ⟨hst'.core.ok, ⟨fun k o hk => ?_, fun k o hk => ?_, fun k o hk hre => ?_, fun k o hk hre => ?_, fun k o k' o' hk hk' hne a ha ha' => ?_, fun k o hk a ha => ?_⟩, hst'.core.keep, fun k o hk a ha => ?_, hst'.core.pins, hst'.core.rows⟩, hst'.defers, hst'.size, fun d => BV.Rep.tr hstab _ _ (fun k _ => htag k) (hst'.slot d), hst'.xs.stab hstab, hst'.tok⟩
 ·rcases hget k o hk with ⟨rfl, rfl⟩ | ⟨_, h9⟩
  ·exact h5
  ·exact hm.wf k o h9
 ·rcases hget k o hk with ⟨rfl, rfl⟩ | ⟨_, h9⟩
  ·exact hm.pos k ob htO
  ·exact hm.pos k o h9
 ·rcases hget k o hk with ⟨rfl, rfl⟩ | ⟨_, h9⟩
  ·exact hm.obj0 k ob htO hre
  ·exact hm.obj0 k o h9 hre
 ·rcases hget k o hk with ⟨rfl, rfl⟩ | ⟨_, h9⟩
  ·obtain ⟨cs, fr0, k1, k2, k3, k4, k5⟩ := hm.obj k ob htO hre
   refine ⟨cs, fr0, k1, k2, k3, k4, fun j hj => ?_⟩
   obtain ⟨u, hu, hr⟩ := k5 j hj
   refine ⟨u, hu, ?_⟩
   rcases h6 j hj with e | ⟨e1, e2⟩
   ·show (c'.get j).Rep _ _ _ _ _
    rw [e]; exact BV.Rep.tr hstab _ _ (fun k _ => htag k) hr
   ·show (c'.get j).Rep _ _ _ _ _
    rw [e2]
    rw [e1] at hr
    exact ⟨Nat.zero_le _, .inr ⟨rfl, none, hr⟩⟩
  ·obtain ⟨cs, fr0, k1, k2, k3, k4, k5⟩ := hm.obj k o h9 hre
   exact ⟨cs, fr0, k1, k2, k3, k4, fun j hj => let ⟨u, hu, hr⟩ := k5 j hj; ⟨u, hu, BV.Rep.tr hstab _ _ (fun k _ => htag k) hr⟩⟩
 ·have conv : ∀ k o, Hp.get ((tn, ⟨T, s, 0, true, oc⟩) :: Hp.set O t { ob with c := c' }) k = some o -> ∀ a, o.cov ((β.set tn ⟨0, 0, false⟩) k) a -> ∃ o1, Hp.get ((tn, ⟨T, s, 0, true, oc⟩) :: O) k = some o1 /\ o1.cov ((β.set tn ⟨0, 0, false⟩) k) a := by
   intro k o hk a ha
   rcases hget k o hk with ⟨rfl, rfl⟩ | ⟨_, h9⟩
   ·exact ⟨ob, htO, ha⟩
   ·exact ⟨o, h9, ha⟩
  obtain ⟨o1, e1, e2⟩ := conv k o hk a ha
  obtain ⟨o2, e3, e4⟩ := conv k' o' hk' a ha'
  exact hm.disj k o1 k' o2 e1 e3 hne a e2 e4
 ·rcases hget k o hk with ⟨rfl, rfl⟩ | ⟨_, h9⟩
  ·exact hm.notN k ob htO a ha
  ·exact hm.notN k o h9 a ha
 ·rcases hget k o hk with ⟨rfl, rfl⟩ | ⟨_, h9⟩
  ·exact hst'.core.dom k ob htO a ha
  ·exact hst'.core.dom k o h9 a ha
theorem OpOK.frz {C : Ctx} {o : Oper} {fr : Fr} {O : Hp} {k : OpK} (h : OpOK C o fr O (fun fr' x O' => ∃ t off n ob, x = .own t off n /\ Hp.get O' t = some ob /\ k (Fr.frz t ob fr') (ob.pv off n) (Hp.kill t O'))) : OpOK C o fr O k := by
 intro E β a w hst K Q hK
 refine h E β a w hst K Q ?_
 rintro fr' x O' β' w' u ⟨t, off, n, ob, rfl, ht, hk⟩ hst' hx hw
 have hm := hst'.core.mem
 refine hK _ _ _ β' w' u hk (hst'.frz ht) (hm.frozen ht hx (fun b hb => ?_) (.inl fun b hb => ?_)) hw
 ·rintro (h1 | ⟨j, oj, h1, h2⟩)
  ·exact hm.notN t ob ht b hb h1
  ·obtain ⟨hne, ob0, h3, rfl⟩ := Hp.get_kill_some h1
   exact hm.disj t ob j ob0 ht h3 (Ne.symm hne) b hb h2
 ·rcases hb with h1 | ⟨j, oj, h1, h2⟩
  ·exact .inl h1
  ·obtain ⟨hne, ob0, h3, rfl⟩ := Hp.get_kill_some h1
   exact .inr ⟨j, ob0, h3, h2⟩
theorem A.thenFrz {C : Ctx} {S : FuncId -> Option Sp} (hS : ∀ f s, S f = some s -> FOK C.P C.gl f s) {fr : Fr} {O : Hp} {k : OpK} {x : Operand} {args : Array Operand} {ats : Array TypeId}
  (h : callA C S fr O (Fr.ev C fr x) args.toList (fun fr' y O' => ∃ t off n ob, y = .own t off n /\ Hp.get O' t = some ob /\ k (Fr.frz t ob fr') (ob.pv off n) (Hp.kill t O'))) : opA C S (.call ⟨.value x, args, ats⟩) fr O k :=
 .inr (.inl fun o ho => OpOK.frz (callA_ok hS ho h))
theorem A.call0F {C : Ctx} {S : FuncId -> Option Sp} (hS : ∀ f s, S f = some s -> FOK C.P C.gl f s) {fr : Fr} {O : Hp} {k : OpK} {α : Type} {argE : α -> List BV} {hin : α -> Hp} {pre : α -> Prop} {Φ : α -> Prop} {res : α -> List BV} {hp : α -> Hp} {x : Operand} {args : Array Operand} {ats : Array TypeId} {f : FuncId}
  {O' O'' : Hp} {fr' : Fr} {t off n : Nat} {ob : OB} {y : BV} (xs : List BV) (k0 : Nat) (hx : Fr.ev C fr x = .clo f []) (hs : S f = some ⟨[], mkE argE hin pre res hp⟩) (hk : fresh O = k0) (hargs : lendL C fr O args.toList = xs) (hb : bareL xs) (hpl : pinL k0 C.pins)
  (a : α) (hle : leL xs (argE a)) (hin' : hpW [] (hin a) (hin a)) (hpre : pre a) (hΦ : ∀ a, pre a -> Φ a) (hsc : tagsL C fr args.toList = [] ∨ ((resV (res a)).scal /\ (hp a).scal)) (hv : (resV (res a)).ren (· + k0) = .own t off n) (hO : Hp.ren (· + k0) (hp a) ++ O = O')
  (ht : Hp.get O' t = some ob) (hf : Fr.frz t ob fr = fr') (hy : ob.pv off n = y) (hO2 : Hp.kill t O' = O'') (h : Φ a -> k fr' y O'') : opA C S (.call ⟨.value x, args, ats⟩) fr O k :=
 A.thenFrz hS (K.call0 xs k0 hx hs hk hargs hb hpl a hle hin' hpre hΦ hsc hv hO fun hh => ⟨t, off, n, ob, rfl, ht, by rw [hf, hy, hO2]; exact h hh⟩)
end Go.Vc

namespace Go.Vc
open Go
theorem lk {n m : Nat} (h : Nat.ble n m = true) : n <= m := Nat.le_of_ble_eq_true h
section
variable {C : Ctx} {S : FuncId -> Option Sp} {ops : List Oper} {K : Fr -> Hp -> Prop} {fr : Fr} {O : Hp} {op : Op} {T : TypeId} {pos : String} {af : Array Edge} {r : List Oper}
theorem So.q {d : Tmp} (hd : Nat.ble (d + 1) C.nt = true) (hn : noCall op = true) (h : valA C S op fr O fun x => opsA C S ops r ((d, x) :: fr) O K) : opsA C S ops (⟨some d, op, T, pos, af, none⟩ :: r) fr O K := So.n (lk hd) (A.v hn h)
end
theorem ob_rowsL {E s n : Nat} {w : Bool} {f g : Nat -> PV} (h : ∀ j, j < n -> (BV.p (f j)).le (.p (g j))) : (⟨E, s, n, w, .rows f⟩ : OB).le ⟨E, s, n, w, .rows g⟩ := ⟨rfl, rfl, rfl, rfl, trivial, h⟩
def HTr (C : Ctx) (c : Code) (Q : QA) : Nat -> Fr -> Hp -> Prop
 | 0, _, _ => False
 | m + 1, fr, O => HT C c fr O (thenQ (HTr C c Q m) Q)
theorem HTr_run {C : Ctx} {c : Code} {Q : QA} {E : Env} : ∀ (m : Nat) (fr : Fr) (O : Hp) (E1 : Env) (β : Loc) (a : Act) (w : World), HTr C c Q m fr O -> Ev E E1 -> St C E1 β fr O a w ->
  Code.roundsIn (rnd C) 0 C.P c (fun e a' w' => ∃ fr' O' β' E', Ev E E' /\ Q e fr' O' /\ St C E' β' fr' O' a' w') m a w
 | 0, _, _, _, _, _, _, h, _, _ => h.elim
 | m + 1, fr, O, E1, β, a, w, h, hE, hst => by
  rw [roundsIn_succ]
  have h' : HT C c fr O (thenQ (HTr C c Q m) Q) := h
  refine wpIn_mono (h'.run E1 β a w hst) fun e a' w' hq => ?_
  obtain ⟨fr', O', β', E', hE', hq, hst'⟩ := hq
  cases e with
  | normal => exact HTr_run m fr' O' E' β' a' w' hq (hE.trans hE') hst'
  | _ => exact ⟨fr', O', β', E', hE.trans hE', hq, hst'⟩
theorem HT.rounds {C : Ctx} {c : Code} {Q : QA} {fr : Fr} {O : Hp} (m : Nat) (h : HTr C c Q m fr O) : HT C (.loop c) fr O Q :=
 ⟨fun E β a w hst => wpIn_loop_rounds m (HTr_run m fr O E β a w h (Ev.refl E) hst)⟩
section
variable {C : Ctx} {S : FuncId -> Option Sp} {fr : Fr} {O : Hp} {kk : BV -> Prop} {T : TypeId} {x y : Operand}
end
section
variable {C : Ctx} {S : FuncId -> Option Sp} {fr : Fr} {O : Hp} {k : OpK} {T : TypeId} {p x : Operand}
end
end Go.Vc
namespace Go.Vc
open Go
section
variable {C : Ctx} {S : FuncId -> Option Sp} {ops : List Oper} {K : Fr -> Hp -> Prop} {fr : Fr} {O : Hp} {op : Op} {T : TypeId} {pos : String} {af : Array Edge} {r : List Oper}
theorem Sq {d : Tmp} (h : valA C S op fr O fun x => opsA C S ops r ((d, x) :: fr) O K) (hd : Nat.ble (d + 1) C.nt = true := by rfl) (hn : noCall op = true := by rfl) : opsA C S ops (⟨some d, op, T, pos, af, none⟩ :: r) fr O K := So.q hd hn h
end
section
variable {P : Program} {gl : Nat -> Option (Nat × (Nat -> GV))} {S : FuncId -> Option Sp} {a : FuncId} {s0 : Sp}
theorem sN : ∀ (f : FuncId) (s : Sp), (none : Option Sp) = some s -> FOK P gl f s := fun _ _ h => by cases h
theorem sI (h : FOK P gl a s0) (hS : ∀ f s, S f = some s -> FOK P gl f s) : ∀ f s, (if f = a then some s0 else S f) = some s -> FOK P gl f s := fun f s e => by
 by_cases q : f = a
 ·rw [if_pos q] at e; cases e; subst q; exact h
 ·rw [if_neg q] at e; exact hS f s e
theorem dN : ∀ (f : FuncId) (s : Sp), (none : Option Sp) = some s -> SpDet s.sp := fun _ _ h => by cases h
theorem dI {pn : List Nat} {α : Type} {x1 : α -> List BV} {x2 : α -> Hp} {x3 : α -> Prop} {x4 : α -> List BV} {x5 : α -> Hp} (hS : ∀ f s, S f = some s -> SpDet s.sp) : ∀ f s, (if f = a then some ⟨pn, mkE x1 x2 x3 x4 x5⟩ else S f) = some s -> SpDet s.sp := fun f s e => by
 by_cases q : f = a
 ·rw [if_pos q] at e; cases e; exact mkE_det _ _ _ _ _
 ·rw [if_neg q] at e; exact hS f s e
end
section
variable {kk : List BV -> Hp -> Prop} {fr : Fr} {O : Hp} {s1 s2 s3 s4 : Tmp} {x1 x2 x3 x4 : BV}
theorem rt1 (h : kk [x1] []) (h1 : (Fr.get fr s1).le x1) (hn : nd [s1] = true := by rfl) (b1 : x1.inn [] := by exact True.intro) (c1 : x1.ren (sg []) = x1 := by rfl) : ∃ fr' O', subW fr O fr' O' /\ retU [] [s1] kk fr' O' :=
 ret_ok (sg []) h rfl hn rfl trivial ⟨b1, trivial⟩ rfl ⟨⟨⟨by rw [c1]; exact h1, by rw [c1]; exact b1⟩, trivial⟩, trivial⟩
theorem rt3 (h : kk [x1, x2, x3] []) (h1 : (Fr.get fr s1).le x1) (h2 : (Fr.get fr s2).le x2) (h3 : (Fr.get fr s3).le x3) (hn : nd [s1, s2, s3] = true := by rfl) (b1 : x1.inn [] := by exact True.intro) (c1 : x1.ren (sg []) = x1 := by rfl) (b2 : x2.inn [] := by exact True.intro) (c2 : x2.ren (sg []) = x2 := by rfl) (b3 : x3.inn [] := by exact True.intro) (c3 : x3.ren (sg []) = x3 := by rfl) : ∃ fr' O', subW fr O fr' O' /\ retU [] [s1, s2, s3] kk fr' O' :=
 ret_ok (sg []) h rfl hn rfl trivial ⟨b1, b2, b3, trivial⟩ rfl ⟨⟨⟨by rw [c1]; exact h1, by rw [c1]; exact b1⟩, ⟨by rw [c2]; exact h2, by rw [c2]; exact b2⟩, ⟨by rw [c3]; exact h3, by rw [c3]; exact b3⟩, trivial⟩, trivial⟩
end
section
variable {C : Ctx} {S : FuncId -> Option Sp} {fr : Fr} {O : Hp} {ops : List Oper} {K : Fr -> Hp -> Prop} {op : Op} {T : TypeId} {pos : String} {af : Array Edge} {i : Nat} {is : List Nat} {kk : BV -> Prop} {x : Operand}
theorem Sj {d : Tmp} (ho : ops[i]? = some ⟨some d, op, T, pos, af, none⟩) (h : valA C S op fr O fun x => drawI C S ops is ((d, x) :: fr) O K) (hd : Nat.ble (d + 1) C.nt = true := by rfl) : drawI C S ops (i :: is) fr O K := Si.n ho (lk hd) h
theorem V.fa {fs : List (Nat × TypeId)} {z : Option (Nat -> Value)} {s1 s2 i foff : Nat} {ft : TypeId} {te : Ty} {t off : Nat} {ob : OB} (hT : C.ty T = some ⟨.struct fs, s1, s2, z⟩) (hi : fs[i]? = some (foff, ft)) (he : C.ty ft = some te) (hx : Fr.ev C fr x = .ptr t off) (hO : Hp.get O t = some ob) (h : kk (.ptr t (off + foff))) (h1 : Nat.ble 1 te.size = true := by rfl) (hm : Nat.ble (off + foff) ob.n = true := by rfl) : valA C S (.fieldAddr T x i) fr O kk := V.faPtr hT hi he (lk h1) hx hO (lk hm) h
theorem V.mi {m : Int} (hx : Fr.ev C fr x = .p (.v (.int .i64 m))) (h : kk (.p (.v (.int .i64 m)))) : valA C S (.move x) fr O kk := V.mv hx h
theorem V.ai {m : Int} (hx : Fr.ev C fr x = .p (.v (.int .i64 m))) (h : kk (.p (.v (.int .i64 m)))) : valA C S (.assign x) fr O kk := V.as hx h
theorem V.ei {n i : Nat} {f : Nat -> BV} {m : Int} (hx : Fr.ev C fr x = .tup n f) (hv : f i = .p (.v (.int .i64 m))) (h : kk (.p (.v (.int .i64 m)))) (hi : Nat.ble (i + 1) n = true := by rfl) : valA C S (.extract x i) fr O kk := V.ext hx (lk hi) hv h
theorem V.ld {ty : Ty} {t off : Nat} {ob : OB} {v : BV} (hT : C.ty T = some ty) (hd : ty.d.agg = false) (hx : Fr.ev C fr x = .ptr t off) (hO : Hp.get O t = some ob) (hv : ob.c.get off = v) (h : kk v) (hm : Nat.ble (off + 1) ob.n = true := by rfl) : valA C S (.load T x) fr O kk := V.ldPtr hT hd hx hO (lk hm) hv h
end
theorem R.cd {C : Ctx} {fr : Fr} {O : Hp} {Q : QA} {x y : Code} {c : Operand} {p : Prop} [Decidable p] {t : Nat} (hc : c = .tmp t) (hb : Fr.get fr t = .p (.v (.bool (decide p)))) (h1 : p -> HT C x ((t, .p (.v (.bool true))) :: fr) O Q) (h2 : ¬ p -> HT C y ((t, .p (.v (.bool false))) :: fr) O Q) : HT C (.cond c x y) fr O Q :=
 R.cond hc hb (fun h => h1 (of_decide_eq_true h)) (fun h => h2 (of_decide_eq_false h))
theorem tT {α : Type} {pre : α -> Prop} : ∀ a, pre a -> (fun _ : α => True) a := fun _ _ => trivial
end Go.Vc

namespace Go.Vc
open Go
inductive PT where
 | leaf (act : List Nat)
 | stage (act : List Nat) (brs : PT)
 | br (l : Nat) (keep : List Nat) (t : PT) (rest : PT)
 | no
def PT.heads : PT -> List Nat
 | .br l _ _ rest => l :: rest.heads
 | _ => []
def PT.isSt : PT -> Bool
 | .leaf _ => true
 | .stage _ _ => true
 | _ => false
def planT (C : Ctx) (S : FuncId -> Option Sp) (ops : List Oper) : PT -> List (Nat × BV) -> Fr -> Hp -> (Fr -> Hp -> Prop) -> Prop
 | .leaf act, fl, b, O, K => drawI C S ops act b O fun F O => flEq ops F fl /\ K F O
 | .stage act brs, fl, b, O, K => drawI C S ops act b O fun F O => flEq ops F fl /\ planT C S ops brs [] F O K
 | .br l keep t rest, _, F, O, K => (match keep with
   | [] => loudA C S ops l F O fun fr O => planT C S ops t [] fr O K
   | k :: ks => ∀ ff : Fr, loudA C S ops l (Fr.rm ((k :: ks).map (slotI ops)) F ++ ff) O fun fr O =>
     ∃ (b' : Fr) (G : Fr -> Fr), fr = b' ++ G ff /\ nokey ((k :: ks).map (slotI ops)) b' = true /\ FG (flV ops (k :: ks) F) G /\ planT C S ops t (flV ops (k :: ks) F) b' O K) /\ planT C S ops rest [] F O K
 | .no, _, _, _, _ => True
def okT (ops : List Oper) (A : List (List Nat)) : PT -> List Nat -> List Nat -> Bool
 | .leaf act, before, fl => okAct ops A before fl act && (List.range ops.length).all fun i => before.contains i || act.contains i
 | .stage act brs, before, fl => okAct ops A before fl act && (decide (0 < brs.heads.length) && 
   (List.range ops.length).all (fun i => before.contains i || act.contains i || brs.heads.contains i || match ops[i]? with
    | none => true
    | some o => o.after.any fun e => Region.binds .any e && !before.contains e.on && !act.contains e.on) && okT ops A brs before act)
 | .br l keep t rest, before, act => (decide (l < ops.length) && !before.contains l && !act.contains l && keep.all (fun i => act.contains i) &&
   keep.all (fun i => (dstOf ops i).isSome && (dstOf ops l != dstOf ops i) && act.all fun j => j == i || (dstOf ops j != dstOf ops i)) &&
   act.all (fun i => keep.contains i || (A.getD l []).contains i) && t.isSt && okT ops A t (l :: act.filter (fun i => !keep.contains i) ++ before) keep) && okT ops A rest before act
 | .no, _, _ => true
def okPlanT (ops : List Oper) (t : PT) : Bool :=
 let A := ancs ops
 ancOK ops A && (List.range ops.length).all (fun i => match ops[i]? with
  | none => true
  | some o => o.after.all fun e => !Region.binds .any e || decide (e.on < i)) && (t.isSt && okT ops A t [] [])
section
variable {C : Ctx} {S : FuncId -> Option Sp} {ops : List Oper}
variable {A : List (List Nat)}
theorem okT_heads : ∀ {t : PT} {before act : List Nat}, okT ops A t before act = true -> ∀ l, l ∈ t.heads -> l < ops.length /\ l ∉ before /\ l ∉ act
 | .leaf _, _, _, _, _, h => by cases h
 | .stage _ _, _, _, _, _, h => by cases h
 | .no, _, _, _, _, h => by cases h
 | .br l keep t rest, before, act, hok, k, h => by
  rw [okT, Bool.and_eq_true] at hok
  rcases List.mem_cons.1 h with e | h
  ·subst e
   have h1 := hok.1
   simp only [Bool.and_eq_true, List.contains_eq_mem, decide_eq_true_eq, Bool.not_eq_true', decide_eq_false_iff_not] at h1
   exact ⟨h1.1.1.1.1.1.1.1, h1.1.1.1.1.1.1.2, h1.1.1.1.1.1.2⟩
  ·exact okT_heads hok.2 k h
theorem planT_any (hS : ∀ f s, S f = some s -> FOK C.P C.gl f s) (hD : ∀ f s, S f = some s -> SpDet s.sp) (hnd : nodefB ops = true) (hanc : ∀ i o j, ops[i]? = some o -> j ∈ A.getD i [] -> ∃ e ∈ o.after, Region.binds .any e = true /\ e.on < i /\ (e.on = j ∨ j ∈ A.getD e.on []))
  (hback : ∀ i o, ops[i]? = some o -> ∀ e ∈ o.after, Region.binds .any e = true -> e.on < i) {Q : Exit -> Act -> World -> Prop} {E0 : Env} {K : Fr -> Hp -> Prop} (hQ : ∀ E fr O β a w, Ev E0 E -> K fr O -> St C E β fr O a w -> Q .normal a w) :
  ∀ (t : PT), (t.isSt = true -> ∀ (before : List Nat) (fl : List (Nat × BV)) (b : Fr) (O : Hp), okT ops A t before (fl.map (·.1)) = true -> planT C S ops t fl b O K ->
   ∀ (fuel : Nat) (listed : Array Bool) (a : Act) (w : World) (β : Loc) (E : Env) (fr : Fr), Ev E0 E -> listed.size = ops.length -> ClosedL ops listed -> (List.range ops.length).countP (fun i => !listed.getD i true) <= fuel ->
    (∀ i, i ∈ before -> listed.getD i false = true) -> (∀ i, i < ops.length -> i ∉ before -> i ∉ fl.map (·.1) -> listed.getD i false = false) -> St C E β fr O a w ->
    (∃ W : Nat -> BV, (∀ i v, (i, v) ∈ fl -> W i = v) /\ toldL ops W (fl.map (·.1)) b listed fr) -> wpAnyIn (rnd C) 0 C.P .any ops.toArray Q fuel listed a w) /\
   (∀ (before act : List Nat) (b F : Fr) (O : Hp) (V : Nat -> BV), okT ops A t before act = true -> planT C S ops t [] F O K -> (∀ s, Fr.get F s = lastV V ops (fun j => decide (j ∈ act)) s (Fr.get b s) ops.length) ->
    ∀ (fuel : Nat) (listed : Array Bool) (a : Act) (w : World) (β : Loc) (E : Env) (fr : Fr) (i : Nat), Inv C ops E0 V before act b O (fuel + 1) listed a w β E fr -> i ∈ Region.ready .any ops.toArray listed -> i ∉ act -> i ∈ t.heads ->
     wpOpIn (rnd C) 0 C.P ops.toArray Q i (wpAnyIn (rnd C) 0 C.P .any ops.toArray Q fuel (listed.setIfInBounds i true)) a w) := by
 have start : ∀ (before : List Nat) (fl : List (Nat × BV)) (act : List Nat) (b : Fr) (O : Hp) (KK : Fr -> Hp -> Prop), ActOK ops A before (fl.map (·.1)) act -> drawI C S ops act b O (fun F O => flEq ops F fl /\ KK F O) ->
   ∃ (V : Nat -> BV) (F : Fr), KK F O /\ (∀ i v, (i, v) ∈ fl -> V i = v) /\ (∀ s, Fr.get F s = lastV V ops (fun j => decide (j ∈ act)) s (Fr.get b s) ops.length) /\
    (∀ i, i ∈ act -> ∃ o, ops[i]? = some o /\ ∃ d, o.dst = some d /\ d < C.nt /\ StepF C ops o O (fun s => lastV V ops (fun j => decide (j ∈ act /\ j < i)) s (Fr.get b s) ops.length) (V i)) /\
    ∀ (fuel : Nat) (listed : Array Bool) (a : Act) (w : World) (β : Loc) (E : Env) (fr : Fr), Ev E0 E -> listed.size = ops.length -> ClosedL ops listed -> (List.range ops.length).countP (fun i => !listed.getD i true) <= fuel ->
     (∀ i, i ∈ before -> listed.getD i false = true) -> (∀ i, i < ops.length -> i ∉ before -> i ∉ fl.map (·.1) -> listed.getD i false = false) -> St C E β fr O a w ->
     (∃ W : Nat -> BV, (∀ i v, (i, v) ∈ fl -> W i = v) /\ toldL ops W (fl.map (·.1)) b listed fr) -> Inv C ops E0 V before act b O fuel listed a w β E fr := by
  intro before fl act b O KK hok h
  obtain ⟨V, _, ⟨F, ⟨hfl, hKK⟩, hF⟩, hstep⟩ := drawI_plan hS hD (base := Fr.get b) act [] b (fun _ => .dead) hok.sorted (fun i hi => by cases hi) (fun s => (lastV_none fun j _ _ => by simp).symm) h
  simp only [List.nil_append] at hF hstep
  have hV : ∀ i v, (i, v) ∈ fl -> V i = v := by
   intro i v hm
   have him : i ∈ fl.map (·.1) := List.mem_map.2 ⟨_, hm, rfl⟩
   have hia := hok.sub i him
   obtain ⟨o, ho, d, hd, _⟩ := hstep i hia
   have hdi : dstOf ops i = some d := by simp [dstOf, ho, hd]
   have h1 := flEq_spec hfl i v hm
   rw [show slotI ops i = d by simp [slotI, hdi], hF d, lastV_one hdi (by simp [hia]) (fun j hj hp hdj => hok.one i him j (by simpa using hp) hj (by rw [hdj, hdi])) (dstOf_lt hdi)] at h1
   exact h1
  refine ⟨V, F, hKK, hV, hF, hstep, ?_⟩
  rintro fuel listed a w β E fr hE hsz hcl hcnt hbef haft hst ⟨W, hW, htold⟩
  refine ⟨hE, hsz, hcl, hcnt, hbef, fun i hi h1 h2 => haft i hi h1 fun hm => h2 (hok.sub i hm), hst, fun s => ?_⟩
  rw [htold s]
  refine lastV_congr2 fun j hj _ => ⟨?_, fun hp => ?_⟩
  ·by_cases hjf : j ∈ fl.map (·.1)
   ·simp only [decide_eq_true hjf, decide_eq_true (hok.sub j hjf)]
   ·by_cases hja : j ∈ act
    ·have := haft j hj (hok.disj j hja) hjf
     simp only [decide_eq_false hjf, decide_eq_true hja, this, Bool.and_false]
    ·simp only [decide_eq_false hjf, decide_eq_false hja, Bool.false_and]
  ·simp only [Bool.and_eq_true, decide_eq_true_eq] at hp
   obtain ⟨⟨j', v⟩, hm, hjj⟩ := List.mem_map.1 hp.1
   simp only at hjj
   subst hjj
   rw [hW _ _ hm, hV _ _ hm]
 intro t
 induction t with
 | leaf act =>
  refine ⟨fun _ => ?_, fun before act b F O V _ _ _ fuel listed a w β E fr i _ _ _ h => by cases h⟩
  intro before fl b O hok h
  simp only [okT, Bool.and_eq_true, List.all_eq_true, Bool.or_eq_true, List.contains_eq_mem, decide_eq_true_eq] at hok
  have hA := okAct_spec hok.1
  obtain ⟨V, F, hKK, hV, hF, hstep, hinv⟩ := start before fl act b O K hA h
  intro fuel listed a w β E fr hE hsz hcl hcnt hbef haft hst htold
  refine stage_any hnd hanc hback hA hstep ?_ ?_ fuel listed a w β E fr (hinv fuel listed a w β E fr hE hsz hcl hcnt hbef haft hst htold)
  ·intro listed a w β E fr hI hall
   refine hQ E F O β a w hI.ev hKK (hI.st.same_get fun s => ?_)
   rw [hF s, hI.told s]
   exact lastV_congr fun j hj _ => by rw [hall j hj]; simp
  ·intro fuel listed a w β E fr i hI hi hia
   obtain ⟨hun, o, ho, _⟩ := mem_ready.1 hi
   have hlt : i < ops.length := by
    have := (Array.getElem?_eq_some_iff.1 ho).1
    simpa using this
   exfalso
   rcases hok.2 i (List.mem_range.2 hlt) with h1 | h1
   ·have := hI.bef i h1
    rw [(listed_iff hI.size hlt).1 hun] at this; cases this
   ·exact hia h1
 | stage act brs ihb =>
  refine ⟨fun _ => ?_, fun before act b F O V _ _ _ fuel listed a w β E fr i _ _ _ h => by cases h⟩
  intro before fl b O hok h
  rw [okT, Bool.and_eq_true, Bool.and_eq_true, Bool.and_eq_true] at hok
  obtain ⟨hok0, ⟨hne, hlater⟩, hbr⟩ := hok
  simp only [List.all_eq_true, Bool.or_eq_true, List.contains_eq_mem, decide_eq_true_eq] at hlater
  have hA := okAct_spec hok0
  obtain ⟨V, F, hKK, hV, hF, hstep, hinv⟩ := start before fl act b O _ hA h
  intro fuel listed a w β E fr hE hsz hcl hcnt hbef haft hst htold
  refine stage_any hnd hanc hback hA hstep ?_ ?_ fuel listed a w β E fr (hinv fuel listed a w β E fr hE hsz hcl hcnt hbef haft hst htold)
  ·intro listed a w β E fr hI hall
   obtain ⟨l, hl⟩ := List.exists_mem_of_length_pos (of_decide_eq_true hne)
   obtain ⟨h1, h2, h3⟩ := okT_heads hbr l hl
   have := hI.aft l h1 h2 h3
   rw [hall l h1] at this; cases this
  intro fuel listed a w β E fr i hI hi hia
  refine ihb.2 before act b F O V hbr hKK hF fuel listed a w β E fr i hI hi hia ?_
  obtain ⟨hun, o, ho, hdeps⟩ := mem_ready.1 hi
  have hlt : i < ops.length := by
   have := (Array.getElem?_eq_some_iff.1 ho).1
   simpa using this
  have hio : ops[i]? = some o := by simpa using ho
  have hunf : listed.getD i false = false := (listed_iff hI.size hlt).1 hun
  have hib : i ∉ before := fun hb => by rw [hI.bef i hb] at hunf; cases hunf
  rcases hlater i (List.mem_range.2 hlt) with ((h1 | h1) | h1) | h1
  ·exact absurd h1 hib
  ·exact absurd h1 hia
  ·exact h1
  ·exfalso
   rw [hio] at h1
   simp only at h1
   obtain ⟨e, he, h2⟩ := Array.any_eq_true'.1 h1
   simp only [Bool.and_eq_true, Bool.not_eq_true', decide_eq_false_iff_not] at h2
   have := hI.aft e.on (Nat.lt_trans (hback i o hio e he h2.1.1) hlt) h2.1.2 h2.2
   rw [hdeps e he h2.1.1] at this; cases this
 | no => exact ⟨fun h => (by cases h), fun before act b F O V _ _ _ fuel listed a w β E fr i _ _ _ h => by cases h⟩
 | br l keep t rest iht ihrest =>
  refine ⟨fun h => (by cases h), ?_⟩
  intro before act b F O V hok h hF fuel listed a w β E fr i hI hi hia him
  rw [okT, Bool.and_eq_true] at hok
  obtain ⟨hok, hokR⟩ := hok
  obtain ⟨hKK, hKR⟩ := (h : _ /\ planT C S ops rest [] F O K)
  by_cases hil : i = l
  case neg => exact ihrest.2 before act b F O V hokR hKR hF fuel listed a w β E fr i hI hi hia ((List.mem_cons.1 him).resolve_left hil)
  simp only [Bool.and_eq_true, List.all_eq_true, Bool.or_eq_true, List.contains_eq_mem, decide_eq_true_eq, Bool.not_eq_true', decide_eq_false_iff_not, beq_iff_eq, bne_iff_ne, ne_eq] at hok
  obtain ⟨⟨⟨⟨⟨⟨⟨hll, hlb⟩, hla⟩, hks⟩, hkd⟩, hmust⟩, hst⟩, hrest⟩ := hok
  have ihr := iht.1 hst
  obtain ⟨hun, o, ho, hdeps⟩ := mem_ready.1 hi
  have hlt : i < ops.length := by
   have := (Array.getElem?_eq_some_iff.1 ho).1
   simpa using this
  have hio : ops[i]? = some o := by simpa using ho
  have hunf : listed.getD i false = false := (listed_iff hI.size hlt).1 hun
  have hib : i ∉ before := fun hb => by rw [hI.bef i hb] at hunf; cases hunf
  have hil2 := hil.symm
  subst hil2
  have hanc' := anc_listed hanc hI.closed
  have hmustL : ∀ j, j ∈ act -> j ∉ keep -> listed.getD j false = true := fun j hj hk =>
   hanc' l o hio (.inr hdeps) j ((hmust j hj).resolve_left hk)
  obtain ⟨k1, k2, k3, k4, k5⟩ := listed_set hI.size hI.closed hlt hun hio hdeps hI.cnt
  have hbef' : ∀ j, j ∈ (l :: act.filter (fun i => !keep.contains i) ++ before) -> (listed.setIfInBounds l true).getD j false = true := by
   intro j hj
   by_cases hjl : j = l
   ·rw [hjl]; exact k5
   rw [k4 j hjl]
   rcases List.mem_append.1 hj with hj | hj
   ·rcases List.mem_cons.1 hj with e | hj
    ·exact absurd e hjl
    ·obtain ⟨h1, h2⟩ := List.mem_filter.1 hj
     exact hmustL j h1 (by simpa using h2)
   ·exact hI.bef j hj
  have haft' : ∀ (fl' : List (Nat × BV)), fl'.map (·.1) = keep -> ∀ j, j < ops.length -> j ∉ (l :: act.filter (fun i => !keep.contains i) ++ before) -> j ∉ fl'.map (·.1) -> (listed.setIfInBounds l true).getD j false = false := by
   intro fl' hfl' j hj h1 h2
   rw [hfl'] at h2
   simp only [List.cons_append, List.mem_cons, List.mem_append, List.mem_filter, not_or] at h1
   rw [k4 j h1.1]
   refine hI.aft j hj h1.2.2 fun hja => h1.2.1 ⟨hja, by simpa using h2⟩
  cases hkeep : keep with
  | nil =>
   rw [hkeep] at hKK
   simp only at hKK
   have hallA : ∀ j, j ∈ act -> listed.getD j false = true := fun j hj => hmustL j hj (by rw [hkeep]; simp)
   have hstF : St C E β F O a w := hI.st.same_get fun s => by
    rw [hF s, hI.told s]
    exact lastV_congr fun j hj _ => by
     by_cases hja : j ∈ act
     ·simp [hja, hallA j hja]
     ·simp [hja]
   refine loudA_ok hS hio hKK hstF fun E' fr' O' β' a' w' hE' hk hst' => ?_
   exact ihr _ [] fr' O' (by rw [hkeep] at hrest; exact hrest) hk fuel _ a' w' β' E' fr' (hI.ev.trans hE') k1 k2 k3 (by rw [hkeep] at hbef'; exact hbef') (by have := haft' [] (by rw [hkeep]; rfl); rw [hkeep] at this; exact this) hst'
    ⟨fun _ => .dead, fun _ _ h => (by cases h), fun s => (lastV_none fun j _ _ => rfl).symm⟩
  | cons k0 ks =>
   rw [hkeep] at hKK
   simp only at hKK
   rw [<- hkeep] at hKK
   have hdk : ∀ i, i ∈ keep -> dstOf ops i = some (slotI ops i) := fun i hi => by
    have := (hkd i hi).1.1
    cases hd : dstOf ops i with
    | none => rw [hd] at this; cases this
    | some d => simp [slotI, hd]
   have hone : ∀ i, i ∈ keep -> ∀ j, j ∈ act -> j ≠ i -> dstOf ops j ≠ dstOf ops i := fun i hi j hj hne => ((hkd i hi).2 j hj).resolve_left hne
   have hFk : ∀ i, i ∈ keep -> Fr.get F (slotI ops i) = V i := fun i hi => by
    rw [hF, lastV_one (hdk i hi) (by simp [hks i hi]) (fun j hj hp hdj => hone i hi j (by simpa using hp) hj (by rw [hdj, hdk i hi])) (dstOf_lt (hdk i hi))]
   let ffo : List Nat := keep.filter (fun i => listed.getD i false)
   let ff : Fr := ffo.map (fun i => (slotI ops i, V i))
   have hslot_inj : ∀ i, i ∈ keep -> ∀ j, j ∈ keep -> slotI ops i = slotI ops j -> i = j := fun i hi j hj e => by
    rcases Nat.decEq j i with hne | he
    ·exact absurd (by rw [hdk j hj, hdk i hi, e]) (hone i hi j (hks j hj) hne)
    ·exact he.symm
   have hff1 : ∀ i, i ∈ keep -> Fr.get ff (slotI ops i) = if listed.getD i false = true then V i else .dead := by
    intro i hi
    have aux : ∀ L : List Nat, (∀ j, j ∈ L -> j ∈ keep) -> Fr.get (L.map (fun i => (slotI ops i, V i))) (slotI ops i) = if i ∈ L then V i else .dead := by
     intro L
     induction L with
     | nil => intro _; rfl
     | cons j L ih =>
      intro hL
      simp only [List.map_cons, Fr.get, List.mem_cons]
      by_cases hji : j = i
      ·subst hji; simp
      ·rw [if_neg (fun e => hji (hslot_inj j (hL j (by simp)) i hi e)), ih fun k hk => hL k (by simp [hk])]
       have : ¬ i = j := fun e => hji e.symm
       simp [this]
    rw [aux ffo (fun j hj => (List.mem_filter.1 hj).1)]
    have : i ∈ ffo ↔ listed.getD i false = true := by simp [ffo, List.mem_filter, hi]
    simp only [this]
   have hff0 : ∀ s, s ∉ keep.map (slotI ops) -> Fr.get ff s = .dead := by
    intro s hs
    refine Fr.get_nokey fun hm => hs ?_
    obtain ⟨⟨d, x⟩, h1, h2⟩ := List.mem_map.1 hm
    obtain ⟨j, h3, h4⟩ := List.mem_map.1 h1
    cases h4
    simp only at h2
    exact List.mem_map.2 ⟨j, (List.mem_filter.1 h3).1, h2⟩
   have hrm := Fr.rm_spec (ks := keep.map (slotI ops)) (F := F)
   have hstF : St C E β (Fr.rm (keep.map (slotI ops)) F ++ ff) O a w := hI.st.less fun s => by
    rw [Fr.get_append]
    by_cases hs : s ∈ keep.map (slotI ops)
    ·rw [if_neg (hrm.1 s hs)]
     obtain ⟨i, hi, rfl⟩ := List.mem_map.1 hs
     rw [hff1 i hi]
     by_cases hl : listed.getD i false = true
     ·rw [if_pos hl]
      refine .inl ?_
      rw [hI.told, lastV_one (hdk i hi) (by simp only [decide_eq_true (hks i hi), hl]; rfl) (fun j hj hp hdj => hone i hi j (by simp only [Bool.and_eq_true, decide_eq_true_eq] at hp; exact hp.1) hj (by rw [hdj, hdk i hi])) (dstOf_lt (hdk i hi))]
     ·rw [if_neg hl]; exact .inr rfl
    ·have e1 : Fr.get F s = Fr.get fr s := by
      rw [hF s, hI.told s]
      refine lastV_congr fun j hj hdj => ?_
      by_cases hja : j ∈ act
      ·have : j ∉ keep := fun hk => hs (List.mem_map.2 ⟨j, hk, by simp [slotI, hdj]⟩)
       simp [hja, hmustL j hja this]
      ·simp [hja]
     by_cases hm : s ∈ (Fr.rm (keep.map (slotI ops)) F).map (·.1)
     ·rw [if_pos hm, hrm.2 s hs]; exact .inl e1
     ·rw [if_neg hm]; exact .inr (hff0 s hs)
   refine loudA_ok hS hio (hKK ff) hstF fun E' fr' O' β' a' w' hE' hk hst' => ?_
   obtain ⟨b', G, rfl, hnk, ⟨g, hg, hgd, hgv⟩, hplan⟩ := hk
   have hflm : (flV ops keep F).map (·.1) = keep := by simp [flV, Function.comp_def]
   have hnk' := nokey_spec hnk
   have hgV : ∀ i, i ∈ keep -> g (V i) = V i := fun i hi => by
    have := hgv i (Fr.get F (slotI ops i)) (List.mem_map.2 ⟨i, hi, rfl⟩)
    rwa [hFk i hi] at this
   refine ihr _ (flV ops keep F) b' O' (by rw [hflm]; simpa only [List.contains_eq_mem] using hrest) hplan fuel _ a' w' β' E' _ (hI.ev.trans hE') k1 k2 k3 hbef' (haft' _ hflm) hst' ⟨V, fun i v hm => ?_, fun s => ?_⟩
   ·obtain ⟨j, hj, e⟩ := List.mem_map.1 hm
    cases e
    exact (hFk _ hj).symm
   ·rw [hflm, Fr.get_append]
    by_cases hs : s ∈ keep.map (slotI ops)
    ·rw [if_neg (hnk' s hs)]
     obtain ⟨i, hi, rfl⟩ := List.mem_map.1 hs
     rw [hg, hff1 i hi]
     have hne : i ≠ l := fun e => hla (e ▸ hks i hi)
     by_cases hl : listed.getD i false = true
     ·rw [if_pos hl, hgV i hi, lastV_one (hdk i hi) (by simp only [decide_eq_true hi, k4 i hne, hl]; rfl) (fun j hj hp hdj => hone i hi j (hks j (by simp only [Bool.and_eq_true, decide_eq_true_eq] at hp; exact hp.1)) hj (by rw [hdj, hdk i hi])) (dstOf_lt (hdk i hi))]
     ·rw [if_neg hl, hgd, lastV_none (fun j hj hdj => (by
       by_cases hjk : j ∈ keep
       ·have : j = i := hslot_inj j hjk i hi (by simp [slotI, hdj])
        subst this
        simp only [k4 j hne, Bool.eq_false_iff.2 hl, Bool.and_false]
       ·simp [hjk])), Fr.get_nokey (hnk' _ hs)]
    ·rw [hg, hff0 s hs, hgd, lastV_none (fun j hj hdj => (by
      have : j ∉ keep := fun hk => hs (List.mem_map.2 ⟨j, hk, by simp [slotI, hdj]⟩)
      simp [this]))]
     by_cases hm : s ∈ b'.map (·.1)
     ·rw [if_pos hm]
     ·rw [if_neg hm, Fr.get_nokey hm]
end
theorem okPlanT_spec {ops : List Oper} (h : (ancOK ops (ancs ops) && (List.range ops.length).all (fun i => match ops[i]? with
  | none => true
  | some o => o.after.all fun e => !Region.binds .any e || decide (e.on < i))) = true) :
  (∀ i o j, ops[i]? = some o -> j ∈ (ancs ops).getD i [] -> ∃ e ∈ o.after, Region.binds .any e = true /\ e.on < i /\ (e.on = j ∨ j ∈ (ancs ops).getD e.on [])) /\
  (∀ i o, ops[i]? = some o -> ∀ e ∈ o.after, Region.binds .any e = true -> e.on < i) := by
 simp only [Bool.and_eq_true] at h
 obtain ⟨h1, h2⟩ := h
 refine ⟨fun i o j hi hj => ?_, fun i o hi e he hb => ?_⟩
 ·have hlt : i < ops.length := (List.getElem?_eq_some_iff.1 hi).1
  have := List.all_eq_true.1 h1 i (List.mem_range.2 hlt)
  rw [hi] at this
  have := List.all_eq_true.1 this j hj
  obtain ⟨e, he, hb⟩ := Array.any_eq_true'.1 this
  simp only [Bool.and_eq_true, decide_eq_true_eq, Bool.or_eq_true, beq_iff_eq, List.contains_iff_mem] at hb
  exact ⟨e, he, hb.1.1, hb.1.2, hb.2⟩
 ·have hlt : i < ops.length := (List.getElem?_eq_some_iff.1 hi).1
  have := List.all_eq_true.1 h2 i (List.mem_range.2 hlt)
  rw [hi] at this
  have := Array.all_eq_true_iff_forall_mem.1 this e he
  simp only [Bool.or_eq_true, Bool.not_eq_true', hb, decide_eq_true_eq] at this
  rcases this with h | h
  ·cases h
  ·exact h
theorem HT.planT {C : Ctx} {S : FuncId -> Option Sp} (hS : ∀ f s, S f = some s -> FOK C.P C.gl f s) (hD : ∀ f s, S f = some s -> SpDet s.sp) (hm : C.P.follows .mixedOrders = true) {fr : Fr} {O : Hp} {Q : QA} {id : Nat} {l : List Oper} (t : PT) (hB : okPlanT l t = true)
  (h : Go.Vc.planT C S l t [] fr O (Q .normal)) (hnd : nodefB l = true := by rfl) : HT C (.region id l.toArray true) fr O Q := by
 refine ⟨fun E β a w hst => ?_⟩
 have hst' : St C E β fr O a { w with drawn := w.drawn + 1 } := hst.goes hst.core.drew (fun _ _ _ => trivial)
 unfold okPlanT at hB
 simp only [Bool.and_eq_true] at hB
 obtain ⟨h12, hS1, hS2⟩ := hB
 obtain ⟨h1, h2⟩ := okPlanT_spec (Bool.and_eq_true _ _ ▸ h12)
 refine wpIn_region_any hm ((planT_any (E0 := E) hS hD hnd h1 h2 (fun E' fr O β a w hE hk hs => ⟨fr, O, β, E', hE, hk, hs⟩) t).1 hS1 [] [] fr O hS2 h _ _ a _ β E fr (Ev.refl E) (by simp) ?_ ?_ (fun i hi => by cases hi) (fun i _ _ _ => by rw [getD_replicate_false]) hst' ⟨fun _ => .dead, fun _ _ h => (by cases h), fun s => (lastV_none fun j _ _ => rfl).symm⟩)
 ·intro i o _ hl
  rw [getD_replicate_false] at hl; cases hl
 ·refine Nat.le_trans (List.countP_le_length) ?_
  simp
end Go.Vc

namespace Go.Vc
open Go
section
variable {C : Ctx} {S : FuncId -> Option Sp} {ops : List Oper} {fl : List (Nat × BV)} {b F fr : Fr} {O : Hp} {K : Fr -> Hp -> Prop} {act : List Nat} {l : Nat} {t rest brs : PT}
theorem HT.planTS {Q : QA} (hS : ∀ f s, S f = some s -> FOK C.P C.gl f s) (hD : ∀ f s, S f = some s -> SpDet s.sp) (hm : C.P.follows .mixedOrders = true) {id : Nat} {l : List Oper} (t : PT) (hB : okPlanT l t = true) (h : Go.Vc.planT C S l t [] fr O (Q .normal)) (hnd : nodefB l = true := by rfl) :
  HT C (.region id l.toArray true) fr O Q := HT.planT hS hD hm t hB h hnd
theorem Pt.e (h : drawI C S ops act b O fun F O => flEq ops F fl /\ K F O) : planT C S ops (.leaf act) fl b O K := h
theorem Pt.st (h : drawI C S ops act b O fun F O => flEq ops F fl /\ planT C S ops brs [] F O K) : planT C S ops (.stage act brs) fl b O K := h
theorem Pt.b0 (h : loudA C S ops l F O fun fr O => planT C S ops t [] fr O K) (h2 : planT C S ops rest [] F O K) : planT C S ops (.br l [] t rest) fl F O K := ⟨h, h2⟩
theorem Pt.bk {k : Nat} {ks : List Nat} (h : ∀ ff : Fr, loudA C S ops l (Fr.rm ((k :: ks).map (slotI ops)) F ++ ff) O fun fr O =>
  ∃ (b' : Fr) (G : Fr -> Fr), fr = b' ++ G ff /\ nokey ((k :: ks).map (slotI ops)) b' = true /\ FG (flV ops (k :: ks) F) G /\ planT C S ops t (flV ops (k :: ks) F) b' O K) (h2 : planT C S ops rest [] F O K) : planT C S ops (.br l (k :: ks) t rest) fl F O K := ⟨h, h2⟩
theorem Pt.no : planT C S ops .no fl F O K := trivial
end
section
variable {C : Ctx} {S : FuncId -> Option Sp} {fr : Fr} {O : Hp} {k : OpK} {T : TypeId} {p x : Operand}
theorem A.stoAgP {d : TyD} {n m b t off E s : Nat} {w : Bool} {z : Option (Nat -> Value)} {f g : Nat -> PV} {O' : Hp} (hT : C.ty T = some ⟨d, n, b, z⟩) (hp : Fr.ev C fr p = .ptr t off) (hx : Fr.ev C fr x = .agg n f) (hn : 0 < n) (hone : ∀ j, j < n -> (BV.p (f j)).one)
  (hO : Hp.get O t = some ⟨E, s, m, w, .rows g⟩) (hm : off + n <= m) (hO' : Hp.set O t ⟨E, s, m, w, .rows (fun j => if off <= j /\ j < off + n then f (j - off) else g j)⟩ = O') (h : k fr .dead O') : opA C S (.store T p x) fr O k := by
 subst hO'
 refine Or.inr (Or.inl ?_)
 show stoB C O T _ _ (fun O' => k fr .dead O')
 simp only [stoB, hT, hp, hx]
 refine ⟨trivial, hn, hone, _, .rows (fun j => if off <= j /\ j < off + n then f (j - off) else g j), hO, hm, trivial, fun j hj => ?_, h⟩
 show BV.p (if off <= j /\ j < off + n then f (j - off) else g j) = if off <= j /\ j < off + n then BV.p (f (j - off)) else BV.p (g j)
 split <;> rfl
theorem A.stoF {ty : Ty} {t off tz oz nz : Nat} {ob : OB} {fr1 : Fr} {O1 : Hp} {E s n : Nat} {w : Bool} {c c' : OC} {v : BV} {O' : Hp} (hT : C.ty T = some ty) (hd : ty.d.agg = false) (h1 : ty.size = 1) (hz : Fr.ev C fr x = .own tz oz nz) (hoz : Hp.get O tz = some ob) (hfr : Fr.frz tz ob fr = fr1) (hk : Hp.kill tz O = O1)
  (hx : Fr.ev C fr1 p = .ptr t off) (hy : Fr.ev C fr1 x = v) (hv : v.one) (hO : Hp.get O1 t = some ⟨E, s, n, w, c⟩) (hm : off < n) (hc : c.put off v = some c') (hO' : Hp.set O1 t ⟨E, s, n, w, c'⟩ = O') (h : k fr1 .dead O') : opA C S (.store T p x) fr O k := by
 subst hfr; subst hk
 refine Or.inr (Or.inr ?_)
 show frz1 fr O _ _
 simp only [frz1, hz, hoz]
 rw [hz] at *
 simp only [stoA, hT, hx, hy, hO]
 exact ⟨hd, h1, hv, hm, by simp only [hc, hO']; exact h⟩
end
end Go.Vc

namespace Go.Vc
open Go
section
variable {C : Ctx} {S : FuncId -> Option Sp} {fr : Fr} {O : Hp} {kk : BV -> Prop} {T e : TypeId} {x : Operand} {z : Option (Nat -> Value)} {s1 s2 : Nat}
end
end Go.Vc

namespace Go.Vc
open Go
section
variable {C : Ctx} {S : FuncId -> Option Sp} {fr : Fr} {O : Hp} {kk : BV -> Prop} {T T' : TypeId} {x y : Operand} {z : Option (Nat -> Value)} {s1 s2 : Nat}
end
end Go.Vc

namespace Go.Vc
open Go
end Go.Vc
namespace Go.Vc
theorem FOK.or {P : Program} {gl : Nat -> Option (Nat × (Nat -> GV))} {f : FuncId} {pins : List Nat} {α β : Type} {a1 : α -> List BV} {i1 : α -> Hp} {p1 : α -> Prop} {r1 : α -> List BV} {h1 : α -> Hp} {a2 : β -> List BV} {i2 : β -> Hp} {p2 : β -> Prop} {r2 : β -> List BV} {h2 : β -> Hp}
  (k1 : FOK P gl f ⟨pins, mkE a1 i1 p1 r1 h1⟩) (k2 : FOK P gl f ⟨pins, mkE a2 i2 p2 r2 h2⟩) : FOK P gl f ⟨pins, mkE (Sum.elim a1 a2) (Sum.elim i1 i2) (Sum.elim p1 p2) (Sum.elim r1 r2) (Sum.elim h1 h2)⟩ := by
 refine ⟨k1.1, fun N ng β O w xs vals kk g1 g2 g3 g4 g5 g6 g7 => ?_⟩
 obtain ⟨a | a, q1, q2, q3, q4⟩ := g7
 ·exact k1.2 N ng β O w xs vals kk g1 g2 g3 g4 g5 g6 ⟨a, q1, q2, q3, q4⟩
 ·exact k2.2 N ng β O w xs vals kk g1 g2 g3 g4 g5 g6 ⟨a, q1, q2, q3, q4⟩
theorem A.frzC {C : Ctx} {S : FuncId -> Option Sp} (hS : ∀ f s, S f = some s -> FOK C.P C.gl f s) (t : Nat) {fr fr' : Fr} {O O' : Hp} {ob : OB} {k : OpK} {x : Operand} {args : Array Operand} {ats : Array TypeId} (ht : Hp.get O t = some ob) (hf : Fr.frz t ob fr = fr') (hO : Hp.kill t O = O')
  (h : callA C S fr' O' (Fr.ev C fr' x) args.toList k) : opA C S (.call ⟨.value x, args, ats⟩) fr O k := by
 subst hf; subst hO
 exact .inr (.inl fun o ho E β a w hst K Q hK => callA_ok hS ho h E β a w (hst.frz ht) K Q hK)
end Go.Vc
namespace Go.Vc
open Go
def swp (a b t : Nat) : Nat := if t = a then b else if t = b then a else t
theorem swp_swp (a b t : Nat) : swp a b (swp a b t) = t := by
 unfold swp
 split <;> split <;> (try split) <;> omega
theorem swp_inj {a b t t' : Nat} (h : swp a b t = swp a b t') : t = t' := by rw [<- swp_swp a b t, h, swp_swp]
def Fr.ren (σ : Nat -> Nat) (fr : Fr) : Fr := fr.map fun p => (p.1, p.2.ren σ)
theorem Fr.get_renF (σ : Nat -> Nat) : ∀ (fr : Fr) (d : Nat), Fr.get (Fr.ren σ fr) d = (Fr.get fr d).ren σ
 | [], _ => rfl
 | (k, x) :: r, d => by
  show (if k = d then x.ren σ else Fr.get (Fr.ren σ r) d) = (if k = d then x else Fr.get r d).ren σ
  by_cases e : k = d
  ·rw [if_pos e, if_pos e]
  ·rw [if_neg e, if_neg e]; exact Fr.get_renF σ r d
theorem St.swap {C : Ctx} {E : Env} {β : Loc} {fr : Fr} {O : Hp} {a : Act} {w : World} (h : St C E β fr O a w) {x y : Nat} (hp : ∀ t, t ∈ C.pins -> t ≠ x /\ t ≠ y) :
  St C E (fun t => β (swp x y t)) (Fr.ren (swp x y) fr) (Hp.ren (swp x y) O) a w := by
 have hg : ∀ t ob, Hp.get O t = some ob -> Hp.get (Hp.ren (swp x y) O) (swp x y t) = some (ob.ren (swp x y)) /\ (fun t => β (swp x y t)) (swp x y t) = β t :=
  fun t ob ht => ⟨Hp.get_ren (fun _ _ _ _ _ _ e => swp_inj e) ht, by show β (swp x y (swp x y t)) = β t; rw [swp_swp]⟩
 have hb : ∀ k ob', Hp.get (Hp.ren (swp x y) O) k = some ob' -> ∃ ob, Hp.get O (swp x y k) = some ob /\ ob' = ob.ren (swp x y) := fun k ob' hk => by
  obtain ⟨t, rfl, ht⟩ := Hp.get_ren_inv hk
  obtain ⟨ob, ho⟩ := Option.isSome_iff_exists.1 ht
  rw [(hg t ob ho).1] at hk
  exact ⟨ob, by rw [swp_swp]; exact ho, (Option.some.inj hk).symm⟩
 have hown : ∀ b, Owns (fun t => β (swp x y t)) (Hp.ren (swp x y) O) b -> Owns β O b := by
  rintro b ⟨k, ob', h1, h2⟩
  obtain ⟨ob, h3, rfl⟩ := hb k ob' h1
  exact ⟨swp x y k, ob, h3, OB.cov_ren.1 h2⟩
 have hun : ∀ b, Un E.N (fun t => β (swp x y t)) (Hp.ren (swp x y) O) b -> Un E.N β O b := fun b hb' => hb'.imp id (hown b)
 have hrep : ∀ (v : BV) (u : Value), v.Rep (Un E.N β O) β O w u -> (v.ren (swp x y)).Rep (Un E.N (fun t => β (swp x y t)) (Hp.ren (swp x y) O)) (fun t => β (swp x y t)) (Hp.ren (swp x y) O) w u := fun v u hv => BV.Rep.ren hun hg v u hv
 have hc := h.core
 refine ⟨h.ctx, h.good, ⟨hc.ok, ⟨?_, ?_, ?_, ?_, ?_, ?_⟩, hc.keep, ?_, ?_, hc.rows⟩, h.defers, h.size, fun d => ?_, h.xs.stab fun b v h1 h2 => ⟨fun h3 => h1 (hun b h3), h2⟩, h.tok.mono fun d _ e => ?_⟩
 ·intro t ob' ht
  obtain ⟨ob, h1, rfl⟩ := hb t ob' ht
  exact OB.wf_ren.2 (hc.mem.wf _ _ h1)
 ·intro t ob' ht
  obtain ⟨ob, h1, rfl⟩ := hb t ob' ht
  have := hc.mem.pos _ _ h1; exact this
 ·intro t ob' ht hre
  obtain ⟨ob, h1, rfl⟩ := hb t ob' ht
  have := hc.mem.obj0 _ _ h1 hre; exact this
 ·intro t ob' ht hre
  obtain ⟨ob, h1, rfl⟩ := hb t ob' ht
  obtain ⟨cs, q, h2, h3, h4, h5, h6⟩ := hc.mem.obj _ _ h1 hre
  refine ⟨cs, q, h2, h3, h4, h5, fun j hj => ?_⟩
  obtain ⟨u, h7, h8⟩ := h6 j hj
  refine ⟨u, h7, ?_⟩
  show ((ob.c.ren (swp x y)).get j).Rep _ _ _ _ _
  rw [OC.get_ren]; exact hrep _ _ h8
 ·intro t ob1 t' ob2 h1 h2 hne b hb1 hb2
  obtain ⟨o1, g1, rfl⟩ := hb t ob1 h1
  obtain ⟨o2, g2, rfl⟩ := hb t' ob2 h2
  exact hc.mem.disj _ _ _ _ g1 g2 (fun e => hne (swp_inj e)) b (OB.cov_ren.1 hb1) (OB.cov_ren.1 hb2)
 ·intro t ob' ht b hb'
  obtain ⟨ob, h1, rfl⟩ := hb t ob' ht
  exact hc.mem.notN _ _ h1 b (OB.cov_ren.1 hb')
 ·intro t ob' ht b hb'
  obtain ⟨ob, h1, rfl⟩ := hb t ob' ht
  exact hc.dom _ _ h1 b (OB.cov_ren.1 hb')
 ·intro t ht
  obtain ⟨h1, h2⟩ := hp t (by rw [<- h.ctx]; exact ht)
  show β (swp x y t) = _
  rw [show swp x y t = t by unfold swp; rw [if_neg h1, if_neg h2]]
  exact hc.pins t ht
 ·rw [Fr.get_renF]; exact hrep _ _ (h.slot d)
 ·rw [Fr.get_renF] at e; exact ren_p e
theorem HT.swap {C : Ctx} {c : Code} {fr fr' : Fr} {O O' : Hp} {Q : QA} (x y : Nat) (hp : disjB [x, y] C.pins = true) (hf : Fr.ren (swp x y) fr = fr') (hO : Hp.ren (swp x y) O = O') (h : HT C c fr' O' Q) : HT C c fr O Q := by
 subst hf; subst hO
 refine ⟨fun E β a w hst => h.run E _ a w (hst.swap fun t ht => ⟨fun e => ?_, fun e => ?_⟩)⟩
 ·exact disjB_spec hp x (by simp) (e ▸ ht)
 ·exact disjB_spec hp y (by simp) (e ▸ ht)
section
variable {C : Ctx} {S : FuncId -> Option Sp} {fr : Fr} {O : Hp} {kk : BV -> Prop} {x : Operand} {T : TypeId} {y : PV}
theorem V.ncPp (hx : Fr.ev C fr x = .p (.pp y)) (h : kk (.p (.pp y))) : valA C S (.nilCheck x) fr O kk := by
 show nilChkA (Fr.ev C fr x) kk
 rw [hx]; exact h
theorem V.ldPp {ty : Ty} (hT : C.ty T = some ty) (hd : ty.d.agg = false) (hx : Fr.ev C fr x = .p (.pp y)) (h : kk (.p y)) : valA C S (.load T x) fr O kk := by
 show loadA C O T (Fr.ev C fr x) kk
 rw [hx]
 simp only [loadA, hT, hd]
 exact h
end
def OB.ptv (ob : OB) (off : Nat) : BV := match ob.c.get off with
 | .p x => if off < ob.n then .p (.pp x) else .dead
 | _ => .dead
def BV.frzP (t : Nat) (ob : OB) : BV -> BV
 | .ptr t' off => if t' = t then ob.ptv off else .ptr t' off
 | x => x.frz t ob
def Fr.frzP (t : Nat) (ob : OB) (fr : Fr) : Fr := fr.map fun p => (p.1, p.2.frzP t ob)
theorem Fr.get_frzP (t : Nat) (ob : OB) : ∀ (fr : Fr) (d : Nat), Fr.get (Fr.frzP t ob fr) d = (Fr.get fr d).frzP t ob
 | [], _ => rfl
 | (k, x) :: r, d => by
  show (if k = d then x.frzP t ob else Fr.get (Fr.frzP t ob r) d) = (if k = d then x else Fr.get r d).frzP t ob
  by_cases e : k = d
  ·rw [if_pos e, if_pos e]
  ·rw [if_neg e, if_neg e]; exact Fr.get_frzP t ob r d
theorem BV.frzP_undef {t : Nat} {ob : OB} {x : BV} (h : x.frzP t ob = .p (.v undef)) : x = .p (.v undef) := by
 cases x with
 | ptr t' off =>
  simp only [BV.frzP] at h
  split at h
  ·unfold OB.ptv at h
   split at h
   ·split at h <;> cases h
   ·cases h
  ·cases h
 | _ => exact BV.frz_undef (t := t) (ob := ob) h
theorem St.frzP {C : Ctx} {E : Env} {β : Loc} {fr : Fr} {O : Hp} {a : Act} {w : World} (h : St C E β fr O a w) {t : Nat} {ob : OB} (ht : Hp.get O t = some ob) :
  St C E β (Fr.frzP t ob fr) (Hp.kill t O) a w := by
 have h2 := h.frz ht
 refine ⟨h.ctx, h.good, h2.core, h.defers, h.size, fun d => ?_, h2.xs, h.tok.mono fun d _ e => by rw [Fr.get_frzP] at e; exact BV.frzP_undef e⟩
 rw [Fr.get_frzP]
 have hs := h.slot d
 have hs2 := h2.slot d
 rw [Fr.get_frz] at hs2
 have hm := h.core.mem
 cases hx : Fr.get fr d with
 | ptr t' off =>
  rw [hx] at hs hs2
  simp only [BV.frzP]
  by_cases htt : t' = t
  ·subst htt
   rw [if_pos rfl]
   obtain ⟨ob', h3, hre, hof, hu⟩ := hs
   rw [ht] at h3; cases h3
   unfold OB.ptv
   split
   ·rename_i y hy
    by_cases ho : off < ob.n
    ·rw [if_pos ho]
     obtain ⟨z, hz, _, hr⟩ := hm.cell ht ho
     rw [hy] at hr
     have hcov : ob.cov (β t') ⟨(β t').b, (β t').o + off, none⟩ := ⟨hre, rfl, .inr ⟨by show (β t').o <= (β t').o + off; omega, by show (β t').o + off < (β t').o + ob.n; omega⟩⟩
     have hun : ∀ b, Un E.N β (Hp.kill t' O) b -> Un E.N β O b := by
      rintro b (h1 | ⟨j, oj, h1, h2⟩)
      ·exact .inl h1
      ·obtain ⟨hne, ob0, h3, rfl⟩ := Hp.get_kill_some h1
       exact .inr ⟨j, ob0, h3, h2⟩
     refine ⟨_, z, hu, ?_, hz, PV.Rep.stab (fun b v h1 h2 => ⟨fun h3 => h1 (hun b h3), h2⟩) y z hr⟩
     rintro (h1 | ⟨j, oj, h1, h2⟩)
     ·exact hm.notN t' ob ht _ hcov h1
     ·obtain ⟨hne, ob0, h3, rfl⟩ := Hp.get_kill_some h1
      exact hm.disj t' ob j ob0 ht h3 (Ne.symm hne) _ hcov h2
    ·rw [if_neg ho]; trivial
   ·trivial
  ·rw [if_neg htt]
   have e : (BV.ptr t' off).frz t ob = .ptr t' off := by simp only [BV.frz, BV.kill, htt, if_false]
   rw [e] at hs2; exact hs2
 | _ => rw [hx] at hs2; exact hs2
theorem HT.frzP {C : Ctx} {fr fr' : Fr} {O O' : Hp} {Q : QA} {c : Code} (t : Nat) {ob : OB} (ht : Hp.get O t = some ob) (hf : Fr.frzP t ob fr = fr') (hO : Hp.kill t O = O') (h : HT C c fr' O' Q) : HT C c fr O Q := by
 subst hf; subst hO
 exact ⟨fun E β a w hst => h.run E β a w (hst.frzP ht)⟩
end Go.Vc
namespace Go.Vc
open Go
def frSw : List (Nat × Nat) -> Fr -> Fr
 | [], fr => fr
 | p :: r, fr => frSw r (Fr.ren (swp p.1 p.2) fr)
def hpSw : List (Nat × Nat) -> Hp -> Hp
 | [], O => O
 | p :: r, O => hpSw r (Hp.ren (swp p.1 p.2) O)
def swOK (pins : List Nat) : List (Nat × Nat) -> Bool
 | [] => true
 | p :: r => disjB [p.1, p.2] pins && swOK pins r
theorem HT.swapL {C : Ctx} {c : Code} {Q : QA} : ∀ (sw : List (Nat × Nat)) {fr : Fr} {O : Hp}, swOK C.pins sw = true -> HT C c (frSw sw fr) (hpSw sw O) Q -> HT C c fr O Q
 | [], _, _, _, h => h
 | p :: r, fr, O, hp, h => by
  rw [swOK, Bool.and_eq_true] at hp
  exact HT.swap p.1 p.2 hp.1 rfl rfl (HT.swapL r hp.2 h)
theorem R.cutS {C : Ctx} {fr : Fr} {O : Hp} {Q : QA} {x y : Code} (φ : Prop) (front : Fr) (hfront : Hp) (ks ts : List Nat) {fr0 : Fr} {O0 : Hp} (hpick : Fr.pick ks fr = fr0) (hpickH : Hp.pick ts O = O0)
  (h : HT C x fr O (thenQ (fun fr O => φ /\ ∃ sw : List (Nat × Nat), swOK C.pins sw = true /\ subW (frSw sw fr) (hpSw sw O) (front ++ fr0) (hfront ++ O0)) Q)) (h2 : φ -> HT C y (front ++ fr0) (hfront ++ O0) Q) : HT C (x.seq y) fr O Q :=
 HT.seq (h.mono fun e fr O hq => by
  cases e <;> first
   | exact let ⟨h3, sw, h4, h5⟩ := hq; HT.swapL sw h4 (HT.subW h5 (h2 h3))
   | exact hq)
end Go.Vc

namespace Go.Vc
open Go Go.RowKit Go.WideShapes Go.ChangeShapes
section
variable {H : Type} {enc : TypeId × Value -> H} {P : Program}
theorem post_below {f : Func} {s : ChangeSpec} {apart fresh handsOn again : Bool} {W W' : World} {args : Array Value} {v : Value} {ds gs : List (DataW H)} {before pa pv : List MemPlace}
  (hW : DataW.Whole enc P f.params.toList s.vars apart W args.toList ds gs before)
  (hres : ∀ (b : Nat) (sp : Nat -> Bool) (hd : Bool), DataW.TrodAll enc P W' b sp hd f.resultTypes.toList (v.resultList f.resultTypes.size) (s.fn H (ds ++ gs)).results [])
  (hargs : ∀ sp : Nat -> Bool, (∀ p ∈ before, sp p.block = true) -> DataW.TrodAll enc P W' 0 sp true f.params.toList args.toList (s.fn H (ds ++ gs)).args pa)
  (hvars : ∀ sp : Nat -> Bool, (∀ p ∈ before, sp p.block = true) -> DataW.TrodVars enc P W' sp s.vars (s.fn H (ds ++ gs)).vars pv)
  (hps : before = pa ++ pv) (hb : Below W.heap.size W W')
  (hok : ∀ (j : Nat) (t : TypeId) (r : Value), f.resultTypes[j]? = some t -> (v.resultList f.resultTypes.size)[j]? = some r -> Value.okWide P W' .any 0 t r) :
  s.post enc P f apart fresh handsOn again W args v W' := by
 have hlt : ∀ p ∈ before, p.block < W.heap.size := fun p hp => hW.lt p hp
 have hold : ∀ p ∈ before, (fun b => decide (b < W.heap.size)) p.block = true := fun p hp => by simpa using hlt p hp
 refine ⟨ds, gs, before, [], pa, pv, hW, hres _ _ _, hargs _ hold, hvars _ hold, World.keptBut_mono (fun p hp => ⟨hp, ?_⟩) (hb.frame (· ∈ before)), fun _ => ?_⟩
 ·rw [hps, List.mem_append] at hp
  exact Or.inr hp
 ·obtain ⟨_, _, _, _, _, hz, hn⟩ := hW
  refine ⟨hok, _, _, ([] ++ pa) ++ pv, ⟨[] ++ pa, pv, trodAll_append (hargs _ (fun _ _ => rfl)) (hres _ _ _), hvars _ (fun _ _ => rfl), rfl, ?_, ?_⟩, ?_⟩
  ·intro b off hp
   have hin : MemPlace.cell b off ∈ before := by rw [hps]; simpa using hp
   rw [hb.frozen (hlt _ hin)]
   exact hz b off hin
  ·intro ha
   have := hn ha
   rw [hps] at this
   simpa using this
  ·intro p hp _
   rw [hps]
   simpa using hp
theorem Below.trodS {t : TypeId} (hl : laidOutB P = true) (hr : P.readableRec t = true) (hrow : t < P.types.size) {W W' : World} {v : Value} {d : DataW H} {ps : List MemPlace}
  (h : DataW.Trod enc P W 0 (fun _ => true) true t v d ps) (hb : Below W.heap.size W W') (hlt : ∀ x ∈ ps, x.block < W.heap.size) (sp : Nat -> Bool) (hs : ∀ x ∈ ps, sp x.block = true) :
  DataW.Trod enc P W' 0 sp true t v d ps :=
 WideElems.Trod_stays hl hr hrow h (fun x hx => hb.same (hlt x hx)) hs
theorem Below.trodAllS (hl : laidOutB P = true) {W W' : World} (hb : Below W.heap.size W W') (sp : Nat -> Bool) :
  ∀ {ts : List TypeId} {vs : List Value} {ds : List (DataW H)} {ps : List MemPlace}, (∀ t ∈ ts, P.readableRec t = true /\ t < P.types.size) -> (∀ x ∈ ps, x.block < W.heap.size) -> (∀ x ∈ ps, sp x.block = true) ->
  DataW.TrodAll enc P W 0 (fun _ => true) true ts vs ds ps -> DataW.TrodAll enc P W' 0 sp true ts vs ds ps
 | [], [], [], _, _, _, _, h => h
 | _ :: _, _ :: _, _ :: _, _, hT, hlt, hs, ⟨p, q, h1, h2, e⟩ =>
  ⟨p, q, Below.trodS hl (hT _ (List.mem_cons.2 (Or.inl rfl))).1 (hT _ (List.mem_cons.2 (Or.inl rfl))).2 h1 hb (fun x hx => hlt x (by rw [e]; exact List.mem_append_left _ hx)) sp (fun x hx => hs x (by rw [e]; exact List.mem_append_left _ hx)),
   Below.trodAllS hl hb sp (fun t ht => hT t (List.mem_cons.2 (Or.inr ht))) (fun x hx => hlt x (by rw [e]; exact List.mem_append_right _ hx)) (fun x hx => hs x (by rw [e]; exact List.mem_append_right _ hx)) h2, e⟩
 | [], _ :: _, _, _, _, _, _, h => h.elim
 | [], [], _ :: _, _, _, _, _, h => h.elim
 | _ :: _, [], _, _, _, _, _, h => h.elim
 | _ :: _, _ :: _, [], _, _, _, _, h => h.elim
theorem law_post {f : Func} {s : ChangeSpec} {apart fresh handsOn again : Bool} {W W' : World} {args : Array Value} {ds gs : List (DataW H)} {before : List MemPlace} {tb : TypeId}
  (hl : laidOutB P = true) (hT : ∀ t ∈ f.params.toList, P.readableRec t = true /\ t < P.types.size) (hrt : f.resultTypes = #[tb]) (hub : P.underlying tb = some .bool) (hv : s.vars = [])
  (hfn : (s.fn H (ds ++ gs)) = ⟨[.lit (.bool true)], ds ++ gs, []⟩)
  (hW : DataW.Whole enc P f.params.toList s.vars apart W args.toList ds gs before) (hb : Below W.heap.size W W') :
  s.post enc P f apart fresh handsOn again W args (.bool true) W' := by
 have hW' := hW
 obtain ⟨p, q, hA, hV, rfl, _, _⟩ := hW
 rw [hv] at hV
 obtain ⟨rfl, rfl⟩ := trodVars_none hV
 refine post_below (pa := p) (pv := []) hW' ?_ ?_ ?_ rfl hb ?_
 ·intro b sp hd
  rw [hfn, hrt]
  exact trodAll_mk1 (shut_bool hub _)
 ·intro sp hs
  rw [hfn]
  simp only [List.append_nil] at hs ⊢
  exact Below.trodAllS hl hb sp hT (fun x hx => by simpa using hW'.lt x (by simpa using hx)) hs hA
 ·intro sp hs
  rw [hfn, hv]
  rfl
 ·exact ok_one hrt rfl (okWide_bool_mk hub true)
variable {w : World} {base : Nat} {spare : Nat -> Bool} {held : Bool} {U : Addr -> Prop}
theorem wf_u8 {n : Int} (h : (Lit.int .u8 n).wf = true) : ((UInt8.ofNat n.toNat).toNat : Int) = n := by
 have := range_u8 (zs := [n]) (fun x hx => by simp at hx; subst hx; exact h) 0
 simp at this
 simp only [UInt8.toNat_ofNat']
 omega
theorem cell_u8 {t : TypeId} {n : Nat} {y : Value} {x : DataW H × List MemPlace} (ht : P.underlying t = some (.int .u8)) (h : DataW.trod enc P w base spare held n t [y] = some x) : ∃ b : UInt8, (PV.u8 b).Rep U w y := by
 obtain ⟨n, h, hx, hw⟩ := DataW.trod_int ht h
 simp at h
 subst h
 exact ⟨UInt8.ofNat n.toNat, by show _ = _; rw [wf_u8 hw]⟩
theorem cell_sl {α : Type} [Inhabited α] {t e : TypeId} {n : Nat} {y : Value} {x : DataW H × List MemPlace} {emb : α -> PV} (ht : P.underlying t = some (.slice e)) (hc : P.cellsOf e = 1)
  (he : ∀ n y x, DataW.trod enc P w base spare held n e [y] = some x -> ∃ a : α, (emb a).Rep U w y)
  (h : DataW.trod enc P w base spare held n t [y] = some x) : ∃ L : List α, L.length <= maxLen /\ ∃ A c, y = Value.slice A L.length c /\ L.length <= c /\ ∀ j, j < L.length -> ∃ a z, A = some a /\ w.cell? (a.add j) = some z /\ (emb (L.getD j default)).Rep U w z := by
 rcases Go.Deep.open_slice1 ht hc h with ⟨hy, _⟩ | ⟨a, len, cap, m, n', V, D, Pl, hy, _, hl, hm, hmm, _, hx⟩
 ·simp at hy
  subst hy
  exact ⟨[], Nat.zero_le _, none, 0, rfl, Nat.le_refl _, fun j hj => by simp at hj⟩
 ·simp at hy
  subst hy
  have hlm : len <= m := by rw [hmm]; split <;> omega
  have hex : ∀ i, ∃ b : α, i < len -> (emb b).Rep U w (V i) := fun i => by
   by_cases hi : i < len
   ·obtain ⟨b, hb⟩ := he _ _ _ (hx i (by omega)).2
    exact ⟨b, fun _ => hb⟩
   ·exact ⟨default, fun h => absurd h hi⟩
  obtain ⟨g, hg⟩ := Classical.axiomOfChoice hex
  refine ⟨(List.range len).map g, by simp; omega, some a, cap, by simp, by simpa using hl, fun j hj => ?_⟩
  have hj' : j < len := by simpa using hj
  refine ⟨a, V j, rfl, (hx j (by omega)).1, ?_⟩
  have : ((List.range len).map g).getD j default = g j := by simp [List.getD, hj']
  rw [this]
  exact hg j hj'
theorem cell_bs {t e : TypeId} {n : Nat} {y : Value} {x : DataW H × List MemPlace} (hU : ∀ a, ¬ U a) (ht : P.underlying t = some (.slice e)) (he : P.underlying e = some (.int .u8)) (hc : P.cellsOf e = 1)
  (h : DataW.trod enc P w base spare held n t [y] = some x) : ∃ l : List UInt8, (PV.bs l).Rep U w y := by
 obtain ⟨L, hL, A, c, rfl, hcc, hx⟩ := cell_sl (U := U) (emb := PV.u8) ht hc (fun n y x h => cell_u8 he h) h
 refine ⟨L, hL, A, c, rfl, hcc, fun j hj => ?_⟩
 obtain ⟨a, z, rfl, hz, hr⟩ := hx j hj
 have hr' : z = .int .u8 ((L.getD j 0).toNat : Int) := hr
 exact ⟨a, rfl, hU _, by rw [hz, hr']⟩
theorem rd_sl {r : Reach} {b0 : Nat} {t e : TypeId} {v : Value} {d : DataW H} {ps : List MemPlace} (ht : P.underlying t = some (.slice e)) (hval : Value.okWide P w r b0 t v) (hd : DataW.Trod enc P w base spare held t v d ps)
  {α : Type} {f : α -> PV} (h : ∀ n x, DataW.trod enc P w base spare held n t [v] = some x -> ∃ a, (f a).Rep U w v) : ∃ a, (BV.p (f a)).Rep U noLoc [] w v := by
 obtain ⟨A, n, c, rfl⟩ := okWide_slice ht hval
 obtain ⟨fuel, hf⟩ := hd
 exact h _ _ hf
theorem rd_bs {r : Reach} {b0 : Nat} {t e : TypeId} {v : Value} {d : DataW H} {ps : List MemPlace} (hU : ∀ a, ¬ U a) (ht : P.underlying t = some (.slice e)) (he : P.underlying e = some (.int .u8)) (hc : P.cellsOf e = 1)
  (hval : Value.okWide P w r b0 t v) (hd : DataW.Trod enc P w base spare held t v d ps) : ∃ l, (BV.p (.bs l)).Rep U noLoc [] w v :=
 rd_sl ht hval hd fun _ _ h => cell_bs hU ht he hc h
theorem st_part {t : TypeId} {fs : Array Field} {fuel : Nat} {l : List Value} {x : DataW H × List MemPlace} (ht : P.underlying t = some (.struct fs)) (hf : DataW.trod enc P w base spare held fuel t l = some x) {i : Nat} {f : Field} (hi : fs[i]? = some f) :
  ∃ m x', DataW.trod enc P w base spare held m f.type ((l.drop f.offset).take (P.cellsOf f.type)) = some x' := by
 obtain ⟨xs, n, _, _, _, hl, h⟩ := DataW.trod_struct ht hf
 have hlt : i < fs.size := (Array.getElem?_eq_some_iff.1 hi).1
 refine ⟨n, xs[i]'(by omega), ?_⟩
 rw [h i f hi, List.getElem?_eq_getElem (by omega)]
theorem one_cell {T : TypeId} {m off c : Nat} {l : List Value} {x : DataW H × List MemPlace} (hf : DataW.trod enc P w base spare held m T ((l.drop off).take c) = some x) (hc : c = 1) (ho : off < l.length) : ∃ y, l[off]? = some y /\ DataW.trod enc P w base spare held m T [y] = some x := by
 subst hc
 refine ⟨l[off], List.getElem?_eq_getElem ho, ?_⟩
 rw [List.drop_eq_getElem_cons ho] at hf
 exact hf
theorem lf_bs {T e : TypeId} {m off c : Nat} {l : List Value} {x : DataW H × List MemPlace} (hf : DataW.trod enc P w base spare held m T ((l.drop off).take c) = some x) (hU : ∀ a, ¬ U a) (hT : P.underlying T = some (.slice e)) (he : P.underlying e = some (.int .u8)) (hce : P.cellsOf e = 1) (hc : c = 1) (ho : off < l.length) :
  ∃ b : List UInt8, ∃ y, l[off]? = some y /\ (PV.bs b).Rep U w y := by
 obtain ⟨y, hy, h⟩ := one_cell hf hc ho
 obtain ⟨b, hb⟩ := cell_bs hU hT he hce h
 exact ⟨b, y, hy, hb⟩
theorem lf_int {T : TypeId} {k : IntKind} {m off c : Nat} {l : List Value} {x : DataW H × List MemPlace} (hf : DataW.trod enc P w base spare held m T ((l.drop off).take c) = some x) (hT : P.underlying T = some (.int k)) (hc : c = 1) (ho : off < l.length) :
  ∃ n : Int, (Lit.int k n).wf = true /\ ∃ y, l[off]? = some y /\ (PV.v (.int k n)).Rep U w y := by
 obtain ⟨y, hy, h⟩ := one_cell hf hc ho
 obtain ⟨n, h2, _, hw⟩ := DataW.trod_int hT h
 simp at h2
 subst h2
 exact ⟨n, hw, _, hy, rfl⟩
theorem sub_get {l : List Value} {a n o : Nat} {R : Value -> Prop} (h : ∃ y, ((l.drop a).take n)[o]? = some y /\ R y) : ∃ y, l[a + o]? = some y /\ R y := by
 obtain ⟨y, hy, hr⟩ := h
 refine ⟨y, ?_, hr⟩
 rw [List.getElem?_take] at hy
 split at hy
 ·rwa [List.getElem?_drop] at hy
 ·cases hy
theorem gl_ints {g t e : Nat} {k : IntKind} {nm : String} {l : List Int} {cs : Array Value} {x : DataW H × List MemPlace} {fuel : Nat} (hg : P.globalNamed nm = some g) (hv : w.var? P nm = some cs) (ht : P.underlying t = some (.array l.length e)) (he : P.underlying e = some (.int k)) (hc : P.cellsOf e = 1) (hct : P.cellsOf t = l.length)
  (hd : DataW.trod enc P w base spare held fuel t cs.toList = some x) (hx : x.1 = .agg (l.map fun n => .lit (.int k n))) : ∀ j, j < l.length -> w.cell? ⟨g, j, none⟩ = some (.int k (l.getD j 0)) := by
 intro j hj
 obtain ⟨xs, m, rfl, rfl, hl, hn, hel⟩ := DataW.trod_array ht hd
 have h := hel j hj
 rw [hc, Nat.mul_one, List.getElem?_eq_getElem (by omega)] at h
 rw [World.var?_cell hg hv j]
 have hjc : j < cs.toList.length := by rw [hl, hct]; exact hj
 have e1 : (cs.toList.drop j).take 1 = [cs.toList[j]] := by rw [List.drop_eq_getElem_cons hjc]; rfl
 rw [e1] at h
 obtain ⟨n, e2, e3, _⟩ := DataW.trod_int he h
 simp only [DataW.agg.injEq] at hx
 have e4 : (xs.map (·.1))[j]? = some (.lit (.int k (l.getD j 0))) := by rw [hx]; simp [List.getD, List.getElem?_eq_getElem hj]
 rw [List.getElem?_map, List.getElem?_eq_getElem (by omega), e3] at e4
 have e5 : n = l.getD j 0 := by simpa using e4
 have e6 : cs[j]'(by simpa using hjc) = Value.int k n := by simpa using e2
 rw [<- e5, <- e6]
 simp [Array.getElem?_eq_getElem (show j < cs.size by simpa using hjc)]
theorem leL_refl : ∀ xs : List BV, leL xs xs
 | [] => trivial
 | x :: r => ⟨.refl x, leL_refl r⟩
theorem law_run {gl : Nat -> Option (Nat × (Nat -> GV))} {f : FuncId} {α : Type} {argE : α -> List BV} {pre : α -> Prop} {res : α -> List BV} (hF : FOK P gl f ⟨[], mkE argE (fun _ => []) pre res (fun _ => [])⟩) {W : World} {args : Array Value} {r : Value} (a : α) (hp : pre a)
  (hres : res a = [.p (.v r)]) (hgl : ∀ g m h, gl g = some (m, h) -> ∀ j, j < m -> W.cell? ⟨g, j, none⟩ = some (h j).val) (hsz : args.size = (argE a).length)
  (hrep : ∀ (i : Nat) (x : BV), (argE a)[i]? = some x -> ∃ u, args[i]? = some u /\ x.Rep (fun _ => False) noLoc [] W u) :
  Calls P f args W fun e W' => e = .returned r /\ Below W.heap.size W W' := by
 have hUn : Un (fun _ => False) noLoc [] = fun _ => False := by
  funext x
  simp [Un, Owns, Hp.get]
 refine (hF.2 (fun _ => False) W.heap.size noLoc [] W (argE a) args (fun rs O2 => rs = [.p (.v r)] /\ O2 = []) (fun _ h => h.elim) (Nat.le_refl _) (fun g m h hg j hj => ?_) (Mem.nil _ _ _ _) hsz (by rw [hUn]; exact hrep) ⟨a, leL_refl _, trivial, hp, hres, rfl⟩).mono fun e W' h => ?_
 ·have := hgl g m h hg j hj
  exact ⟨this, fun h => h, World.block_lt_of_cell? W _ this⟩
 ·obtain ⟨v, β2, O2, rs, rfl, ⟨rfl, rfl⟩, hm, hk, _, _, hr⟩ := h
  have hr' : v = r := hr
  subst hr'
  refine ⟨rfl, Keep.below (hk.mono fun x hx => ?_)⟩
  obtain ⟨t, ob, h, _⟩ := hx
  simp [Hp.get] at h
end
end Go.Vc

namespace Go.Vc
open Go
variable {P : Program} {w : World} {H : Type} {enc : TypeId × Value -> H} {base : Nat} {spare : Nat -> Bool} {held : Bool} {U : Addr -> Prop}
theorem cell_slN {α : Type} [Inhabited α] {t e s : Nat} {n : Nat} {y : Value} {x : DataW H × List MemPlace} {emb : α -> Nat -> PV} (hU : ∀ a, ¬ U a) (ht : P.underlying t = some (.slice e)) (hc : P.cellsOf e = s)
  (he : ∀ n l x, l.length = s -> DataW.trod enc P w base spare held n e l = some x -> ∃ a : α, ∀ j, j < s -> ∃ z, l[j]? = some z /\ (emb a j).Rep U w z)
  (h : DataW.trod enc P w base spare held n t [y] = some x) : ∃ L : List α, (PV.sl L.length s (fun j => emb (L.getD (j / s) default) (j % s))).Rep U w y := by
 rcases Go.Deep.open_slice ht h with ⟨hy, _⟩ | ⟨a, len, cap, m, n', D, Pl, hy, _, hl, hm, hmm, _, hx⟩
 ·simp at hy
  subst hy
  exact ⟨[], Nat.zero_le _, none, 0, rfl, Nat.le_refl _, fun j hj => by simp at hj⟩
 ·simp at hy
  subst hy
  have hlm : len <= m := by rw [hmm]; split <;> omega
  have hex : ∀ i, ∃ b : α, i < len -> ∀ j, j < s -> ∃ z, w.cell? (a.add (i * s + j)) = some z /\ (emb b j).Rep U w z := fun i => by
   by_cases hi : i < len
   ·obtain ⟨cs', h1, h2⟩ := hx i (by omega)
    rw [hc] at h1
    obtain ⟨_, hlen, hget⟩ := World.cells?_some h1
    obtain ⟨b, hb⟩ := he _ _ _ hlen h2
    refine ⟨b, fun _ j hj => ?_⟩
    obtain ⟨z, hz, hr⟩ := hb j hj
    exact ⟨z, by rw [<- Addr.add_add, hget j hj, hz], hr⟩
   ·exact ⟨default, fun h => absurd h hi⟩
  obtain ⟨g, hg⟩ := Classical.axiomOfChoice hex
  refine ⟨(List.range len).map g, by simp; omega, some a, cap, by simp, by simpa using hl, fun j hj => ?_⟩
  have hj' : j < len * s := by simpa using hj
  have hs : 0 < s := by
   rcases Nat.eq_zero_or_pos s with e | e
   ·subst e; omega
   ·exact e
  have hi : j / s < len := Nat.div_lt_of_lt_mul (by rw [Nat.mul_comm]; exact hj')
  obtain ⟨z, hz, hr⟩ := hg (j / s) hi (j % s) (Nat.mod_lt _ hs)
  have e1 : j / s * s + j % s = j := by rw [Nat.mul_comm]; exact Nat.div_add_mod j s
  have e2 : ((List.range len).map g).getD (j / s) default = g (j / s) := by simp [List.getD, hi]
  rw [e1] at hz
  refine ⟨a, z, rfl, hU _, hz, ?_⟩
  show PV.Rep U w (emb (((List.range len).map g).getD (j / s) default) (j % s)) z
  rw [e2]; exact hr
theorem rd_slN {α : Type} [Inhabited α] {r : Reach} {b0 : Nat} {t e s : Nat} {v : Value} {d : DataW H} {ps : List MemPlace} {emb : α -> Nat -> PV} (hU : ∀ a, ¬ U a) (ht : P.underlying t = some (.slice e)) (hc : P.cellsOf e = s)
  (he : ∀ n l x, l.length = s -> DataW.trod enc P w base spare held n e l = some x -> ∃ a : α, ∀ j, j < s -> ∃ z, l[j]? = some z /\ (emb a j).Rep U w z)
  (hval : Value.okWide P w r b0 t v) (hd : DataW.Trod enc P w base spare held t v d ps) : ∃ L : List α, (BV.p (.sl L.length s (fun j => emb (L.getD (j / s) default) (j % s)))).Rep U noLoc [] w v :=
 rd_sl (f := fun L : List α => .sl L.length s (fun j => emb (L.getD (j / s) default) (j % s))) ht hval hd fun _ _ h => cell_slN hU ht hc he h
end Go.Vc
