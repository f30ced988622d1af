/- What is proved: rules for told frames and blocks (each step of a function, as a rule over what its slots hold); no condition. Used by the laws of this seat. -/
import Derived.Test.YtbfngifhdodmkaaDoorRRRFrame1
import Derived.ProofKit
import Derived.LaidMore
import Derived.OpenShut
import Derived.Stop.Joined
import Derived.Carry
import Derived.Deep.Slices
set_option linter.unusedVariables false
set_option linter.unusedSimpArgs false
/- Vc, S4: results that lie in cells. -/
set_option linter.unusedVariables false
namespace Go.Vc
open Go

def rvS (tmps : Array Value) : ResultVar → Sem Value
  | .tmp t => pure (tmps.getD t undef)
  | .cell a t => do loadVar t (← asAddr (tmps.getD a undef))

/-- What a result is told as. -/
def rvA (C : Ctx) (fr : Fr) (O : Hp) (x : BV) : ResultVar → Prop
  | .tmp s => (Fr.get fr s).le x
  | .cell s T => loadA C O T (Fr.get fr s) fun y => y.le x
def rvL (C : Ctx) (fr : Fr) (O : Hp) : List ResultVar → List BV → Prop
  | [], [] => True
  | r :: rs, x :: xs => rvA C fr O x r ∧ rvL C fr O rs xs
  | _, _ => False

theorem loadVar_of {P : Program} {T : TypeId} {a : Addr} {w : World} {u : Value} (h : (Instr.loadAt T (.pointer (some a))).run P w = .ok u w) : (loadVar T a).run P w = .ok u w := by
  simpa [Instr.loadAt, Instr.sureAddr] using h

theorem rvA_ok {C : Ctx} {E : Env} {β : Loc} {fr : Fr} {O : Hp} {a : Act} {w : World} (hst : St C E β fr O a w) {x : BV} : ∀ (r : ResultVar), rvA C fr O x r →
    ∃ u, (rvS a.tmps r).run C.P w = .ok u w ∧ x.Rep (Un E.N β O) β O w u
  | .tmp s, h => ⟨a.tmps.getD s undef, rfl, h.rep (hst.slot s)⟩
  | .cell s T, h => by
    have hs := hst.slot s
    show ∃ u, (do loadVar T (← asAddr (a.tmps.getD s undef)) : Sem Value).run C.P w = .ok u w ∧ _
    simp only [rvA, loadA] at h
    split at h
    · exact h.elim
    rename_i ty hT
    split at h
    · rename_i m f hd hx
      obtain ⟨hm, h⟩ := h
      rw [hx] at hs
      obtain ⟨ad, e, hc⟩ := hs
      obtain ⟨cs, hl, h1, h2⟩ := cells_list (w := w) (a := ad) (n := ty.size) (R := fun j y => (f j).Rep (Un E.N β O) w y) (fun j hj => (hc j (by omega)).2)
      refine ⟨.agg cs.toArray, ?_, h.rep (x := .agg ty.size f) ⟨cs.toArray, rfl, by simpa using hl, fun j hj => by simpa using h2 j hj⟩⟩
      rw [e]
      simp [asAddr, loadVar_of (run_load_agg (hst.ty hT) hd cs hl h1)]
    · rename_i t off hd hx
      split at h
      case h_2 => exact h.elim
      rename_i ob hob
      split at h
      case h_2 => exact h.elim
      rename_i f hf
      obtain ⟨hm, h⟩ := h
      rw [hx] at hs
      obtain ⟨ob', hob', _, _, e⟩ := hs
      obtain ⟨cs, hl, h1, h2⟩ := cells_list (w := w) (a := ⟨(β t).b, (β t).o + off, none⟩) (n := ty.size) (R := fun j y => (f j).Rep (Un E.N β O) w y) (fun j hj => by
        obtain ⟨u, hu, _, hr⟩ := hst.core.mem.cell hob (j := off + j) (by omega)
        rw [OC.plain_get hf j hj] at hr
        exact ⟨u, by rw [Addr.add_mid, Nat.add_assoc]; exact hu, hr⟩)
      refine ⟨.agg cs.toArray, ?_, h.rep (x := .agg ty.size f) ⟨cs.toArray, rfl, by simpa using hl, fun j hj => by simpa using h2 j hj⟩⟩
      rw [e]
      simp [asAddr, loadVar_of (run_load_agg (hst.ty hT) hd cs hl h1)]
    · rename_i m f hd hx
      obtain ⟨hm, h⟩ := h
      rw [hx] at hs
      obtain ⟨ad, e, hc⟩ := hs
      obtain ⟨_, y, hy, hr⟩ := hc 0 hm
      refine ⟨y, ?_, h.rep (x := .p (f 0)) hr⟩
      have hy' : w.cell? ad = some y := by simpa [Addr.add] using hy
      rw [e]
      simp [asAddr, loadVar_of (run_load_cell (hst.ty hT) hd hy')]
    · rename_i t off hd hx
      split at h
      case h_2 => exact h.elim
      rename_i ob hob
      obtain ⟨hm, h⟩ := h
      rw [hx] at hs
      obtain ⟨ob', hob', _, _, e⟩ := hs
      obtain ⟨u, hu, _, hr⟩ := hst.core.mem.cell hob hm
      refine ⟨u, ?_, h.rep hr⟩
      rw [e]
      simp [asAddr, loadVar_of (run_load_cell (hst.ty hT) hd hu)]
    · exact h.elim

theorem rvL_ok {C : Ctx} {E : Env} {β : Loc} {fr : Fr} {O : Hp} {a : Act} {w : World} (hst : St C E β fr O a w) : ∀ (rs : List ResultVar) (xs : List BV), rvL C fr O rs xs →
    ∃ us : List Value, us.length = rs.length ∧ xs.length = rs.length ∧ (∀ (i : Nat) (r : ResultVar), rs[i]? = some r → ∃ u, us[i]? = some u ∧ (rvS a.tmps r).run C.P w = .ok u w) ∧ ∀ (i : Nat) (x : BV), xs[i]? = some x → ∃ u, us[i]? = some u ∧ x.Rep (Un E.N β O) β O w u
  | [], [], _ => ⟨[], rfl, rfl, fun i r h => by simp at h, fun i x h => by simp at h⟩
  | r :: rs, x :: xs, h => by
    obtain ⟨u, h1, h2⟩ := rvA_ok hst r h.1
    obtain ⟨us, h3, h4, h5, h6⟩ := rvL_ok hst rs xs h.2
    refine ⟨u :: us, by simp [h3], by simp [h4], fun i r' hr => ?_, fun i x' hx => ?_⟩
    · cases i with
      | zero => simp at hr; subst hr; exact ⟨u, rfl, h1⟩
      | succ i => simpa using h5 i r' (by simpa using hr)
    · cases i with
      | zero => simp at hx; subst hx; exact ⟨u, rfl, h2⟩
      | succ i => simpa using h6 i x' (by simpa using hx)
  | [], _ :: _, h => h.elim
  | _ :: _, [], h => h.elim

theorem run_resultsC {fn : Func} {rvs : List ResultVar} (h : fn.results = rvs.toArray) (hl : rvs.length ≤ 4) (tmps : Array Value) (P : Program) (w : World) {us : List Value} (hu : us.length = rvs.length)
    (hr : ∀ (i : Nat) (r : ResultVar), rvs[i]? = some r → ∃ u, us[i]? = some u ∧ (rvS tmps r).run P w = .ok u w) :
    ∃ v, (results fn tmps).run P w = .ok v w ∧ ((∃ u, us = [u] ∧ v = u) ∨ ((∀ u, us ≠ [u]) ∧ v = .tuple us.toArray)) := by
  have e : results fn tmps = (do let vs ← fn.results.mapM (rvS tmps); pure (if h : vs.size = 1 then vs[0] else .tuple vs)) := rfl
  rw [e, h]
  rcases rvs with _ | ⟨a, _ | ⟨b, _ | ⟨c, _ | ⟨d, _ | ⟨f, r⟩⟩⟩⟩⟩
  · have : us = [] := List.eq_nil_of_length_eq_zero hu
    subst this
    exact ⟨.tuple #[], by simp, .inr ⟨by simp, rfl⟩⟩
  · obtain ⟨u, h0, h1⟩ := hr 0 a rfl
    match us, hu, h0 with
    | [u'], _, h0 =>
      simp at h0; subst h0
      exact ⟨u', by simp [h1], .inl ⟨u', rfl, rfl⟩⟩
  · obtain ⟨u, h0, h1⟩ := hr 0 a rfl
    obtain ⟨u2, h2, h3⟩ := hr 1 b rfl
    match us, hu, h0, h2 with
    | [x, y], _, h0, h2 =>
      simp at h0 h2; subst h0; subst h2
      exact ⟨.tuple #[x, y], by simp [h1, h3], .inr ⟨by simp, rfl⟩⟩
  · obtain ⟨u, h0, h1⟩ := hr 0 a rfl
    obtain ⟨u2, h2, h3⟩ := hr 1 b rfl
    obtain ⟨u3, h4, h5⟩ := hr 2 c rfl
    match us, hu, h0, h2, h4 with
    | [x, y, z], _, h0, h2, h4 =>
      simp at h0 h2 h4; subst h0; subst h2; subst h4
      exact ⟨.tuple #[x, y, z], by simp [h1, h3, h5], .inr ⟨by simp, rfl⟩⟩
  · obtain ⟨u, h0, h1⟩ := hr 0 a rfl
    obtain ⟨u2, h2, h3⟩ := hr 1 b rfl
    obtain ⟨u3, h4, h5⟩ := hr 2 c rfl
    obtain ⟨u4, h6, h7⟩ := hr 3 d rfl
    match us, hu, h0, h2, h4, h6 with
    | [x, y, z, t], _, h0, h2, h4, h6 =>
      simp at h0 h2 h4 h6; subst h0; subst h2; subst h4; subst h6
      exact ⟨.tuple #[x, y, z, t], by simp [h1, h3, h5, h7], .inr ⟨by simp, rfl⟩⟩
  · simp at hl

theorem resV_repC {U : Addr → Prop} {β : Loc} {O : Hp} {w : World} {rs : List BV} {us : List Value} {v : Value} (hlen : rs.length = us.length) (hrep : ∀ (j : Nat) (x : BV), rs[j]? = some x → ∃ u, us[j]? = some u ∧ x.Rep U β O w u)
    (hv : (∃ u, us = [u] ∧ v = u) ∨ ((∀ u, us ≠ [u]) ∧ v = .tuple us.toArray)) : (resV rs).Rep U β O w v := by
  rcases hv with ⟨s, rfl, rfl⟩ | ⟨hne, rfl⟩
  · match rs, hlen with
    | [x], _ =>
      obtain ⟨u, hu, hr⟩ := hrep 0 x rfl
      simp only [List.getElem?_cons_zero, Option.some.injEq] at hu
      subst hu
      exact hr
  · have : resV rs = .tup rs.length (fun j => rs.getD j .dead) := by
      match rs, hlen with
      | [], _ => rfl
      | [x], hlen =>
        match us, hlen with
        | [s], _ => exact absurd rfl (hne s)
      | _ :: _ :: _, _ => rfl
    rw [this]
    refine ⟨_, rfl, by simp [hlen], fun j hj => ?_⟩
    obtain ⟨u, hu, hr⟩ := hrep j (rs.getD j .dead) (by simp [List.getD_eq_getElem?_getD, List.getElem?_eq_getElem hj])
    exact ⟨u, by simpa using hu, hr⟩

/-- What is handed out, where results may lie in cells. -/
def retC (C : Ctx) (rvs : List ResultVar) (kk : List BV → Hp → Prop) (fr : Fr) (O : Hp) : Prop :=
  ∃ fr' O', subW fr O fr' O' ∧ ∃ (rs : List BV) (O2 : Hp) (σ : Nat → Nat), kk rs O2 ∧ rvL C fr' O' rvs (rs.map (BV.ren σ)) ∧ SubH σ O2 O' ∧ InjH σ O2 ∧ InnH O2 ∧ BV.innL O2 rs ∧ ∀ t, t ∈ C.pins → σ t = t
def retCQ (C : Ctx) (rvs : List ResultVar) (kk : List BV → Hp → Prop) : QA := fun e fr O =>
  match e with
  | .normal => retC C rvs kk fr O
  | .ret => retC C rvs kk fr O
  | _ => False

theorem FOK.ofC {P : Program} {gl : Nat → Option (Nat × (Nat → GV))} {ty : TypeId → Option Ty} (hgood : ∀ T t, ty T = some t → TyOK P T t) {f : FuncId} {fn : Func} {c : Code} {rvs : List ResultVar} {nt : Nat} {pins : List Nat} {sp : Spec}
    (hf : P.funcs[f]? = some fn) (hb : fn.body = some c) (hn : fn.ntmps = nt) (hname : (fn.name == "runtime.NumGoroutine") = false) (hres : fn.results = rvs.toArray) (hl6 : rvs.length ≤ 4)
    (h : ∀ xs O kk, (∀ (i : Nat) (y : BV), (∃ x, xs[i]? = some x ∧ x.le y) → y.lenOK) → sp xs O kk → xs.length ≤ nt ∧ ∃ fr, argS xs fr ∧ HT ⟨P, nt, ty, gl, pins⟩ c fr O (retCQ ⟨P, nt, ty, gl, pins⟩ rvs kk)) : FOK P gl f ⟨pins, sp⟩ := by
  refine ⟨fun args w => ?_, fun N ng β O w xs vals kk hN hng hgl hm hsz hrep hsp => ?_⟩
  · have hne : ¬ fn.name = "runtime.NumGoroutine" := by simpa using hname
    simp [callFunc, hf, hne, hb]
  · obtain ⟨hle, fr, harg, ht⟩ := h xs O kk (fun i y ⟨x, hx, hxy⟩ => by
      obtain ⟨u, _, hr⟩ := hrep i x hx
      exact BV.Rep.lenOK (hxy.rep hr)) hsp
    refine calls_of_wp hf hb ?_
    let E : Env := ⟨⟨P, nt, ty, gl, pins⟩, ng, N, Owns β O, w, β⟩
    have hst : St ⟨P, nt, ty, gl, pins⟩ E β fr O { tmps := vals ++ Array.replicate (fn.ntmps - vals.size) undef, defers := [] } w := by
      refine ⟨rfl, hgood, ⟨⟨hng, hN, fun g m f hg j hj => ?_⟩, hm, Keep.refl _ _, fun t ob ht a ha => .inl ⟨t, ob, ht, ha⟩, fun t _ => rfl⟩, rfl, by simp [hn]; omega, fun d => ?_⟩
      · obtain ⟨h1, h2, h3⟩ := hgl g m f hg j hj
        refine ⟨h1, h2, ?_, h3⟩
        rintro ⟨t, ob, ht, hre, hb, _⟩
        obtain ⟨cs, fr, _, _, _, h4, _⟩ := hm.obj t ob ht hre
        simp at hb
        show False
        have h5 : g < ng := h3
        omega
      · rcases argS_get harg d with e | ⟨x, hx, hle'⟩
        · rw [e]; trivial
        · obtain ⟨u, hu, hr⟩ := hrep d x hx
          have hget : (vals ++ Array.replicate (fn.ntmps - vals.size) undef).getD d undef = u := by
            have hlt : d < vals.size := (Array.getElem?_eq_some_iff.1 hu).1
            rw [Array.getD_eq_getD_getElem?, Array.getElem?_append_left hlt, hu]
            rfl
          show (Fr.get fr d).Rep _ _ _ w ((vals ++ Array.replicate (fn.ntmps - vals.size) undef).getD d undef)
          rw [hget]
          exact hle'.rep hr
    refine wp_mono (ht.run E β _ w hst) fun e a' w' hq => ?_
    obtain ⟨fr', O', β', hq, hst'⟩ := hq
    have hend : ∀ (fr' : Fr) (O' : Hp), St ⟨P, nt, ty, gl, pins⟩ E β' fr' O' a' w' → retC ⟨P, nt, ty, gl, pins⟩ rvs kk fr' O' → a'.defers = [] ∧ ∃ v, (results fn a'.tmps).run P w' = .ok v w' ∧ FPost N ng β O w pins kk (.returned v) w' := by
      rintro fr0 O0 hst0 ⟨fr', O', hsw, rs, O2, σ, hk, hrv, hsub, hinj, hinn, hinx, hpin⟩
      have hst' := hst0.subW hsw
      refine ⟨hst'.defers, ?_⟩
      obtain ⟨us, hu1, hu2, hu3, hu4⟩ := rvL_ok hst' rvs _ hrv
      obtain ⟨v, hv, hvv⟩ := run_resultsC (P := P) (w := w') hres hl6 a'.tmps hu1 hu3
      have hU : ∀ a, Un N (fun t => β' (σ t)) O2 a → Un N β' O' a := by
        rintro a (h1 | ⟨t, ob, h1, h2⟩)
        · exact .inl h1
        · exact .inr ⟨σ t, _, hsub t ob h1, OB.cov_ren.2 h2⟩
      refine ⟨v, hv, v, fun t => β' (σ t), O2, rs, rfl, hk, ?_, hst'.core.keep, fun t ht => ?_, fun t ob a ht ha => ?_, ?_⟩
      · have hm' := hst'.core.mem
        refine ⟨fun t ob ht => OB.wf_ren.1 (hm'.wf _ _ (hsub t ob ht)), fun t ob ht => by have := hm'.pos _ _ (hsub t ob ht); exact this, fun t ob ht hre => by have := hm'.obj0 _ _ (hsub t ob ht) hre; exact this, fun t ob ht hre => ?_, fun t ob t' ob' ht ht' hne a ha ha' => ?_, fun t ob ht a ha => ?_⟩
        · obtain ⟨cs, fr, h1, h2, h3, h4, h5⟩ := hm'.obj _ _ (hsub t ob ht) hre
          refine ⟨cs, fr, h1, h2, h3, h4, fun j hj => ?_⟩
          obtain ⟨u, hu, hr⟩ := h5 j hj
          refine ⟨u, hu, BV.Rep.unren hU hsub _ _ (OC.inn_getI (hinn t ob ht) j) ?_⟩
          rw [← OC.get_ren]; exact hr
        · exact hm'.disj _ _ _ _ (hsub t ob ht) (hsub t' ob' ht') (fun e => hne (hinj t ob t' ob' ht ht' e)) a (OB.cov_ren.2 ha) (OB.cov_ren.2 ha')
        · exact hm'.notN _ _ (hsub t ob ht) a (OB.cov_ren.2 ha)
      · show β' (σ t) = β t
        rw [hpin t ht]
        exact hst'.core.pins t ht
      · exact hst'.core.dom _ _ (hsub t ob ht) a (OB.cov_ren.2 ha)
      · refine resV_repC (us := us) (by rw [hu1, ← hu2]; simp) (fun j x hj => ?_) hvv
        obtain ⟨u, hu, hr⟩ := hu4 j (x.ren σ) (by rw [List.getElem?_map, hj]; rfl)
        exact ⟨u, hu, BV.Rep.unren hU hsub _ _ (BV.innL_mem hinx x (List.mem_of_getElem? hj)) hr⟩
    cases e with
    | normal => exact hend fr' O' hst' hq
    | ret => exact hend fr' O' hst' hq
    | _ => exact hq.elim

theorem FOK.ofEC {P : Program} {gl : Nat → Option (Nat × (Nat → GV))} {ty : TypeId → Option Ty} (hgood : ∀ T t, ty T = some t → TyOK P T t) {f : FuncId} {fn : Func} {c : Code} {rvs : List ResultVar} {nt : Nat} {pins : List Nat}
    {α : Type} {argE : α → List BV} {hin : α → Hp} {pre : α → Prop} {res : α → List BV} {hp : α → Hp}
    (hf : P.funcs[f]? = some fn) (hb : fn.body = some c) (hn : fn.ntmps = nt) (hname : (fn.name == "runtime.NumGoroutine") = false) (hres : fn.results = rvs.toArray) (hl6 : rvs.length ≤ 4) (ar : Nat) (har : ∀ a, (argE a).length = ar) (hnt : ar ≤ nt)
    (hinn : ∀ a, BV.innL (hin a) (argE a))
    (h : ∀ a kk, lenL (argE a) → pre a → kk (res a) (hp a) → HT ⟨P, nt, ty, gl, pins⟩ c (numb 0 (argE a)) (hin a) (retCQ ⟨P, nt, ty, gl, pins⟩ rvs kk)) : FOK P gl f ⟨pins, mkE argE hin pre res hp⟩ := by
  refine FOK.ofC hgood hf hb hn hname hres hl6 ?_
  rintro xs O kk hlen ⟨a, hle, hh, hpre, hk⟩
  obtain ⟨h1, h2⟩ := leL_get hle
  refine ⟨by have := har a; omega, numb 0 (argE a), numb_argS fun j y hy => by simpa using h2 j y hy, ?_⟩
  refine HT.subW ⟨numb_frW (fun j y hy => ?_) (hinn a), hh⟩ (h a kk (lenL_of fun i y hy => hlen i y (h2 i y hy)) hpre hk)
  exact numb_get hy
/-- Handed out. -/
theorem retC_ok {C : Ctx} {rvs : List ResultVar} {kk : List BV → Hp → Prop} {rs : List BV} {O2 : Hp} {fr : Fr} {O : Hp} (σ : Nat → Nat) (fr' : Fr) (O' : Hp) (h : kk rs O2) (hw : subW fr O fr' O') (hrv : rvL C fr' O' rvs (rs.map (BV.ren σ))) (hsub : SubL σ O2 O') (hnd : nd ((doms O2).map σ) = true) (hinn : InnL O2 O2) (hinx : BV.innL O2 rs)
    (hp : C.pins.all (fun t => σ t == t) = true) : retC C rvs kk fr O :=
  ⟨fr', O', hw, rs, O2, σ, h, hrv, hsub.subH, nd_inj hnd, hinn.get, hinx, fun t ht => by simpa using List.all_eq_true.1 hp t ht⟩
end Go.Vc

/- Vc, S5: new variables, structs and arrays, as steps. -/
set_option linter.unusedVariables false
namespace Go.Vc
open Go

section
variable {C : Ctx} {S : FuncId → Option Sp} {fr : Fr} {O : Hp} {k : OpK} {T : TypeId}
theorem pinL_not {k0 : Nat} {l : List Nat} (h : pinL k0 l) : k0 ∉ l := fun hm => Nat.lt_irrefl _ (pinL_spec h k0 hm)

theorem A.alloc {d : TyD} {n b : Nat} {z : Nat → Value} (k0 s : Nat) (hT : C.ty T = some ⟨d, n, b, some z⟩) (hk : fresh O = k0) (hp : pinL k0 C.pins) {f : Nat → PV} (hf : ∀ j, j < n → cst (z j) = f j)
    (h : k fr (.ptr k0 0) ((k0, ⟨T, s, n, true, .rows f⟩) :: O)) : opA C S (.alloc T) fr O k := by
  subst hk
  show allocA C fr O T k
  simp only [allocA, hT]
  exact ⟨s, .rows f, trivial, fun j hj => by rw [hf j hj]; rfl, pinL_not hp, h⟩
theorem A.alloc1 {d : TyD} {n b : Nat} {z : Nat → Value} (k0 : Nat) {x : PV} (hT : C.ty T = some ⟨d, n, b, some z⟩) (hn : n = 1) (hk : fresh O = k0) (hp : pinL k0 C.pins) (hx : cst (z 0) = x)
    (h : k fr (.ptr k0 0) ((k0, ⟨T, 1, 1, true, .cells [.p x]⟩) :: O)) : opA C S (.alloc T) fr O k := by
  subst hk; subst hn
  show allocA C fr O T k
  simp only [allocA, hT]
  exact ⟨1, .cells [.p x], rfl, fun j hj => by
    have : j = 0 := by omega
    subst this
    rw [hx]; rfl, pinL_not hp, h⟩
theorem A.boxAg {x : Operand} {n : Nat} {f : Nat → PV} (k0 s : Nat) (hx : Fr.ev C fr x = .agg n f) (hl : ∀ j, j < n → (BV.p (f j)).one) (hk : fresh O = k0) (hp : pinL k0 C.pins)
    (h : k fr (.ptr k0 0) ((k0, ⟨T, s, n, true, .rows f⟩) :: O)) : opA C S (.box T x) fr O k := by
  subst hk
  show boxA C fr O T (Fr.ev C fr x) k
  rw [hx]
  exact ⟨hl, s, .rows f, trivial, fun j hj => rfl, pinL_not hp, h⟩
theorem A.box1 {x : Operand} {v : BV} (k0 : Nat) (hx : Fr.ev C fr x = v) (hl : v.one) (hc : cellsB v = (1, fun _ => v)) (hk : fresh O = k0) (hp : pinL k0 C.pins)
    (h : k fr (.ptr k0 0) ((k0, ⟨T, 1, 1, true, .cells [v]⟩) :: O)) : opA C S (.box T x) fr O k := by
  subst hk
  show boxA C fr O T (Fr.ev C fr x) k
  rw [hx]
  refine ⟨?_, 1, .cells [v], by rw [hc]; rfl, fun j hj => ?_, pinL_not hp, by rw [hc]; exact h⟩
  · cases v <;> first | exact hl | exact hl.elim
  · rw [hc] at hj ⊢
    have : j = 0 := by simp at hj; omega
    subst this
    rfl
theorem A.bld0 {d : TyD} {n b : Nat} {z : Nat → Value} {ps : Array (Nat × Operand)} (hT : C.ty T = some ⟨d, n, b, some z⟩) (hps : ps.toList = []) {e : Nat} {a s : Nat} (hd : d = .array a e) {bb : Bool} (he : elt C e = some (bb, s)) {f : Nat → PV} (hf : ∀ j, j < n → cst (z j) = f j)
    (h : k fr (.agg n f) O) : opA C S (.build T ps) fr O k := by
  show bldA C fr O T ps.toList k
  subst hd
  simp only [bldA, hT, hps, List.map_nil, frzL, evs, layL]
  refine ⟨trivial, zeroF z, ?_, f, fun j hj => by unfold zeroF; rw [hf j hj], h⟩
  simp only [bldF, he]
  rfl
theorem A.stoAg {p x : Operand} {d : TyD} {n m b t E s : Nat} {w : Bool} {c : OC} {z : Option (Nat → Value)} {f : Nat → PV} {O' : Hp} (hT : C.ty T = some ⟨d, n, b, z⟩) (hp : Fr.ev C fr p = .ptr t 0) (hx : Fr.ev C fr x = .agg n f) (hn : 0 < n) (hone : ∀ j, j < n → (BV.p (f j)).one)
    (hO : Hp.get O t = some ⟨E, s, m, w, c⟩) (hm : m = n) (hO' : Hp.set O t ⟨E, s, m, w, .rows f⟩ = O') (h : k fr .dead O') : opA C S (.store T p x) fr O k := by
  subst hm; subst hO'
  refine Or.inr ?_
  show stoB C O T _ _ (fun O' => k fr .dead O')
  simp only [stoB, hT, hp, hx]
  refine ⟨trivial, hn, hone, _, .rows f, hO, by simp, trivial, fun j hj => ?_, h⟩
  have hj' : j < m := hj
  rw [if_pos (by omega)]
  rfl
theorem rvA_cell {s T : Nat} {d : TyD} {n b t off : Nat} {z : Option (Nat → Value)} {ob : OB} {f : Nat → PV} {x : BV} (hT : C.ty T = some ⟨d, n, b, z⟩) (hagg : d.agg = true) (hx : Fr.get fr s = .ptr t off) (hO : Hp.get O t = some ob) (hpl : ob.c.plain off n = some f) (hle : off + n ≤ ob.n)
    (h : (BV.agg n f).le x) : rvA C fr O x (.cell s T) := by
  show loadA C O T (Fr.get fr s) fun y => y.le x
  simp only [loadA, hT, hx, hagg, hO, hpl]
  exact ⟨hle, h⟩
theorem le_agg0 {n : Nat} {f : Nat → PV} : (BV.agg n (fun j => f (0 + j))).le (.agg n f) := le_agg (fun j _ => by rw [Nat.zero_add])
theorem V.ixV1 {kk : BV → Prop} {x y : Operand} {m e n mi : Nat} {z : Option (Nat → Value)} {s1 s2 : Nat} {te : Ty} {f : Nat → PV} {i : Int} {v : PV} (hT : C.ty T = some ⟨.array m e, s1, s2, z⟩) (he : C.ty e = some te) (hs : te.size = 1) (hd : te.d.agg = false) (hx : Fr.ev C fr x = .agg n f) (hy : Fr.ev C fr y = .p (.v (.int .i64 i)))
    (hi : 0 ≤ i ∧ i < m) (hmn : m ≤ n) (hmi : i.toNat = mi) (hv : f mi = v) (h : kk (.p v)) : valA C S (.index T x y) fr O kk :=
  V.ixV hT he hd hx hy hi (by rw [hs]; omega) (by rw [hs, Nat.mul_one, hmi]; exact hv) h
end
end Go.Vc

/- Vc, S6: arrays of numbers compared. -/
set_option linter.unusedVariables false
namespace Go.Vc
open Go
section
variable {C : Ctx} {S : FuncId → Option Sp} {fr : Fr} {O : Hp} {kk : BV → Prop} {x y : Operand} {T T' e : TypeId}
theorem V.eqArr {k : IntKind} {n b1 s1 s2 m m' : Nat} {z1 z : Option (Nat → Value)} {f g : Nat → PV} (hT : C.ty T = some ⟨.array n e, s1, s2, z⟩) (he : C.ty e = some ⟨.int k, 1, b1, z1⟩) (hx : Fr.ev C fr x = .agg m f) (hy : Fr.ev C fr y = .agg m' g) (hm : m = n) (hm' : m' = n)
    (hG : C.P.eqGuardType C.P.depth T = false) (hI : ∀ j, j < n → (f j).isI k = true ∧ (g j).isI k = true) {b : Bool} (hb : decide (∀ j, j < n → (f j).toI.getD 0 = (g j).toI.getD 0) = b) (h : kk (.p (.v (.bool b)))) : valA C S (.binOp .eql T x y T') fr O kk := by
  simp only [valA, hx, hy, binD, binPP, eqDD, eqD, hT, Option.map_some, arrVC, he, hb]
  exact ⟨⟨hm, hm', hG, hI⟩, h⟩
theorem V.neArr {k : IntKind} {n b1 s1 s2 m m' : Nat} {z1 z : Option (Nat → Value)} {f g : Nat → PV} (hT : C.ty T = some ⟨.array n e, s1, s2, z⟩) (he : C.ty e = some ⟨.int k, 1, b1, z1⟩) (hx : Fr.ev C fr x = .agg m f) (hy : Fr.ev C fr y = .agg m' g) (hm : m = n) (hm' : m' = n)
    (hG : C.P.eqGuardType C.P.depth T = false) (hI : ∀ j, j < n → (f j).isI k = true ∧ (g j).isI k = true) {b : Bool} (hb : decide (∀ j, j < n → (f j).toI.getD 0 = (g j).toI.getD 0) = b) (h : kk (.p (.v (.bool !b)))) : valA C S (.binOp .neq T x y T') fr O kk := by
  simp only [valA, hx, hy, binD, binPP, eqDD, eqD, hT, Option.map_some, arrVC, he, hb]
  exact ⟨⟨hm, hm', hG, hI⟩, h⟩
theorem V.eqPtr {e1 s1 s2 : Nat} {z : Option (Nat → Value)} {a c : BV} {b : Bool} (hT : C.ty T = some ⟨.pointer e1, s1, s2, z⟩) (hx : Fr.ev C fr x = a) (hy : Fr.ev C fr y = c) (hp : binPP .eql a c = none) (hb : ptrQ a c = some b) (h : kk (.p (.v (.bool b)))) : valA C S (.binOp .eql T x y T') fr O kk := by
  simp only [valA, hx, hy, binD, hp, eqDD, eqD, hT, Option.map_some, hb]
  exact ⟨trivial, h⟩
theorem V.nePtr {e1 s1 s2 : Nat} {z : Option (Nat → Value)} {a c : BV} {b : Bool} (hT : C.ty T = some ⟨.pointer e1, s1, s2, z⟩) (hx : Fr.ev C fr x = a) (hy : Fr.ev C fr y = c) (hp : binPP .neq a c = none) (hb : ptrQ a c = some b) (h : kk (.p (.v (.bool !b)))) : valA C S (.binOp .neq T x y T') fr O kk := by
  simp only [valA, hx, hy, binD, hp, eqDD, eqD, hT, Option.map_some, hb]
  exact ⟨trivial, h⟩
theorem V.ixArrP10 {mi e n : Nat} {z : Option (Nat → Value)} {s1 s2 : Nat} {te : Ty} {t : Nat} {ob : OB} {i : Int} (hT : C.ty T = some ⟨.array n e, s1, s2, z⟩) (he : C.ty e = some te) (hs : te.size = 1) (hx : Fr.ev C fr x = .ptr t 0) (hO : Hp.get O t = some ob) (hm : n ≤ ob.n) (hy : Fr.ev C fr y = .p (.v (.int .i64 i))) (hi : 0 ≤ i ∧ i < n) (hmi : i.toNat = mi) (h : kk (.ptr t mi)) : valA C S (.indexAddr T x y) fr O kk := by
  refine V.ixArrP hT he hx hO (by rw [hs]; omega) hy hi ?_
  rw [hs, hmi, Nat.mul_one, Nat.zero_add]
  exact h
theorem V.pb {b : Builtin} {args : Array Operand} {ats : Array TypeId} {ps : List PV} {r : PV} (hne : b ≠ .len) (hp : pvL (args.toList.map (Fr.ev C fr)) = some ps) (hr : pbP b ps = some r) (h : kk (.p r)) : valA C S (.call ⟨.builtin b, args, ats⟩) fr O kk := by
  have h2 : pbA C fr b args.toList kk := by
    unfold pbA
    simp only [hp, hr]
    exact h
  cases b <;> first | exact absurd rfl hne | exact h2
end
end Go.Vc

/- Vc, L: a law's statement out of its contract: what comes in, read; the answer; what was there reads as it did. -/
namespace Go.Vc
open Go Go.RowKit Go.WideShapes Go.ChangeShapes

section
variable {H : Type} {enc : TypeId × Value → H} {P : Program}

theorem post_below {f : Func} {s : ChangeSpec} {apart fresh handsOn again : Bool} {W W' : World} {args : Array Value} {v : Value} {ds gs : List (DataW H)} {before pa pv : List MemPlace}
    (hW : DataW.Whole enc P f.params.toList s.vars apart W args.toList ds gs before)
    (hres : ∀ (b : Nat) (sp : Nat → Bool) (hd : Bool), DataW.TrodAll enc P W' b sp hd f.resultTypes.toList (v.resultList f.resultTypes.size) (s.fn H (ds ++ gs)).results [])
    (hargs : ∀ sp : Nat → Bool, (∀ p ∈ before, sp p.block = true) → DataW.TrodAll enc P W' 0 sp true f.params.toList args.toList (s.fn H (ds ++ gs)).args pa)
    (hvars : ∀ sp : Nat → Bool, (∀ p ∈ before, sp p.block = true) → DataW.TrodVars enc P W' sp s.vars (s.fn H (ds ++ gs)).vars pv)
    (hps : before = pa ++ pv) (hb : Below W.heap.size W W')
    (hok : ∀ (j : Nat) (t : TypeId) (r : Value), f.resultTypes[j]? = some t → (v.resultList f.resultTypes.size)[j]? = some r → Value.okWide P W' .any 0 t r) :
    s.post enc P f apart fresh handsOn again W args v W' := by
  have hlt : ∀ p ∈ before, p.block < W.heap.size := fun p hp => hW.lt p hp
  have hold : ∀ p ∈ before, (fun b => decide (b < W.heap.size)) p.block = true := fun p hp => by simpa using hlt p hp
  refine ⟨ds, gs, before, [], pa, pv, hW, hres _ _ _, hargs _ hold, hvars _ hold, World.keptBut_mono (fun p hp => ⟨hp, ?_⟩) (hb.frame (· ∈ before)), fun _ => ?_⟩
  · rw [hps, List.mem_append] at hp
    exact Or.inr hp
  · obtain ⟨_, _, _, _, _, hz, hn⟩ := hW
    refine ⟨hok, _, _, ([] ++ pa) ++ pv, ⟨[] ++ pa, pv, trodAll_append (hargs _ (fun _ _ => rfl)) (hres _ _ _), hvars _ (fun _ _ => rfl), rfl, ?_, ?_⟩, ?_⟩
    · intro b off hp
      have hin : MemPlace.cell b off ∈ before := by rw [hps]; simpa using hp
      rw [hb.frozen (hlt _ hin)]
      exact hz b off hin
    · intro ha
      have := hn ha
      rw [hps] at this
      simpa using this
    · intro p hp _
      rw [hps]
      simpa using hp

theorem Below.trodS {t : TypeId} (hl : laidOutB P = true) (hr : P.readableRec t = true) (hrow : t < P.types.size) {W W' : World} {v : Value} {d : DataW H} {ps : List MemPlace}
    (h : DataW.Trod enc P W 0 (fun _ => true) true t v d ps) (hb : Below W.heap.size W W') (hlt : ∀ x ∈ ps, x.block < W.heap.size) (sp : Nat → Bool) (hs : ∀ x ∈ ps, sp x.block = true) :
    DataW.Trod enc P W' 0 sp true t v d ps :=
  WideElems.Trod_stays hl hr hrow h (fun x hx => hb.same (hlt x hx)) hs

theorem Below.trodAllS (hl : laidOutB P = true) {W W' : World} (hb : Below W.heap.size W W') (sp : Nat → Bool) :
    ∀ {ts : List TypeId} {vs : List Value} {ds : List (DataW H)} {ps : List MemPlace}, (∀ t ∈ ts, P.readableRec t = true ∧ t < P.types.size) → (∀ x ∈ ps, x.block < W.heap.size) → (∀ x ∈ ps, sp x.block = true) →
    DataW.TrodAll enc P W 0 (fun _ => true) true ts vs ds ps → DataW.TrodAll enc P W' 0 sp true ts vs ds ps
  | [], [], [], _, _, _, _, h => h
  | _ :: _, _ :: _, _ :: _, _, hT, hlt, hs, ⟨p, q, h1, h2, e⟩ =>
    ⟨p, q, Below.trodS hl (hT _ (List.mem_cons.2 (Or.inl rfl))).1 (hT _ (List.mem_cons.2 (Or.inl rfl))).2 h1 hb (fun x hx => hlt x (by rw [e]; exact List.mem_append_left _ hx)) sp (fun x hx => hs x (by rw [e]; exact List.mem_append_left _ hx)),
      Below.trodAllS hl hb sp (fun t ht => hT t (List.mem_cons.2 (Or.inr ht))) (fun x hx => hlt x (by rw [e]; exact List.mem_append_right _ hx)) (fun x hx => hs x (by rw [e]; exact List.mem_append_right _ hx)) h2, e⟩
  | [], _ :: _, _, _, _, _, _, h => h.elim
  | [], [], _ :: _, _, _, _, _, h => h.elim
  | _ :: _, [], _, _, _, _, _, h => h.elim
  | _ :: _, _ :: _, [], _, _, _, _, h => h.elim

/-- The laws' own answer: true, and what came in as it was. -/
theorem law_post {f : Func} {s : ChangeSpec} {apart fresh handsOn again : Bool} {W W' : World} {args : Array Value} {ds gs : List (DataW H)} {before : List MemPlace} {tb : TypeId}
    (hl : laidOutB P = true) (hT : ∀ t ∈ f.params.toList, P.readableRec t = true ∧ t < P.types.size) (hrt : f.resultTypes = #[tb]) (hub : P.underlying tb = some .bool) (hv : s.vars = [])
    (hfn : (s.fn H (ds ++ gs)) = ⟨[.lit (.bool true)], ds ++ gs, []⟩)
    (hW : DataW.Whole enc P f.params.toList s.vars apart W args.toList ds gs before) (hb : Below W.heap.size W W') :
    s.post enc P f apart fresh handsOn again W args (.bool true) W' := by
  have hW' := hW
  obtain ⟨p, q, hA, hV, rfl, _, _⟩ := hW
  rw [hv] at hV
  obtain ⟨rfl, rfl⟩ := trodVars_none hV
  refine post_below (pa := p) (pv := []) hW' ?_ ?_ ?_ rfl hb ?_
  · intro b sp hd
    rw [hfn, hrt]
    exact trodAll_mk1 (shut_bool hub _)
  · intro sp hs
    rw [hfn]
    simp only [List.append_nil] at hs ⊢
    exact Below.trodAllS hl hb sp hT (fun x hx => by simpa using hW'.lt x (by simpa using hx)) hs hA
  · intro sp hs
    rw [hfn, hv]
    rfl
  · exact ok_one hrt rfl (okWide_bool_mk hub true)

theorem trodAll_five5 {w : World} {base : Nat} {spare : Nat → Bool} {held : Bool} {t0 t1 t2 t3 t4 : TypeId} {args : Array Value} {ds : List (DataW H)} {ps : List MemPlace} (h : DataW.TrodAll enc P w base spare held [t0, t1, t2, t3, t4] args.toList ds ps) :
    ∃ v0 v1 v2 v3 v4 d0 d1 d2 d3 d4 p0 p1 p2 p3 p4, args = #[v0, v1, v2, v3, v4] ∧ ds = [d0, d1, d2, d3, d4] ∧ ps = p0 ++ (p1 ++ (p2 ++ (p3 ++ p4))) ∧ DataW.Trod enc P w base spare held t0 v0 d0 p0 ∧ DataW.Trod enc P w base spare held t1 v1 d1 p1 ∧ DataW.Trod enc P w base spare held t2 v2 d2 p2 ∧
      DataW.Trod enc P w base spare held t3 v3 d3 p3 ∧ DataW.Trod enc P w base spare held t4 v4 d4 p4 := by
  obtain ⟨v0, vs0, d0, ds0, p0, q0, h0, rfl, rfl, r0, h⟩ := trodAll_cons h
  obtain ⟨v1, vs1, d1, ds1, p1, q1, rfl, rfl, rfl, r1, h⟩ := trodAll_cons h
  obtain ⟨v2, vs2, d2, ds2, p2, q2, rfl, rfl, rfl, r2, h⟩ := trodAll_cons h
  obtain ⟨v3, vs3, d3, ds3, p3, q3, rfl, rfl, rfl, r3, h⟩ := trodAll_cons h
  obtain ⟨v4, vs4, d4, ds4, p4, q4, rfl, rfl, rfl, r4, h⟩ := trodAll_cons h
  obtain ⟨rfl, rfl, rfl⟩ := trodAll_nil h
  exact ⟨v0, v1, v2, v3, v4, d0, d1, d2, d3, d4, p0, p1, p2, p3, p4, by cases args; simp_all, rfl, by simp, r0, r1, r2, r3, r4⟩
theorem trodAll_six6 {w : World} {base : Nat} {spare : Nat → Bool} {held : Bool} {t0 t1 t2 t3 t4 t5 : TypeId} {args : Array Value} {ds : List (DataW H)} {ps : List MemPlace} (h : DataW.TrodAll enc P w base spare held [t0, t1, t2, t3, t4, t5] args.toList ds ps) :
    ∃ v0 v1 v2 v3 v4 v5 d0 d1 d2 d3 d4 d5 p0 p1 p2 p3 p4 p5, args = #[v0, v1, v2, v3, v4, v5] ∧ ds = [d0, d1, d2, d3, d4, d5] ∧ ps = p0 ++ (p1 ++ (p2 ++ (p3 ++ (p4 ++ p5)))) ∧ DataW.Trod enc P w base spare held t0 v0 d0 p0 ∧ DataW.Trod enc P w base spare held t1 v1 d1 p1 ∧ DataW.Trod enc P w base spare held t2 v2 d2 p2 ∧
      DataW.Trod enc P w base spare held t3 v3 d3 p3 ∧ DataW.Trod enc P w base spare held t4 v4 d4 p4 ∧ DataW.Trod enc P w base spare held t5 v5 d5 p5 := by
  obtain ⟨v0, vs0, d0, ds0, p0, q0, h0, rfl, rfl, r0, h⟩ := trodAll_cons h
  obtain ⟨v1, vs1, d1, ds1, p1, q1, rfl, rfl, rfl, r1, h⟩ := trodAll_cons h
  obtain ⟨v2, vs2, d2, ds2, p2, q2, rfl, rfl, rfl, r2, h⟩ := trodAll_cons h
  obtain ⟨v3, vs3, d3, ds3, p3, q3, rfl, rfl, rfl, r3, h⟩ := trodAll_cons h
  obtain ⟨v4, vs4, d4, ds4, p4, q4, rfl, rfl, rfl, r4, h⟩ := trodAll_cons h
  obtain ⟨v5, vs5, d5, ds5, p5, q5, rfl, rfl, rfl, r5, h⟩ := trodAll_cons h
  obtain ⟨rfl, rfl, rfl⟩ := trodAll_nil h
  exact ⟨v0, v1, v2, v3, v4, v5, d0, d1, d2, d3, d4, d5, p0, p1, p2, p3, p4, p5, by cases args; simp_all, rfl, by simp, r0, r1, r2, r3, r4, r5⟩

/-! ### What comes in -/
variable {w : World} {base : Nat} {spare : Nat → Bool} {held : Bool} {U : Addr → Prop}

theorem rd_bool {r : Reach} {b0 : Nat} {t : TypeId} {v : Value} {d : DataW H} {ps : List MemPlace} (ht : P.underlying t = some .bool) (hval : Value.okWide P w r b0 t v) (hd : DataW.Trod enc P w base spare held t v d ps) :
    ∃ b, (BV.p (.v (.bool b))).Rep U noLoc [] w v := by
  obtain ⟨b, rfl, _⟩ := open_bool ht hval hd
  exact ⟨b, rfl⟩
theorem rd_int {r : Reach} {b0 : Nat} {t : TypeId} {k : IntKind} {v : Value} {d : DataW H} {ps : List MemPlace} (ht : P.underlying t = some (.int k)) (hval : Value.okWide P w r b0 t v) (hd : DataW.Trod enc P w base spare held t v d ps) :
    ∃ n, (Lit.int k n).wf = true ∧ (BV.p (.v (.int k n))).Rep U noLoc [] w v := by
  obtain ⟨n, rfl, _, _, h⟩ := open_int ht hval hd
  exact ⟨n, h, rfl⟩

theorem wf_u8 {n : Int} (h : (Lit.int .u8 n).wf = true) : ((UInt8.ofNat n.toNat).toNat : Int) = n := by
  have := range_u8 (zs := [n]) (fun x hx => by simp at hx; subst hx; exact h) 0
  simp at this
  simp only [UInt8.toNat_ofNat']
  omega

theorem rd_u8 {r : Reach} {b0 : Nat} {t : TypeId} {v : Value} {d : DataW H} {ps : List MemPlace} (ht : P.underlying t = some (.int .u8)) (hval : Value.okWide P w r b0 t v) (hd : DataW.Trod enc P w base spare held t v d ps) :
    ∃ n : UInt8, (BV.p (.u8 n)).Rep U noLoc [] w v := by
  obtain ⟨n, rfl, _, _, h⟩ := open_int ht hval hd
  have h2 : 0 ≤ n ∧ n < 256 := by
    simp only [Lit.wf, IntKind.min, IntKind.max, IntKind.signed, IntKind.bits, Bool.and_eq_true, decide_eq_true_eq] at h
    simp at h
    omega
  refine ⟨UInt8.ofNat n.toNat, ?_⟩
  show _ = _
  simp only [UInt8.toNat_ofNat']
  congr 1
  omega
theorem rd_u32 {r : Reach} {b0 : Nat} {t : TypeId} {v : Value} {d : DataW H} {ps : List MemPlace} (ht : P.underlying t = some (.int .u32)) (hval : Value.okWide P w r b0 t v) (hd : DataW.Trod enc P w base spare held t v d ps) :
    ∃ n : UInt32, (BV.p (.u32 n)).Rep U noLoc [] w v := by
  obtain ⟨n, rfl, _, _, h⟩ := open_int ht hval hd
  have h2 : 0 ≤ n ∧ n < 4294967296 := by
    simp only [Lit.wf, IntKind.min, IntKind.max, IntKind.signed, IntKind.bits, Bool.and_eq_true, decide_eq_true_eq] at h
    simp at h
    omega
  refine ⟨UInt32.ofNat n.toNat, ?_⟩
  show _ = _
  simp only [UInt32.toNat_ofNat']
  congr 1
  omega
theorem rd_u64 {r : Reach} {b0 : Nat} {t : TypeId} {v : Value} {d : DataW H} {ps : List MemPlace} (ht : P.underlying t = some (.int .u64)) (hval : Value.okWide P w r b0 t v) (hd : DataW.Trod enc P w base spare held t v d ps) :
    ∃ n : UInt64, (BV.p (.u64 n)).Rep U noLoc [] w v := by
  obtain ⟨n, rfl, _, _, h⟩ := open_int ht hval hd
  have h2 : 0 ≤ n ∧ n < 18446744073709551616 := by
    simp only [Lit.wf, IntKind.min, IntKind.max, IntKind.signed, IntKind.bits, Bool.and_eq_true, decide_eq_true_eq] at h
    simp at h
    omega
  refine ⟨UInt64.ofNat n.toNat, ?_⟩
  show _ = _
  simp only [UInt64.toNat_ofNat']
  congr 1
  omega

/-- One cell of a byte. -/
theorem cell_u8 {t : TypeId} {n : Nat} {y : Value} {x : DataW H × List MemPlace} (ht : P.underlying t = some (.int .u8)) (h : DataW.trod enc P w base spare held n t [y] = some x) : ∃ b : UInt8, (PV.u8 b).Rep U w y := by
  obtain ⟨n, h, hx, hw⟩ := DataW.trod_int ht h
  simp at h
  subst h
  exact ⟨UInt8.ofNat n.toNat, by show _ = _; rw [wf_u8 hw]⟩
theorem cell_str {t : TypeId} {n : Nat} {y : Value} {x : DataW H × List MemPlace} (ht : P.underlying t = some .string) (h : DataW.trod enc P w base spare held n t [y] = some x) : ∃ l : List UInt8, l.length ≤ maxLen ∧ (PV.str l).Rep U w y := by
  obtain ⟨s, h, hx, hw⟩ := DataW.trod_string ht h
  simp at h
  subst h
  exact ⟨s.data.toList, by simpa using hw, by show _ = _; simp⟩

/-- A slice whose elements are a cell each. -/
theorem cell_sl {α : Type} [Inhabited α] {t e : TypeId} {n : Nat} {y : Value} {x : DataW H × List MemPlace} {emb : α → PV} (ht : P.underlying t = some (.slice e)) (hc : P.cellsOf e = 1)
    (he : ∀ n y x, DataW.trod enc P w base spare held n e [y] = some x → ∃ a : α, (emb a).Rep U w y)
    (h : DataW.trod enc P w base spare held n t [y] = some x) : ∃ L : List α, L.length ≤ maxLen ∧ ∃ A c, y = Value.slice A L.length c ∧ L.length ≤ c ∧ ∀ j, j < L.length → ∃ a z, A = some a ∧ w.cell? (a.add j) = some z ∧ (emb (L.getD j default)).Rep U w z := by
  rcases Go.Deep.open_slice1 ht hc h with ⟨hy, _⟩ | ⟨a, len, cap, m, n', V, D, Pl, hy, _, hl, hm, hmm, _, hx⟩
  · simp at hy
    subst hy
    exact ⟨[], Nat.zero_le _, none, 0, rfl, Nat.le_refl _, fun j hj => by simp at hj⟩
  · simp at hy
    subst hy
    have hlm : len ≤ m := by rw [hmm]; split <;> omega
    have hex : ∀ i, ∃ b : α, i < len → (emb b).Rep U w (V i) := fun i => by
      by_cases hi : i < len
      · obtain ⟨b, hb⟩ := he _ _ _ (hx i (by omega)).2
        exact ⟨b, fun _ => hb⟩
      · exact ⟨default, fun h => absurd h hi⟩
    obtain ⟨g, hg⟩ := Classical.axiomOfChoice hex
    refine ⟨(List.range len).map g, by simp; omega, some a, cap, by simp, by simpa using hl, fun j hj => ?_⟩
    have hj' : j < len := by simpa using hj
    refine ⟨a, V j, rfl, (hx j (by omega)).1, ?_⟩
    have : ((List.range len).map g).getD j default = g j := by simp [List.getD, hj']
    rw [this]
    exact hg j hj'
theorem cell_bs {t e : TypeId} {n : Nat} {y : Value} {x : DataW H × List MemPlace} (hU : ∀ a, ¬ U a) (ht : P.underlying t = some (.slice e)) (he : P.underlying e = some (.int .u8)) (hc : P.cellsOf e = 1)
    (h : DataW.trod enc P w base spare held n t [y] = some x) : ∃ l : List UInt8, (PV.bs l).Rep U w y := by
  obtain ⟨L, hL, A, c, rfl, hcc, hx⟩ := cell_sl (U := U) (emb := PV.u8) ht hc (fun n y x h => cell_u8 he h) h
  refine ⟨L, hL, A, c, rfl, hcc, fun j hj => ?_⟩
  obtain ⟨a, z, rfl, hz, hr⟩ := hx j hj
  have hr' : z = .int .u8 ((L.getD j 0).toNat : Int) := hr
  exact ⟨a, rfl, hU _, by rw [hz, hr']⟩
theorem cell_rows {α : Type} [Inhabited α] {t e : TypeId} {n : Nat} {y : Value} {x : DataW H × List MemPlace} {emb : α → PV} (hU : ∀ a, ¬ U a) (ht : P.underlying t = some (.slice e)) (hc : P.cellsOf e = 1)
    (he : ∀ n y x, DataW.trod enc P w base spare held n e [y] = some x → ∃ a : α, (emb a).Rep U w y)
    (h : DataW.trod enc P w base spare held n t [y] = some x) : ∃ L : List α, (PV.sl L.length 1 (fun j => emb (L.getD j default))).Rep U w y := by
  obtain ⟨L, hL, A, c, rfl, hcc, hx⟩ := cell_sl (U := U) (emb := emb) ht hc he h
  refine ⟨L, hL, A, c, rfl, hcc, fun j hj => ?_⟩
  obtain ⟨a, z, rfl, hz, hr⟩ := hx j (by omega)
  exact ⟨a, z, rfl, hU _, hz, hr⟩

theorem cells_slice {A : Option Addr} {n c : Nat} : (Value.slice A n c).cells.toList = [Value.slice A n c] := rfl
theorem rd_sl {r : Reach} {b0 : Nat} {t e : TypeId} {v : Value} {d : DataW H} {ps : List MemPlace} (ht : P.underlying t = some (.slice e)) (hval : Value.okWide P w r b0 t v) (hd : DataW.Trod enc P w base spare held t v d ps)
    {α : Type} {f : α → PV} (h : ∀ n x, DataW.trod enc P w base spare held n t [v] = some x → ∃ a, (f a).Rep U w v) : ∃ a, (BV.p (f a)).Rep U noLoc [] w v := by
  obtain ⟨A, n, c, rfl⟩ := okWide_slice ht hval
  obtain ⟨fuel, hf⟩ := hd
  exact h _ _ hf
theorem rd_bs {r : Reach} {b0 : Nat} {t e : TypeId} {v : Value} {d : DataW H} {ps : List MemPlace} (hU : ∀ a, ¬ U a) (ht : P.underlying t = some (.slice e)) (he : P.underlying e = some (.int .u8)) (hc : P.cellsOf e = 1)
    (hval : Value.okWide P w r b0 t v) (hd : DataW.Trod enc P w base spare held t v d ps) : ∃ l, (BV.p (.bs l)).Rep U noLoc [] w v :=
  rd_sl ht hval hd fun _ _ h => cell_bs hU ht he hc h
theorem rd_bss {r : Reach} {b0 : Nat} {t e q : TypeId} {v : Value} {d : DataW H} {ps : List MemPlace} (hU : ∀ a, ¬ U a) (ht : P.underlying t = some (.slice e)) (he : P.underlying e = some (.slice q)) (hq : P.underlying q = some (.int .u8)) (hc : P.cellsOf e = 1) (hcq : P.cellsOf q = 1)
    (hval : Value.okWide P w r b0 t v) (hd : DataW.Trod enc P w base spare held t v d ps) : ∃ L : List (List UInt8), (BV.p (.sl L.length 1 (fun j => .bs (L.getD j [])))).Rep U noLoc [] w v :=
  rd_sl (f := fun L : List (List UInt8) => .sl L.length 1 (fun j => .bs (L.getD j []))) ht hval hd fun _ _ h => cell_rows (emb := PV.bs) hU ht hc (fun _ _ _ h => cell_bs hU he hq hcq h) h
theorem rd_str {r : Reach} {b0 : Nat} {t : TypeId} {v : Value} {d : DataW H} {ps : List MemPlace} (ht : P.underlying t = some .string) (hval : Value.okWide P w r b0 t v) (hd : DataW.Trod enc P w base spare held t v d ps) :
    ∃ l : List UInt8, (BV.p (.str l)).Rep U noLoc [] w v := by
  obtain ⟨s, rfl⟩ := okWide_string ht hval
  obtain ⟨fuel, hf⟩ := hd
  obtain ⟨l, _, h⟩ := cell_str (U := U) ht hf
  exact ⟨l, h⟩

theorem okWide_array {r : Reach} {b0 : Nat} {t e n : Nat} {v : Value} (ht : P.underlying t = some (.array n e)) (h : Value.okWide P w r b0 t v) : ∃ cs, v = .agg cs ∧ cs.size = P.cellsOf t := by
  simp only [Value.okWide, ht] at h
  obtain ⟨cs, h1, h2, _⟩ := h
  exact ⟨cs, h1, h2⟩
/-- An array of numbers. -/
theorem rd_arrI {r : Reach} {b0 : Nat} {t e n : Nat} {k : IntKind} {v : Value} {d : DataW H} {ps : List MemPlace} (ht : P.underlying t = some (.array n e)) (he : P.underlying e = some (.int k)) (hc : P.cellsOf e = 1) (hct : P.cellsOf t = n)
    (hval : Value.okWide P w r b0 t v) (hd : DataW.Trod enc P w base spare held t v d ps) : ∃ p : Nat → Int, (∀ j, j < n → (Lit.int k (p j)).wf = true) ∧ (BV.agg n (fun j => .v (.int k (p j)))).Rep U noLoc [] w v := by
  obtain ⟨cs, rfl, hs⟩ := okWide_array ht hval
  obtain ⟨fuel, hf⟩ := hd
  obtain ⟨xs, m, rfl, _, hl, hn, hel⟩ := DataW.trod_array ht hf
  have hex : ∀ j, ∃ p : Int, j < n → (Lit.int k p).wf = true ∧ cs[j]? = some (.int k p) := fun j => by
    by_cases hj : j < n
    · have h := hel j hj
      rw [hc, Nat.mul_one, List.getElem?_eq_getElem (by omega)] at h
      have hjc : j < (Value.agg cs).cells.toList.length := by rw [hl, hct]; exact hj
      have e1 : ((Value.agg cs).cells.toList.drop j).take 1 = [(Value.agg cs).cells.toList[j]] := by rw [List.drop_eq_getElem_cons hjc]; rfl
      rw [e1] at h
      obtain ⟨q, e2, _, hw⟩ := DataW.trod_int he h
      refine ⟨q, fun _ => ⟨hw, ?_⟩⟩
      have e3 : cs[j]'(by rw [hs, hct]; exact hj) = Value.int k q := by simpa [Value.cells] using e2
      rw [Array.getElem?_eq_getElem (by rw [hs, hct]; exact hj), e3]
    · exact ⟨0, fun h => absurd h hj⟩
  obtain ⟨p, hp⟩ := Classical.axiomOfChoice hex
  exact ⟨p, fun j hj => (hp j hj).1, cs, rfl, by rw [hs, hct], fun j hj => ⟨_, (hp j hj).2, rfl⟩⟩
theorem wf_u16 {n : Int} (h : (Lit.int .u16 n).wf = true) : 0 ≤ n ∧ n < 65536 := by
  simp [Lit.wf, IntKind.min, IntKind.max, IntKind.bits, IntKind.signed] at h
  omega
/-! ### The package's tables -/
theorem gl_ints {g t e : Nat} {k : IntKind} {nm : String} {l : List Int} {cs : Array Value} {x : DataW H × List MemPlace} {fuel : Nat} (hg : P.globalNamed nm = some g) (hv : w.var? P nm = some cs) (ht : P.underlying t = some (.array l.length e)) (he : P.underlying e = some (.int k)) (hc : P.cellsOf e = 1) (hct : P.cellsOf t = l.length)
    (hd : DataW.trod enc P w base spare held fuel t cs.toList = some x) (hx : x.1 = .agg (l.map fun n => .lit (.int k n))) : ∀ j, j < l.length → w.cell? ⟨g, j, none⟩ = some (.int k (l.getD j 0)) := by
  intro j hj
  obtain ⟨xs, m, rfl, rfl, hl, hn, hel⟩ := DataW.trod_array ht hd
  have h := hel j hj
  rw [hc, Nat.mul_one, List.getElem?_eq_getElem (by omega)] at h
  rw [World.var?_cell hg hv j]
  have hjc : j < cs.toList.length := by rw [hl, hct]; exact hj
  have e1 : (cs.toList.drop j).take 1 = [cs.toList[j]] := by rw [List.drop_eq_getElem_cons hjc]; rfl
  rw [e1] at h
  obtain ⟨n, e2, e3, _⟩ := DataW.trod_int he h
  simp only [DataW.agg.injEq] at hx
  have e4 : (xs.map (·.1))[j]? = some (.lit (.int k (l.getD j 0))) := by rw [hx]; simp [List.getD, List.getElem?_eq_getElem hj]
  rw [List.getElem?_map, List.getElem?_eq_getElem (by omega), e3] at e4
  have e5 : n = l.getD j 0 := by simpa using e4
  have e6 : cs[j]'(by simpa using hjc) = Value.int k n := by simpa using e2
  rw [← e5, ← e6]
  simp [Array.getElem?_eq_getElem (show j < cs.size by simpa using hjc)]

theorem leL_refl : ∀ xs : List BV, leL xs xs
  | [] => trivial
  | x :: r => ⟨.refl x, leL_refl r⟩

/-! ### The call -/
theorem law_run {gl : Nat → Option (Nat × (Nat → GV))} {f : FuncId} {α : Type} {argE : α → List BV} {pre : α → Prop} {res : α → List BV} (hF : FOK P gl f ⟨[], mkE argE (fun _ => []) pre res (fun _ => [])⟩) {W : World} {args : Array Value} {r : Value} (a : α) (hp : pre a)
    (hres : res a = [.p (.v r)]) (hgl : ∀ g m h, gl g = some (m, h) → ∀ j, j < m → W.cell? ⟨g, j, none⟩ = some (h j).val) (hsz : args.size = (argE a).length)
    (hrep : ∀ (i : Nat) (x : BV), (argE a)[i]? = some x → ∃ u, args[i]? = some u ∧ x.Rep (fun _ => False) noLoc [] W u) :
    Calls P f args W fun e W' => e = .returned r ∧ Below W.heap.size W W' := by
  have hUn : Un (fun _ => False) noLoc [] = fun _ => False := by
    funext x
    simp [Un, Owns, Hp.get]
  refine (hF.2 (fun _ => False) W.heap.size noLoc [] W (argE a) args (fun rs O2 => rs = [.p (.v r)] ∧ O2 = []) (fun _ h => h.elim) (Nat.le_refl _) (fun g m h hg j hj => ?_) (Mem.nil _ _ _ _) hsz (by rw [hUn]; exact hrep) ⟨a, leL_refl _, trivial, hp, hres, rfl⟩).mono fun e W' h => ?_
  · have := hgl g m h hg j hj
    exact ⟨this, fun h => h, World.block_lt_of_cell? W _ this⟩
  · obtain ⟨v, β2, O2, rs, rfl, ⟨rfl, rfl⟩, hm, hk, _, _, hr⟩ := h
    have hr' : v = r := hr
    subst hr'
    refine ⟨rfl, Keep.below (hk.mono fun x hx => ?_)⟩
    obtain ⟨t, ob, h, _⟩ := hx
    simp [Hp.get] at h
end
end Go.Vc
