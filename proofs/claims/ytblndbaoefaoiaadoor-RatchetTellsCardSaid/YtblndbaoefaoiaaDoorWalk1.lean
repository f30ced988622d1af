/- What is proved: each function of the seat's program does what its contract says, wherever it is called; no condition. -/
import Derived.Test.YtblndbaoefaoiaaDoorWalk0
import Derived.Test.YtblndbaoefaoiaaDoorPure0
set_option linter.unusedVariables false
set_option linter.unusedSimpArgs false
namespace Go.Vh
open Go Go.Vc Go.Proofs Go.Vw
def spdownSp : Sp := ⟨[], mkE (α := Nat × Nat × Bool) (fun (l, i, r) => [.p (.v (.complex .f64 (fl l) (fl i))), .p (.v (.bool r))]) (fun (l, i, r) => []) (fun (l, i, r) => 1 ≤ l ∧ rightS l i 16) (fun (l, i, r) => [.p (.v (.complex .f64 (fl (l - 1)) (fl (2 * i + (if r then 1 else 0)))))]) (fun (l, i, r) => [])⟩
def S_spdown : FuncId → Option Sp := fun f => if f = 38 then some spallSp else none
theorem S_spdown_ok : ∀ f s, S_spdown f = some s → FOK Tryd.prog gl f s := fun f s h => by
 unfold S_spdown at h
 split at h
 ·rename_i e; cases h; subst e; exact spall_ok
 cases h
set_option maxHeartbeats 1000000 in
set_option maxRecDepth 1000 in
theorem spdown_ok : FOK Tryd.prog gl 30 spdownSp := by
 refine FOK.ofE (tyOf_ok Tryd.prog) (slots := [4]) (nt := 25) Tryd.func30 rfl rfl rfl rfl (by decide) 2 (fun ⟨_, _, _⟩ => rfl) (by decide) (fun ⟨_, _, _⟩ => ⟨trivial, trivial, trivial⟩) ?_
 rintro ⟨l, i, r⟩ kk hlen hpre h
 replace hpre : 1 ≤ l ∧ rightS l i 16 := hpre
 show HT (cx Tryd.prog 25 (tyOf Tryd.prog) gl []) _ [(0, .p (.v (.complex .f64 (fl l) (fl i)))), (1, .p (.v (.bool r)))] [] _
 have hb := rs_b hpre.2
 refine HT.seq (HT.region S_spdown_ok (So.q rfl rfl (V.as (v := _) rfl (So.e (HT.seq (HT.seq (HT.region S_spdown_ok (So.q rfl rfl (V.mv (v := .p (.v (.complex .f64 _ _))) rfl ?_)))))))))
 refine So.n (lk rfl) (A.call0 [.p (.v (.complex .f64 _ _))] 1 rfl rfl rfl rfl ⟨trivial, trivial⟩ trivial (_, _) ⟨.refl _, trivial⟩ trivial (by omega) (Φ := fun _ => True) (fun _ _ => trivial) (.inl rfl) (v := .p (.v (.bool _))) rfl (O' := _) rfl (fun h1 => ?_))
 refine So.q rfl rfl (V.not rfl (So.q rfl rfl (V.mv (v := .p (.v (.bool _))) rfl ?_)))
 refine So.gd rfl rfl (lk rfl) (lk rfl) (fun h2 => ?_) (fun h2 => ?_)
 ·have h2 := of_decide_eq_true (bnF h2)
  refine A.v rfl (V.mv (v := .p (.v (.complex .f64 _ _))) rfl (So.gy rfl rfl (lk rfl) (lk rfl) (A.v rfl (V.pb (r := .v (.float .f64 _)) (by decide) rfl rfl (So.gy rfl rfl (lk rfl) (lk rfl) (A.v rfl (V.flt rfl (flc fl_0) (flt_eql (by omega) (by omega)) (So.q rfl rfl (V.pkFalse (u := .p (.v (.bool _))) rfl rfl (So.e ?_))))))))))
  show HT _ _ _ _ _
  refine R.cond rfl rfl (fun h3 => ?_) (fun h3 => ?_)
  ·have h3 := of_decide_eq_true h3
   refine HT.seq ?_
   exfalso; omega
  ·have h3 := of_decide_eq_false h3
   refine HT.skip (HT.seq (HT.region S_spdown_ok (So.q rfl rfl (V.mv (v := .p (.v (.complex .f64 _ _))) rfl (So.q rfl rfl (V.pb (r := .v (.float .f64 _)) (by decide) rfl rfl (So.q rfl rfl (V.flt rfl (flc fl_1) (flt_sub (by omega) (by omega)) (So.q rfl rfl (V.mv (v := .p (.v (.complex .f64 _ _))) rfl (So.q rfl rfl (V.pb (r := .v (.float .f64 _)) (by decide) rfl rfl (So.q rfl rfl (V.flt (flc fl_2) rfl (flt_mul (by omega) (by omega) (by omega)) (So.q rfl rfl (V.pb (r := .v (.complex .f64 _ _)) (by decide) rfl rfl ?_))))))))))))))))
   refine So.q rfl rfl (V.as (v := .p (.v (.complex .f64 _ _))) rfl (So.e (HT.seq (HT.seq (HT.region S_spdown_ok (So.q rfl rfl (V.mv (v := .p (.v (.bool _))) rfl (So.e ?_))))))))
   show HT _ _ _ _ _
   refine R.cond rfl rfl (fun h4 => ?_) (fun h4 => ?_)
   ·refine HT.region S_spdown_ok ?_
    refine So.q rfl rfl (V.mv (v := .p (.v (.complex .f64 _ _))) rfl (So.q rfl rfl (V.cpx rfl (cpc fl_0 fl_1) (cpx_add (by omega) (by omega)) (So.q rfl rfl (V.as (v := .p (.v (.complex .f64 _ _))) rfl (So.e (HT.seq (HT.region S_spdown_ok (So.q rfl rfl (V.mv (v := .p (.v (.complex .f64 _ _))) rfl (So.q rfl rfl (V.as (v := .p (.v (.complex .f64 _ _))) rfl (So.e ?_)))))))))))))
    show HT _ _ _ _ _
    refine HT.ret ?_
    exact ret_ok (sg []) h rfl rfl rfl trivial ⟨trivial, trivial⟩ rfl ⟨⟨⟨le_cx (by rfl) (by (simp_all; done)), trivial⟩, trivial⟩, trivial⟩
   ·refine HT.skip ?_
    show HT _ _ _ _ _
    refine HT.seq (HT.region S_spdown_ok (So.q rfl rfl (V.mv (v := .p (.v (.complex .f64 _ _))) rfl (So.q rfl rfl (V.as (v := .p (.v (.complex .f64 _ _))) rfl (So.e ?_))))))
    show HT _ _ _ _ _
    refine HT.ret ?_
    exact ret_ok (sg []) h rfl rfl rfl trivial ⟨trivial, trivial⟩ rfl ⟨⟨⟨le_cx (by rfl) (by (simp_all; done)), trivial⟩, trivial⟩, trivial⟩
 ·have h2 := of_decide_eq_false (bnT h2)
  exact absurd (by exact hpre.2) h2
def spoverSp : Sp := ⟨[], mkE (α := Nat × Nat × Nat) (fun (l, k, i) => [.p (.v (.complex .f64 (fl l) (fl k))), .p (.v (.int .i64 ((i : Int))))]) (fun (l, k, i) => []) (fun (l, k, i) => rightS l k 16 ∧ i < 65536) (fun (l, k, i) => [.p (.v (.bool (decide (i / 2 ^ l = k))))]) (fun (l, k, i) => [])⟩
def S_spover : FuncId → Option Sp := fun f => if f = 38 then some spallSp else if f = 37 then some spleafSp else none
theorem S_spover_ok : ∀ f s, S_spover f = some s → FOK Tryd.prog gl f s := fun f s h => by
 unfold S_spover at h
 split at h
 ·rename_i e; cases h; subst e; exact spall_ok
 split at h
 ·rename_i e; cases h; subst e; exact spleaf_ok
 cases h
set_option maxHeartbeats 1000000 in
set_option maxRecDepth 1000 in
theorem spover_ok : FOK Tryd.prog gl 29 spoverSp := by
 refine FOK.ofE (tyOf_ok Tryd.prog) (slots := [4]) (nt := 22) Tryd.func29 rfl rfl rfl rfl (by decide) 2 (fun ⟨_, _, _⟩ => rfl) (by decide) (fun ⟨_, _, _⟩ => ⟨trivial, trivial, trivial⟩) ?_
 rintro ⟨l, k, i⟩ kk hlen hpre h
 replace hpre : rightS l k 16 ∧ i < 65536 := hpre
 show HT (cx Tryd.prog 22 (tyOf Tryd.prog) gl []) _ [(0, .p (.v (.complex .f64 (fl l) (fl k)))), (1, .p (.v (.int .i64 ((i : Int)))))] [] _
 have hb := rs_b hpre.1
 have hdv := Nat.div_le_self i (2 ^ l)
 refine HT.seq (HT.region S_spover_ok (So.q rfl rfl (V.as (v := .p (.v (.bool false))) rfl (So.e (HT.seq (HT.region S_spover_ok (So.q rfl rfl (V.mv (v := .p (.v (.complex .f64 _ _))) rfl ?_))))))))
 refine So.n (lk rfl) (A.call0 [.p (.v (.complex .f64 _ _))] 1 rfl rfl rfl rfl ⟨trivial, trivial⟩ trivial (_, _) ⟨.refl _, trivial⟩ trivial (by omega) (Φ := fun _ => True) (fun _ _ => trivial) (.inl rfl) (v := .p (.v (.bool _))) rfl (O' := _) rfl (fun h1 => ?_))
 refine So.q rfl rfl (V.mv (v := .p (.v (.bool _))) rfl ?_)
 refine So.gd rfl rfl (lk rfl) (lk rfl) (fun h2 => ?_) (fun h2 => ?_)
 ·have h2 := of_decide_eq_true h2
  refine A.v rfl (V.mv (v := .p (.v (.int .i64 ((_ : Nat) : Int)))) rfl (So.gy rfl rfl (lk rfl) (lk rfl) ?_))
  refine A.call0 [.p (.v (.int .i64 ((_ : Nat) : Int)))] 1 rfl rfl rfl rfl ⟨trivial, trivial⟩ trivial _ ⟨.refl _, trivial⟩ trivial (by trivial) (Φ := fun _ => True) (fun _ _ => trivial) (.inl rfl) (v := .p (.v (.bool _))) rfl (O' := _) rfl (fun h3 => ?_)
  refine So.q rfl rfl (V.pkTrue (u := .p (.v (.bool _))) rfl rfl (So.q rfl rfl (V.mv (v := .p (.v (.bool _))) rfl ?_)))
  refine So.gd rfl rfl (lk rfl) (lk rfl) (fun h4 => ?_) (fun h4 => ?_)
  ·have h4 := of_decide_eq_true h4
   refine A.v rfl (V.mv (v := .p (.v (.int .i64 ((_ : Nat) : Int)))) rfl (So.gy rfl rfl (lk rfl) (lk rfl) (A.v rfl (V.mv (v := .p (.v (.complex .f64 _ _))) rfl (So.gy rfl rfl (lk rfl) (lk rfl) (A.v rfl (V.pb (r := .v (.float .f64 _)) (by decide) rfl rfl (So.gy rfl rfl (lk rfl) (lk rfl) (A.v rfl (V.cvFI ty3 ty57 rfl (fltInt_fl (by omega)) (So.gy rfl rfl (lk rfl) (lk rfl) (A.v rfl (V.bin (a := (.v (.int .i64 ((_ : Nat) : Int)))) (b := (.v (.int .i64 ((_ : Nat) : Int)))) (r := .v (.int .i64 _)) rfl rfl rfl (by omega) (So.gy rfl rfl (lk rfl) (lk rfl) ?_))))))))))))))
   refine A.v rfl (V.cvF ty57 ty3 rfl (fl_of (m := i / 2 ^ l) (by exact shr_nat (by omega))) (So.gy rfl rfl (lk rfl) (lk rfl) (A.v rfl (V.mv (v := .p (.v (.complex .f64 _ _))) rfl (So.gy rfl rfl (lk rfl) (lk rfl) (A.v rfl (V.pb (r := .v (.float .f64 _)) (by decide) rfl rfl (So.gy rfl rfl (lk rfl) (lk rfl) (A.v rfl (V.flt rfl rfl (flt_eql (by omega) (by omega)) (So.q rfl rfl (V.pkTrue (u := .p (.v (.bool _))) rfl rfl (So.q rfl rfl (V.as (v := .p (.v (.bool _))) rfl (So.e ?_)))))))))))))))
   show HT _ _ _ _ _
   refine HT.ret ?_
   exact ret_ok (sg []) h rfl rfl rfl trivial ⟨trivial, trivial⟩ rfl ⟨⟨⟨le_bool (by first | rfl), trivial⟩, trivial⟩, trivial⟩
  ·have h4 := of_decide_eq_false h4
   exact absurd (by omega) h4
 ·have h2 := of_decide_eq_false h2
  exact absurd (by exact hpre.1) h2
def rsecretoSp : Sp := ⟨[], mkE (α := (List UInt8) × Int × Int) (fun (e, d, f) => [.own 1 0 (e.length), .p (.v (.int .i64 d)), .p (.v (.int .i64 f))]) (fun (e, d, f) => [(1, ⟨5, 1, e.length, true, .bs (e)⟩)]) (fun (e, d, f) => True) (fun (e, d, f) => [.p (.bs (rsecF e d f))]) (fun (e, d, f) => [])⟩
def S_rsecreto : FuncId → Option Sp := fun f => if f = 28 then some spLeafSp else if f = 27 then some sprightSp else if f = 21 then some cloneSp else if f = 30 then some spdownSp else if f = 29 then some spoverSp else if f = 31 then some hlabelSp else none
theorem S_rsecreto_ok : ∀ f s, S_rsecreto f = some s → FOK Tryd.prog gl f s := fun f s h => by
 unfold S_rsecreto at h
 split at h
 ·rename_i e; cases h; subst e; exact spLeaf_ok
 split at h
 ·rename_i e; cases h; subst e; exact spright_ok
 split at h
 ·rename_i e; cases h; subst e; exact clone_ok
 split at h
 ·rename_i e; cases h; subst e; exact spdown_ok
 split at h
 ·rename_i e; cases h; subst e; exact spover_ok
 split at h
 ·rename_i e; cases h; subst e; exact hlabel_ok
 cases h
set_option maxHeartbeats 1000000 in
set_option maxRecDepth 20000 in
theorem rsecreto_ok : FOK Tryd.prog gl 12 rsecretoSp := by
 refine FOK.ofE (tyOf_ok Tryd.prog) (slots := [6]) (nt := 51) Tryd.func12 rfl rfl rfl rfl (by decide) 3 (fun ⟨_, _, _⟩ => rfl) (by decide) (fun ⟨_, _, _⟩ => ⟨rfl, trivial, trivial, trivial⟩) ?_
 rintro ⟨e, d, f⟩ kk hlen hpre h
 have hl0 : _ ≤ 9223372036854775807 := hlen.1
 replace hpre : True := hpre
 show HT (cx Tryd.prog 51 (tyOf Tryd.prog) gl []) _ [(0, .own 1 0 (e.length)), (1, .p (.v (.int .i64 d))), (2, .p (.v (.int .i64 f)))] [(1, ⟨5, 1, e.length, true, .bs (e)⟩)] _
 obtain ⟨s, hs0⟩ : ∃ s : Nat, s = 0 := ⟨0, rfl⟩
 refine HT.seq (HT.region S_rsecreto_ok (So.q rfl rfl (V.as (v := .p (.v (.slice none 0 0))) rfl (So.e ?_))))
 show HT _ _ _ _ _
 refine R.jump (σ := Nat) 0 (fun s => [(8, .p (.v (.complex .f64 (fl (d.toNat - s)) (fl (f.toNat / 2 ^ (d.toNat - s)))))), (7, .p (.bs (rsecN e d.toNat f.toNat s)))]) (fun s => []) [2] [] (fun s => s ≤ d.toNat ∧ e.length = 32 ∧ 0 ≤ f ∧ f < 65536 ∧ rightS 0 f.toNat d) (fun s => d.toNat - s) rfl (fr0 := [(2, .p (.v (.int .i64 _)))]) (O0 := []) rfl rfl ?_ (fun s hPj => ?_)
 ·refine HT.seq ?_
  refine HT.seq (HT.region S_rsecreto_ok (So.q rfl rfl (V.mv (v := .own 1 0 _) rfl (So.q rfl rfl (V.len ty22 (v := .own 1 0 _) rfl rfl (So.q rfl rfl (V.bin (a := .v (.int .i64 _)) (b := .v (.int .i64 32)) (r := .v (.bool _)) rfl rfl rfl trivial (So.q rfl rfl (V.mv (v := .p (.v (.bool _))) rfl ?_)))))))))
  refine So.gd rfl rfl (lk rfl) (lk rfl) (fun h1 => ?_) (fun h1 => ?_)
  ·have h1 := of_decide_eq_true (bnF h1)
   refine A.v rfl (V.mv (v := .p (.v (.int .i64 _))) rfl (So.gy rfl rfl (lk rfl) (lk rfl) (A.v rfl (V.bin (a := .v (.int .i64 _)) (b := .v (.int .i64 0)) (r := .v (.bool _)) rfl rfl rfl trivial (So.q rfl rfl (V.pkFalse (u := .p (.v (.bool _))) rfl rfl (So.q rfl rfl (V.mv (v := .p (.v (.bool _))) rfl ?_))))))))
   refine So.gd rfl rfl (lk rfl) (lk rfl) (fun h2 => ?_) (fun h2 => ?_)
   ·have h2 := of_decide_eq_false h2
    refine A.v rfl (V.mv (v := .p (.v (.int .i64 _))) rfl (So.gy rfl rfl (lk rfl) (lk rfl) (A.v rfl (V.bin (a := .v (.int .i64 _)) (b := .v (.int .i64 65536)) (r := .v (.bool _)) rfl rfl rfl trivial (So.q rfl rfl (V.pkFalse (u := .p (.v (.bool _))) rfl rfl (So.q rfl rfl (V.mv (v := .p (.v (.bool _))) rfl ?_))))))))
    refine So.gd rfl rfl (lk rfl) (lk rfl) (fun h3 => ?_) (fun h3 => ?_)
    ·have h3 := of_decide_eq_false h3
     refine A.v rfl (V.mv (v := .p (.v (.int .i64 _))) rfl (So.gy rfl rfl (lk rfl) (lk rfl) ?_))
     refine A.call0 [.p (.v (.int .i64 _))] 2 rfl rfl rfl rfl ⟨trivial, trivial⟩ trivial _ ⟨.refl _, trivial⟩ trivial (by trivial) (Φ := fun _ => True) (fun _ _ => trivial) (.inl rfl) (v := .p (.v (.complex .f64 _ _))) rfl (O' := _) rfl (fun h4 => ?_)
     refine So.gy rfl rfl (lk rfl) (lk rfl) (A.v rfl (V.mv (v := .p (.v (.int .i64 _))) rfl (So.gy rfl rfl (lk rfl) (lk rfl) ?_)))
     refine A.call0 [.p (.v (.complex .f64 _ _)), .p (.v (.int .i64 _))] 2 rfl rfl rfl rfl ⟨trivial, trivial, trivial⟩ trivial (0, f.toNat, d) ⟨le_cx rfl (by rw [if_pos (by omega)]), .refl _, trivial⟩ trivial (by omega) (Φ := fun _ => True) (fun _ _ => trivial) (.inl rfl) (v := .p (.v (.bool _))) rfl (O' := _) rfl (fun h5 => ?_)
     refine So.gy rfl rfl (lk rfl) (lk rfl) (A.v rfl (V.not rfl (So.q rfl rfl (V.pkFalse (u := .p (.v (.bool _))) rfl rfl (So.e ?_)))))
     show HT _ _ _ _ _
     refine R.cond rfl rfl (fun h6 => ?_) (fun h6 => ?_)
     ·have h6 := of_decide_eq_false (bnT h6)
      refine HT.seq (HT.region S_rsecreto_ok (So.q rfl rfl (V.as (v := .p (.v (.slice none 0 0))) rfl (So.e ?_))))
      show HT _ _ _ _ _
      refine HT.ret ?_
      exact ret_ok (sg []) h rfl rfl rfl trivial ⟨trivial, trivial⟩ rfl ⟨⟨⟨le_nil (by (exact sec_no (fun h9 => absurd h9.2.2.2 (by assumption)))), trivial⟩, trivial⟩, trivial⟩
     ·have h6 := of_decide_eq_true (bnF h6)
      refine HT.skip (HT.seq (HT.region S_rsecreto_ok ?_))
      have hrs : rightS 0 f.toNat d := by assumption
      obtain ⟨hd16, _, hf2⟩ := id hrs
      rw [Nat.sub_zero] at hf2
      have hPj : s ≤ d.toNat := by omega
      refine So.q rfl rfl (V.mv (v := .own 1 0 _) rfl ?_)
      refine So.n (lk rfl) (A.call0F S_rsecreto_ok [.p (.bs _)] 2 rfl rfl rfl rfl ⟨trivial, trivial⟩ trivial _ ⟨le_full, trivial⟩ trivial (by omega) (Φ := fun _ => True) (fun _ _ => trivial) (.inr ⟨trivial, by simp [Hp.scal, OC.scal, PV.scal, BV.scal]⟩) (t := 3) (off := 0) rfl (O' := (3, ⟨5, 1, _, true, .bs _⟩) :: _) rfl rfl rfl (y := .p (.bs _)) rfl rfl (fun h7 => ?_))
      refine So.q rfl rfl (V.as (v := .p (.bs _)) rfl (So.e (HT.seq (HT.region S_rsecreto_ok (So.q rfl rfl (V.mv (v := .p (.v (.int .i64 _))) rfl (So.q rfl rfl (V.cvF ty57 ty3 rfl (fl_of (m := d.toNat) (by omega)) (So.q rfl rfl (V.pb (r := .v (.complex .f64 _ _)) (by decide) rfl rfl (So.q rfl rfl (V.as (v := .p (.v (.complex .f64 _ _))) rfl (So.e (HT.seq ?_))))))))))))))
      refine HT.label (HT.seq (HT.seq ?_))
      refine R.tell [(8, .p (.v (.complex .f64 (fl (d.toNat - s)) (fl (f.toNat / 2 ^ (d.toNat - s)))))), (7, .p (.bs (rsecN e d.toNat f.toNat s)))] [] [2, 6] [] (fr0 := [(2, .p (.v (.int .i64 _))), (6, .p (.v (.slice none 0 0)))]) (O0 := []) rfl rfl ⟨⟨⟨le_cx (by subst hs0; rfl) (by subst hs0; (rw [Nat.sub_zero, Nat.div_eq_of_lt hf2]; exact fl_0.symm)), trivial⟩, ⟨le_bs (by subst hs0; (rw [List.drop_zero, List.take_of_length_le (by omega)]; rfl)), trivial⟩, ⟨.refl _, trivial⟩, ⟨.refl _, trivial⟩, trivial⟩, trivial⟩ ?_
      show HT _ _ _ _ _
      refine HT.region S_rsecreto_ok ?_
      have hp16 := p2_16 (k := d.toNat) (by omega)
      refine So.q rfl rfl (V.mv (v := .p (.v (.complex .f64 _ _))) rfl (So.q rfl rfl (V.pb (r := .v (.float .f64 _)) (by decide) rfl rfl (So.q rfl rfl (V.flt rfl (flc fl_0) (flt_eql (by omega) (by omega)) (So.e ?_))))))
      show HT _ _ _ _ _
      refine R.cond rfl rfl (fun h8 => ?_) (fun h8 => ?_)
      ·have h8 := of_decide_eq_true h8
       refine HT.seq (HT.region S_rsecreto_ok (So.q rfl rfl (V.mv (v := .p (.bs _)) rfl (So.q rfl rfl (V.as (v := .p (.bs _)) rfl (So.e ?_))))))
       show HT _ _ _ _ _
       refine HT.ret ?_
       exact ret_ok (sg []) h rfl rfl rfl trivial ⟨trivial, trivial⟩ rfl ⟨⟨⟨le_bs (by (replace hPj : s = d.toNat := (by omega); subst hPj; rw [sec_yes (by omega) (by omega) (by assumption)])), trivial⟩, trivial⟩, trivial⟩
      ·have h8 := of_decide_eq_false h8
       refine HT.skip (HT.seq (HT.region S_rsecreto_ok ?_))
       have hrp := rs_path (d := d.toNat) (f := f.toNat) (s := s) (by omega) hf2 hPj
       have hrb := rs_below hrp (by omega) 0 (by omega)
       have hb9 := rs_b hrp
       have hdb := down_bit f.toNat (d.toNat - s - 1)
       rw [show d.toNat - s - 1 + 1 = d.toNat - s by omega] at hdb
       have hsl := rsecN_len e (by omega) d.toNat f.toNat s
       refine So.q rfl rfl (V.mv (v := .p (.v (.complex .f64 _ _))) rfl ?_)
       refine So.n (lk rfl) (A.call0 [.p (.v (.complex .f64 _ _)), .p (.v (.bool false))] 1 rfl rfl rfl rfl ⟨trivial, trivial, trivial⟩ trivial (d.toNat - s, f.toNat / 2 ^ (d.toNat - s), false) ⟨.refl _, .refl _, trivial⟩ trivial (by exact ⟨by omega, hrp⟩) (Φ := fun _ => True) (fun _ _ => trivial) (.inl rfl) (v := .p (.v (.complex .f64 _ _))) rfl (O' := _) rfl (fun h9 => ?_))
       refine So.q rfl rfl (V.mv (v := .p (.v (.int .i64 _))) rfl ?_)
       refine So.n (lk rfl) (A.call0 [.p (.v (.complex .f64 _ _)), .p (.v (.int .i64 _))] 1 rfl rfl rfl rfl ⟨trivial, trivial, trivial⟩ trivial (d.toNat - s - 1, 2 * (f.toNat / 2 ^ (d.toNat - s)), f.toNat) ⟨le_cx rfl rfl, le_int (by omega), trivial⟩ trivial (by exact ⟨hrb, by omega⟩) (Φ := fun _ => True) (fun _ _ => trivial) (.inl rfl) (v := .p (.v (.bool _))) rfl (O' := _) rfl (fun h10 => ?_))
       refine So.q rfl rfl (V.not rfl (So.q rfl rfl (V.as (v := .p (.v (.bool _))) rfl (So.e (HT.seq (HT.region S_rsecreto_ok (So.q rfl rfl (V.as (v := .p (.str [108, 101, 102, 116])) rfl (So.e (HT.seq (HT.seq (HT.region S_rsecreto_ok ?_))))))))))))
       refine So.q rfl rfl (V.mv (v := .p (.v (.bool _))) rfl (So.e ?_))
       show HT _ _ _ _ _
       refine R.cond rfl rfl (fun h11 => ?_) (fun h11 => ?_)
       ·have h11 := of_decide_eq_false (bnT h11)
        refine HT.region S_rsecreto_ok (So.q rfl rfl (V.as (v := .p (.str [114, 105, 103, 104, 116])) rfl (So.e (HT.seq (HT.region S_rsecreto_ok (So.q rfl rfl (V.mv (v := .p (.bs _)) rfl (So.q rfl rfl (V.mv (v := .p (.str _)) rfl (So.n (lk rfl) (A.cvS 1 ty22 ty5 ty9 rfl rfl (by (simp; done)) rfl trivial ?_)))))))))))
        refine So.n (lk rfl) (A.call0F S_rsecreto_ok [.p (.bs _), .p (.str _), .p (.bs _), .p (.v (.int .i64 _))] 2 rfl rfl rfl rfl ⟨trivial, trivial, trivial, trivial, trivial⟩ trivial (rsecN e d.toNat f.toNat s, nTree, sideF d.toNat f.toNat s, 32) ⟨.refl _, .refl _, le_bs (by unfold sideF; (rw [if_pos (by omega)]; rfl)), .refl _, trivial⟩ trivial (by omega) (Φ := fun _ => True) (fun _ _ => trivial) (.inr ⟨trivial, by simp [Hp.scal, OC.scal, PV.scal, BV.scal]⟩) (t := 4) (off := 0) rfl (O' := (4, ⟨5, 1, _, true, .bs _⟩) :: _) rfl rfl rfl (y := .p (.bs _)) rfl rfl (fun h12 => ?_))
        refine So.q rfl rfl (V.as (v := .p (.bs _)) rfl (So.e (HT.seq (HT.region S_rsecreto_ok (So.q rfl rfl (V.mv (v := .p (.v (.complex .f64 _ _))) rfl (So.q rfl rfl (V.mv (v := .p (.v (.bool _))) rfl ?_))))))))
        refine So.n (lk rfl) (A.call0 [.p (.v (.complex .f64 _ _)), .p (.v (.bool _))] 2 rfl rfl rfl rfl ⟨trivial, trivial, trivial⟩ trivial (d.toNat - s, f.toNat / 2 ^ (d.toNat - s), _) ⟨.refl _, .refl _, trivial⟩ trivial (by exact ⟨by omega, hrp⟩) (Φ := fun _ => True) (fun _ _ => trivial) (.inl rfl) (v := .p (.v (.complex .f64 _ _))) rfl (O' := _) rfl (fun h13 => ?_))
        refine So.q rfl rfl (V.as (v := .p (.v (.complex .f64 _ _))) rfl (So.e ?_))
        show HT _ _ _ _ _
        refine HT.goto ?_
        exact ⟨rfl, s + 1, by exact ⟨by omega, by omega, by omega, by omega, hrs⟩, ⟨⟨⟨le_cx (by (exact congrArg fl (by omega))) (by (exact congrArg fl (dn_eq hdb))), trivial⟩, ⟨le_bs (by (show _ = labelF _ _ _ _; exact take_full _)), trivial⟩, ⟨.refl _, trivial⟩, trivial⟩, trivial⟩⟩
       ·have h11 := of_decide_eq_true (bnF h11)
        refine HT.skip (HT.seq (HT.region S_rsecreto_ok (So.q rfl rfl (V.mv (v := .p (.bs _)) rfl (So.q rfl rfl (V.mv (v := .p (.str _)) rfl (So.n (lk rfl) (A.cvS 1 ty22 ty5 ty9 rfl rfl (by (simp; done)) rfl trivial ?_))))))))
        refine So.n (lk rfl) (A.call0F S_rsecreto_ok [.p (.bs _), .p (.str _), .p (.bs _), .p (.v (.int .i64 _))] 2 rfl rfl rfl rfl ⟨trivial, trivial, trivial, trivial, trivial⟩ trivial (rsecN e d.toNat f.toNat s, nTree, sideF d.toNat f.toNat s, 32) ⟨.refl _, .refl _, le_bs (by unfold sideF; (rw [if_neg (by omega)]; rfl)), .refl _, trivial⟩ trivial (by omega) (Φ := fun _ => True) (fun _ _ => trivial) (.inr ⟨trivial, by simp [Hp.scal, OC.scal, PV.scal, BV.scal]⟩) (t := 4) (off := 0) rfl (O' := (4, ⟨5, 1, _, true, .bs _⟩) :: _) rfl rfl rfl (y := .p (.bs _)) rfl rfl (fun h14 => ?_))
        refine So.q rfl rfl (V.as (v := .p (.bs _)) rfl (So.e (HT.seq (HT.region S_rsecreto_ok (So.q rfl rfl (V.mv (v := .p (.v (.complex .f64 _ _))) rfl (So.q rfl rfl (V.mv (v := .p (.v (.bool _))) rfl ?_))))))))
        refine So.n (lk rfl) (A.call0 [.p (.v (.complex .f64 _ _)), .p (.v (.bool _))] 2 rfl rfl rfl rfl ⟨trivial, trivial, trivial⟩ trivial (d.toNat - s, f.toNat / 2 ^ (d.toNat - s), _) ⟨.refl _, .refl _, trivial⟩ trivial (by exact ⟨by omega, hrp⟩) (Φ := fun _ => True) (fun _ _ => trivial) (.inl rfl) (v := .p (.v (.complex .f64 _ _))) rfl (O' := _) rfl (fun h15 => ?_))
        refine So.q rfl rfl (V.as (v := .p (.v (.complex .f64 _ _))) rfl (So.e ?_))
        show HT _ _ _ _ _
        refine HT.goto ?_
        exact ⟨rfl, s + 1, by exact ⟨by omega, by omega, by omega, by omega, hrs⟩, ⟨⟨⟨le_cx (by (exact congrArg fl (by omega))) (by (exact congrArg fl (dn_eq hdb))), trivial⟩, ⟨le_bs (by (show _ = labelF _ _ _ _; exact take_full _)), trivial⟩, ⟨.refl _, trivial⟩, trivial⟩, trivial⟩⟩
    ·have h3 := of_decide_eq_true h3
     refine So.gn (b := true) rfl rfl rfl (lk rfl) (lk rfl) (So.gn (b := true) rfl rfl rfl (lk rfl) (lk rfl) (So.gn (b := true) rfl rfl rfl (lk rfl) (lk rfl) (So.gn (b := true) rfl rfl rfl (lk rfl) (lk rfl) (So.q rfl rfl (V.pkTrue (u := .p (.v (.bool true))) rfl rfl (So.e ?_))))))
     show HT _ _ _ _ _
     refine R.condT rfl ?_
     refine HT.seq (HT.region S_rsecreto_ok (So.q rfl rfl (V.as (v := .p (.v (.slice none 0 0))) rfl (So.e ?_))))
     show HT _ _ _ _ _
     refine HT.ret ?_
     exact ret_ok (sg []) h rfl rfl rfl trivial ⟨trivial, trivial⟩ rfl ⟨⟨⟨le_nil (by exact sec_no (by omega)), trivial⟩, trivial⟩, trivial⟩
   ·have h2 := of_decide_eq_true h2
    refine So.gn (b := true) rfl rfl rfl (lk rfl) (lk rfl) (So.q rfl rfl (V.pkTrue (u := .p (.v (.bool true))) rfl rfl (So.q rfl rfl (V.mv (v := .p (.v (.bool true))) rfl (So.gn (b := true) rfl rfl rfl (lk rfl) (lk rfl) (So.gn (b := true) rfl rfl rfl (lk rfl) (lk rfl) (So.gn (b := true) rfl rfl rfl (lk rfl) (lk rfl) (So.gn (b := true) rfl rfl rfl (lk rfl) (lk rfl) (So.gn (b := true) rfl rfl rfl (lk rfl) (lk rfl) (So.q rfl rfl (V.pkTrue (u := .p (.v (.bool true))) rfl rfl (So.e ?_))))))))))))
    show HT _ _ _ _ _
    refine R.condT rfl ?_
    refine HT.seq (HT.region S_rsecreto_ok (So.q rfl rfl (V.as (v := .p (.v (.slice none 0 0))) rfl (So.e ?_))))
    show HT _ _ _ _ _
    refine HT.ret ?_
    exact ret_ok (sg []) h rfl rfl rfl trivial ⟨trivial, trivial⟩ rfl ⟨⟨⟨le_nil (by exact sec_no (by omega)), trivial⟩, trivial⟩, trivial⟩
  ·have h1 := of_decide_eq_false (bnT h1)
   refine So.gn (b := true) rfl rfl rfl (lk rfl) (lk rfl) (So.q rfl rfl (V.pkTrue (u := .p (.v (.bool true))) rfl rfl (So.q rfl rfl (V.mv (v := .p (.v (.bool true))) rfl (So.gn (b := true) rfl rfl rfl (lk rfl) (lk rfl) (So.gn (b := true) rfl rfl rfl (lk rfl) (lk rfl) (So.q rfl rfl (V.pkTrue (u := .p (.v (.bool true))) rfl rfl (So.q rfl rfl (V.mv (v := .p (.v (.bool true))) rfl (So.gn (b := true) rfl rfl rfl (lk rfl) (lk rfl) (So.gn (b := true) rfl rfl rfl (lk rfl) (lk rfl) (So.gn (b := true) rfl rfl rfl (lk rfl) (lk rfl) ?_)))))))))))))
   refine So.gn (b := true) rfl rfl rfl (lk rfl) (lk rfl) (So.gn (b := true) rfl rfl rfl (lk rfl) (lk rfl) (So.q rfl rfl (V.pkTrue (u := .p (.v (.bool true))) rfl rfl (So.e ?_))))
   show HT _ _ _ _ _
   refine R.condT rfl ?_
   refine HT.seq (HT.region S_rsecreto_ok (So.q rfl rfl (V.as (v := .p (.v (.slice none 0 0))) rfl (So.e ?_))))
   show HT _ _ _ _ _
   refine HT.ret ?_
   exact ret_ok (sg []) h rfl rfl rfl trivial ⟨trivial, trivial⟩ rfl ⟨⟨⟨le_nil (by exact sec_no (by omega)), trivial⟩, trivial⟩, trivial⟩
 ·obtain ⟨hPj, h32, hf0, hf1, hrs⟩ := hPj
  obtain ⟨hd16, _, hf2⟩ := id hrs
  rw [Nat.sub_zero] at hf2
  show HT _ _ _ _ _
  refine HT.seq (HT.skip (HT.seq (HT.seq (HT.region S_rsecreto_ok ?_))))
  have hp16 := p2_16 (k := d.toNat) (by omega)
  refine So.q rfl rfl (V.mv (v := .p (.v (.complex .f64 _ _))) rfl (So.q rfl rfl (V.pb (r := .v (.float .f64 _)) (by decide) rfl rfl (So.q rfl rfl (V.flt rfl (flc fl_0) (flt_eql (by omega) (by omega)) (So.e ?_))))))
  show HT _ _ _ _ _
  refine R.cond rfl rfl (fun h16 => ?_) (fun h16 => ?_)
  ·have h16 := of_decide_eq_true h16
   refine HT.seq (HT.region S_rsecreto_ok (So.q rfl rfl (V.mv (v := .p (.bs _)) rfl (So.q rfl rfl (V.as (v := .p (.bs _)) rfl (So.e ?_))))))
   show HT _ _ _ _ _
   refine HT.ret ?_
   exact ret_ok (sg []) h rfl rfl rfl trivial ⟨trivial, trivial⟩ rfl ⟨⟨⟨le_bs (by (replace hPj : s = d.toNat := (by omega); subst hPj; rw [sec_yes (by omega) (by omega) (by assumption)])), trivial⟩, trivial⟩, trivial⟩
  ·have h16 := of_decide_eq_false h16
   refine HT.skip (HT.seq (HT.region S_rsecreto_ok ?_))
   have hrp := rs_path (d := d.toNat) (f := f.toNat) (s := s) (by omega) hf2 hPj
   have hrb := rs_below hrp (by omega) 0 (by omega)
   have hb9 := rs_b hrp
   have hdb := down_bit f.toNat (d.toNat - s - 1)
   rw [show d.toNat - s - 1 + 1 = d.toNat - s by omega] at hdb
   have hsl := rsecN_len e (by omega) d.toNat f.toNat s
   refine So.q rfl rfl (V.mv (v := .p (.v (.complex .f64 _ _))) rfl ?_)
   refine So.n (lk rfl) (A.call0 [.p (.v (.complex .f64 _ _)), .p (.v (.bool false))] 1 rfl rfl rfl rfl ⟨trivial, trivial, trivial⟩ trivial (d.toNat - s, f.toNat / 2 ^ (d.toNat - s), false) ⟨.refl _, .refl _, trivial⟩ trivial (by exact ⟨by omega, hrp⟩) (Φ := fun _ => True) (fun _ _ => trivial) (.inl rfl) (v := .p (.v (.complex .f64 _ _))) rfl (O' := _) rfl (fun h17 => ?_))
   refine So.q rfl rfl (V.mv (v := .p (.v (.int .i64 _))) rfl ?_)
   refine So.n (lk rfl) (A.call0 [.p (.v (.complex .f64 _ _)), .p (.v (.int .i64 _))] 1 rfl rfl rfl rfl ⟨trivial, trivial, trivial⟩ trivial (d.toNat - s - 1, 2 * (f.toNat / 2 ^ (d.toNat - s)), f.toNat) ⟨le_cx rfl rfl, le_int (by omega), trivial⟩ trivial (by exact ⟨hrb, by omega⟩) (Φ := fun _ => True) (fun _ _ => trivial) (.inl rfl) (v := .p (.v (.bool _))) rfl (O' := _) rfl (fun h18 => ?_))
   refine So.q rfl rfl (V.not rfl (So.q rfl rfl (V.as (v := .p (.v (.bool _))) rfl (So.e (HT.seq (HT.region S_rsecreto_ok (So.q rfl rfl (V.as (v := .p (.str [108, 101, 102, 116])) rfl (So.e (HT.seq (HT.seq (HT.region S_rsecreto_ok ?_))))))))))))
   refine So.q rfl rfl (V.mv (v := .p (.v (.bool _))) rfl (So.e ?_))
   show HT _ _ _ _ _
   refine R.cond rfl rfl (fun h19 => ?_) (fun h19 => ?_)
   ·have h19 := of_decide_eq_false (bnT h19)
    refine HT.region S_rsecreto_ok (So.q rfl rfl (V.as (v := .p (.str [114, 105, 103, 104, 116])) rfl (So.e (HT.seq (HT.region S_rsecreto_ok (So.q rfl rfl (V.mv (v := .p (.bs _)) rfl (So.q rfl rfl (V.mv (v := .p (.str _)) rfl (So.n (lk rfl) (A.cvS 1 ty22 ty5 ty9 rfl rfl (by (simp; done)) rfl trivial ?_)))))))))))
    refine So.n (lk rfl) (A.call0F S_rsecreto_ok [.p (.bs _), .p (.str _), .p (.bs _), .p (.v (.int .i64 _))] 2 rfl rfl rfl rfl ⟨trivial, trivial, trivial, trivial, trivial⟩ trivial (rsecN e d.toNat f.toNat s, nTree, sideF d.toNat f.toNat s, 32) ⟨.refl _, .refl _, le_bs (by unfold sideF; (rw [if_pos (by omega)]; rfl)), .refl _, trivial⟩ trivial (by omega) (Φ := fun _ => True) (fun _ _ => trivial) (.inr ⟨trivial, by simp [Hp.scal, OC.scal, PV.scal, BV.scal]⟩) (t := 4) (off := 0) rfl (O' := (4, ⟨5, 1, _, true, .bs _⟩) :: _) rfl rfl rfl (y := .p (.bs _)) rfl rfl (fun h20 => ?_))
    refine So.q rfl rfl (V.as (v := .p (.bs _)) rfl (So.e (HT.seq (HT.region S_rsecreto_ok (So.q rfl rfl (V.mv (v := .p (.v (.complex .f64 _ _))) rfl (So.q rfl rfl (V.mv (v := .p (.v (.bool _))) rfl ?_))))))))
    refine So.n (lk rfl) (A.call0 [.p (.v (.complex .f64 _ _)), .p (.v (.bool _))] 2 rfl rfl rfl rfl ⟨trivial, trivial, trivial⟩ trivial (d.toNat - s, f.toNat / 2 ^ (d.toNat - s), _) ⟨.refl _, .refl _, trivial⟩ trivial (by exact ⟨by omega, hrp⟩) (Φ := fun _ => True) (fun _ _ => trivial) (.inl rfl) (v := .p (.v (.complex .f64 _ _))) rfl (O' := _) rfl (fun h21 => ?_))
    refine So.q rfl rfl (V.as (v := .p (.v (.complex .f64 _ _))) rfl (So.e ?_))
    show HT _ _ _ _ _
    refine HT.goto ?_
    exact ⟨rfl, s + 1, by exact ⟨by omega, by omega, by omega, by omega, hrs⟩, by omega, ⟨⟨⟨le_cx (by (exact congrArg fl (by omega))) (by (exact congrArg fl (dn_eq hdb))), trivial⟩, ⟨le_bs (by (show _ = labelF _ _ _ _; exact take_full _)), trivial⟩, ⟨.refl _, trivial⟩, trivial⟩, trivial⟩⟩
   ·have h19 := of_decide_eq_true (bnF h19)
    refine HT.skip (HT.seq (HT.region S_rsecreto_ok (So.q rfl rfl (V.mv (v := .p (.bs _)) rfl (So.q rfl rfl (V.mv (v := .p (.str _)) rfl (So.n (lk rfl) (A.cvS 1 ty22 ty5 ty9 rfl rfl (by (simp; done)) rfl trivial ?_))))))))
    refine So.n (lk rfl) (A.call0F S_rsecreto_ok [.p (.bs _), .p (.str _), .p (.bs _), .p (.v (.int .i64 _))] 2 rfl rfl rfl rfl ⟨trivial, trivial, trivial, trivial, trivial⟩ trivial (rsecN e d.toNat f.toNat s, nTree, sideF d.toNat f.toNat s, 32) ⟨.refl _, .refl _, le_bs (by unfold sideF; (rw [if_neg (by omega)]; rfl)), .refl _, trivial⟩ trivial (by omega) (Φ := fun _ => True) (fun _ _ => trivial) (.inr ⟨trivial, by simp [Hp.scal, OC.scal, PV.scal, BV.scal]⟩) (t := 4) (off := 0) rfl (O' := (4, ⟨5, 1, _, true, .bs _⟩) :: _) rfl rfl rfl (y := .p (.bs _)) rfl rfl (fun h22 => ?_))
    refine So.q rfl rfl (V.as (v := .p (.bs _)) rfl (So.e (HT.seq (HT.region S_rsecreto_ok (So.q rfl rfl (V.mv (v := .p (.v (.complex .f64 _ _))) rfl (So.q rfl rfl (V.mv (v := .p (.v (.bool _))) rfl ?_))))))))
    refine So.n (lk rfl) (A.call0 [.p (.v (.complex .f64 _ _)), .p (.v (.bool _))] 2 rfl rfl rfl rfl ⟨trivial, trivial, trivial⟩ trivial (d.toNat - s, f.toNat / 2 ^ (d.toNat - s), _) ⟨.refl _, .refl _, trivial⟩ trivial (by exact ⟨by omega, hrp⟩) (Φ := fun _ => True) (fun _ _ => trivial) (.inl rfl) (v := .p (.v (.complex .f64 _ _))) rfl (O' := _) rfl (fun h23 => ?_))
    refine So.q rfl rfl (V.as (v := .p (.v (.complex .f64 _ _))) rfl (So.e ?_))
    show HT _ _ _ _ _
    refine HT.goto ?_
    exact ⟨rfl, s + 1, by exact ⟨by omega, by omega, by omega, by omega, hrs⟩, by omega, ⟨⟨⟨le_cx (by (exact congrArg fl (by omega))) (by (exact congrArg fl (dn_eq hdb))), trivial⟩, ⟨le_bs (by (show _ = labelF _ _ _ _; exact take_full _)), trivial⟩, ⟨.refl _, trivial⟩, trivial⟩, trivial⟩⟩
def rrightSp : Sp := ⟨[], mkE (α := Int × (List UInt8) × KL) (fun (g, s, K) => [.agg 3 (fun j => ([.v (.int .i64 g), .bs s, .sl (K).length 2 (kR K)] : List PV).getD j (.v undef))]) (fun (g, s, K) => []) (fun (g, s, K) => K.length ≤ 1000000) (fun (g, s, K) => [.p (.v (.bool (decide (rightR g s K))))]) (fun (g, s, K) => [])⟩
def S_rright : FuncId → Option Sp := fun _ => none
theorem S_rright_ok : ∀ f s, S_rright f = some s → FOK Tryd.prog gl f s := fun f s h => by cases h
set_option maxHeartbeats 1000000 in
set_option maxRecDepth 20000 in
theorem rright_ok : FOK Tryd.prog gl 10 rrightSp := by
 refine FOK.ofE (tyOf_ok Tryd.prog) (slots := [2]) (nt := 53) Tryd.func10 rfl rfl rfl rfl (by decide) 1 (fun ⟨_, _, _⟩ => rfl) (by decide) (fun ⟨_, _, _⟩ => ⟨trivial, trivial⟩) ?_
 rintro ⟨g, s, K⟩ kk hlen hpre h
 replace hpre : K.length ≤ 1000000 := hpre
 show HT (cx Tryd.prog 53 (tyOf Tryd.prog) gl []) _ [(0, .agg 3 (fun j => ([.v (.int .i64 g), .bs s, .sl (K).length 2 (kR K)] : List PV).getD j (.v undef)))] [] _
 refine HT.seq (HT.region S_rright_ok (So.n (lk rfl) (A.boxAg 1 1 (n := 3) rfl (by intro j hj; (match j, hj with | 0, _ => (trivial) | 1, _ => (trivial) | 2, _ => (trivial))) rfl trivial (So.q rfl rfl (V.as (v := .p (.v (.bool false))) rfl (So.e (HT.seq (HT.region S_rright_ok (So.q rfl rfl (V.as (v := .p (.v (.int .i64 (-1)))) rfl (So.e (HT.seq ?_))))))))))))
 refine HT.seq (HT.region S_rright_ok (So.q rfl rfl (V.faPtr ty26 rfl ty24 (lk rfl) rfl rfl (lk rfl) (So.q rfl rfl (V.ldPtr ty24 rfl rfl rfl (lk rfl) (v := .p (.sl _ 2 _)) rfl (So.q rfl rfl (V.len ty24 (v := .p (.sl _ 2 _)) rfl rfl (So.q rfl rfl (V.mv (v := .p (.v (.int .i64 0))) rfl (So.e (HT.block ?_)))))))))))
 refine R.loop (σ := Nat) (fun n => [(9, .p (.v (.int .i64 ((n : Int))))), (3, .p (.v (.int .i64 (lastG K n))))]) (fun n => []) [1, 7, 8] [1] (fun n => n ≤ K.length ∧ okI K g n) (fun n => K.length - n) (0) (fr0 := [(1, .ptr 1 0), (7, .p (.sl _ 2 _)), (8, .p (.v (.int .i64 _)))]) (O0 := [(1, ⟨_, _, _, _, .rows _⟩)]) rfl rfl (by exact ⟨Nat.zero_le _, okI_0 K g⟩) ⟨⟨⟨le_int (by rfl), trivial⟩, ⟨le_int (by rfl), trivial⟩, ⟨.refl _, rfl⟩, ⟨.refl _, trivial⟩, ⟨.refl _, trivial⟩, trivial⟩, ⟨⟨_, rfl, .inl rfl, trivial⟩, trivial⟩⟩ (fun n hP0 => ?_)
 refine HT.seq (HT.region S_rright_ok (So.q rfl rfl (V.bin (a := (.v (.int .i64 ((_ : Nat) : Int)))) (b := .v (.int .i64 _)) (r := .v (.bool _)) rfl rfl rfl trivial (So.e (HT.seq ?_)))))
 refine R.cond rfl rfl (fun h1 => ?_) (fun h1 => ?_)
 ·have h1 := of_decide_eq_true h1
  refine HT.skip (HT.seq (HT.block (HT.seq (HT.region S_rright_ok (So.q rfl rfl (V.ixSlS ty24 ty35 (s := 2) rfl (by decide) rfl rfl (by omega) (Int.toNat_natCast _) (So.q rfl rfl (V.ldRpA ty35 rfl rfl (lk rfl) (So.n (lk rfl) (A.alloc 2 1 ty35 rfl trivial (f := fun j => ([.v (.int .i64 0), .v (.slice none 0 0)] : List PV).getD j (.v undef)) (fun j hj => by match j, hj with | 0, _ => rfl | 1, _ => rfl) (So.s (A.stoAg ty35 rfl (n := 2) rfl (by decide) (by intro j hj; exact kR_one _ _) rfl rfl rfl (So.e ?_)))))))))))))
  show HT _ _ _ _ _
  refine HT.seq (HT.seq (HT.region S_rright_ok (So.q rfl rfl (V.faPtr ty35 rfl ty2 (lk rfl) rfl rfl (lk rfl) (So.q rfl rfl (V.ldPtr ty2 rfl rfl rfl (lk rfl) (v := .p (.v (.int .i64 (kG K n)))) (by exact congrArg BV.p (kR_0 K n)) (So.q rfl rfl (V.mv (v := .p (.v (.int .i64 _))) rfl (So.q rfl rfl (V.bin (a := .v (.int .i64 _)) (b := .v (.int .i64 _)) (r := .v (.bool _)) rfl rfl rfl trivial (So.q rfl rfl (V.mv (v := .p (.v (.bool _))) rfl ?_))))))))))))
  refine So.gd rfl rfl (lk rfl) (lk rfl) (fun h2 => ?_) (fun h2 => ?_)
  ·have h2 := of_decide_eq_false h2
   refine A.v rfl (V.faPtr ty35 rfl ty2 (lk rfl) rfl rfl (lk rfl) (So.gy rfl rfl (lk rfl) (lk rfl) (A.v rfl (V.ldPtr ty2 rfl rfl rfl (lk rfl) (v := .p (.v (.int .i64 (kG K n)))) (by exact congrArg BV.p (kR_0 K n)) (So.gy rfl rfl (lk rfl) (lk rfl) (A.v rfl (V.faPtr ty26 rfl ty2 (lk rfl) rfl rfl (lk rfl) (So.gy rfl rfl (lk rfl) (lk rfl) (A.v rfl (V.ldPtr ty2 rfl rfl rfl (lk rfl) (v := .p (.v (.int .i64 _))) rfl (So.gy rfl rfl (lk rfl) (lk rfl) (A.v rfl (V.bin (a := .v (.int .i64 _)) (b := .v (.int .i64 _)) (r := .v (.bool _)) rfl rfl rfl trivial (So.q rfl rfl (V.pkFalse (u := .p (.v (.bool _))) rfl rfl ?_)))))))))))))))
   refine So.q rfl rfl (V.mv (v := .p (.v (.bool _))) rfl ?_)
   refine So.gd rfl rfl (lk rfl) (lk rfl) (fun h3 => ?_) (fun h3 => ?_)
   ·have h3 := of_decide_eq_false h3
    refine A.v rfl (V.faPtr ty35 rfl ty22 (lk rfl) rfl rfl (lk rfl) (So.gy rfl rfl (lk rfl) (lk rfl) (A.v rfl (V.ldPtr ty22 rfl rfl rfl (lk rfl) (v := .p (.bs (kB K n))) (by exact congrArg BV.p (kR_1 K n)) (So.gy rfl rfl (lk rfl) (lk rfl) (A.v rfl (V.len ty22 (v := .p (.bs _)) rfl rfl (So.gy rfl rfl (lk rfl) (lk rfl) (A.v rfl (V.bin (a := .v (.int .i64 _)) (b := .v (.int .i64 32)) (r := .v (.bool _)) rfl rfl rfl trivial (So.q rfl rfl (V.pkFalse (u := .p (.v (.bool _))) rfl rfl (So.e ?_)))))))))))))
    show HT _ _ _ _ _
    refine R.cond rfl rfl (fun h4 => ?_) (fun h4 => ?_)
    ·have h4 := of_decide_eq_false (bnT h4)
     refine HT.seq (HT.region S_rright_ok (So.q rfl rfl (V.as (v := .p (.v (.bool false))) rfl (So.e ?_))))
     show HT _ _ _ _ _
     refine HT.ret ?_
     exact ret_ok (sg []) h rfl rfl rfl trivial ⟨trivial, trivial⟩ rfl ⟨⟨⟨le_bool (by (exact (decide_eq_false (fun h9 => by have h8 := h9.1 n (by omega); omega)).symm)), trivial⟩, trivial⟩, trivial⟩
    ·have h4 := of_decide_eq_true (bnF h4)
     refine HT.skip (HT.region S_rright_ok (So.q rfl rfl (V.faPtr ty35 rfl ty2 (lk rfl) rfl rfl (lk rfl) (So.q rfl rfl (V.ldPtr ty2 rfl rfl rfl (lk rfl) (v := .p (.v (.int .i64 (kG K n)))) (by exact congrArg BV.p (kR_0 K n)) (So.q rfl rfl (V.as (v := .p (.v (.int .i64 _))) rfl (So.e (HT.region S_rright_ok (So.q rfl rfl (V.addI rfl rfl (by omega) (So.q rfl rfl (V.mv (v := .p (.v (.int .i64 _))) rfl (So.e ?_))))))))))))))
     refine ⟨n + 1, by exact ⟨by omega, okI_s hP0.2 (by omega) (by omega) (by omega)⟩, by omega, ⟨⟨⟨le_int (by rfl), trivial⟩, ⟨le_int (by exact (if_neg (Nat.succ_ne_zero n)).symm), trivial⟩, ⟨.refl _, rfl⟩, ⟨.refl _, trivial⟩, ⟨.refl _, trivial⟩, trivial⟩, ⟨⟨_, rfl, .inl rfl, trivial⟩, trivial⟩⟩⟩
   ·have h3 := of_decide_eq_true h3
    refine So.gn (b := true) rfl rfl rfl (lk rfl) (lk rfl) (So.gn (b := true) rfl rfl rfl (lk rfl) (lk rfl) (So.gn (b := true) rfl rfl rfl (lk rfl) (lk rfl) (So.q rfl rfl (V.pkTrue (u := .p (.v (.bool true))) rfl rfl (So.e ?_)))))
    show HT _ _ _ _ _
    refine R.condT rfl ?_
    refine HT.seq (HT.region S_rright_ok (So.q rfl rfl (V.as (v := .p (.v (.bool false))) rfl (So.e ?_))))
    show HT _ _ _ _ _
    refine HT.ret ?_
    exact ret_ok (sg []) h rfl rfl rfl trivial ⟨trivial, trivial⟩ rfl ⟨⟨⟨le_bool (by (exact (decide_eq_false (fun h9 => by have h8 := h9.1 n (by omega); omega)).symm)), trivial⟩, trivial⟩, trivial⟩
  ·have h2 := of_decide_eq_true h2
   refine So.gn (b := true) rfl rfl rfl (lk rfl) (lk rfl) (So.gn (b := true) rfl rfl rfl (lk rfl) (lk rfl) (So.gn (b := true) rfl rfl rfl (lk rfl) (lk rfl) (So.gn (b := true) rfl rfl rfl (lk rfl) (lk rfl) (So.q rfl rfl (V.pkTrue (u := .p (.v (.bool true))) rfl rfl (So.q rfl rfl (V.mv (v := .p (.v (.bool true))) rfl (So.gn (b := true) rfl rfl rfl (lk rfl) (lk rfl) (So.gn (b := true) rfl rfl rfl (lk rfl) (lk rfl) (So.gn (b := true) rfl rfl rfl (lk rfl) (lk rfl) (So.gn (b := true) rfl rfl rfl (lk rfl) (lk rfl) ?_)))))))))))
   refine So.q rfl rfl (V.pkTrue (u := .p (.v (.bool true))) rfl rfl (So.e ?_))
   show HT _ _ _ _ _
   refine R.condT rfl ?_
   refine HT.seq (HT.region S_rright_ok (So.q rfl rfl (V.as (v := .p (.v (.bool false))) rfl (So.e ?_))))
   show HT _ _ _ _ _
   refine HT.ret ?_
   exact ret_ok (sg []) h rfl rfl rfl trivial ⟨trivial, trivial⟩ rfl ⟨⟨⟨le_bool (by (exact (decide_eq_false (fun h9 => by have h8 := h9.1 n (by omega); omega)).symm)), trivial⟩, trivial⟩, trivial⟩
 ·have h1 := of_decide_eq_false h1
  refine HT.exit ?_
  show HT _ _ _ _ _
  refine HT.seq (HT.region S_rright_ok ?_)
  obtain ⟨hn9, hok⟩ := hP0
  have hnK : n = K.length := by omega
  rw [hnK] at hok
  refine So.q rfl rfl (V.faPtr ty26 rfl ty2 (lk rfl) rfl rfl (lk rfl) (So.q rfl rfl (V.ldPtr ty2 rfl rfl rfl (lk rfl) (v := .p (.v (.int .i64 _))) rfl (So.q rfl rfl (V.bin (a := .v (.int .i64 _)) (b := .v (.int .i64 0)) (r := .v (.bool _)) rfl rfl rfl trivial (So.q rfl rfl (V.mv (v := .p (.v (.bool _))) rfl ?_)))))))
  refine So.gd rfl rfl (lk rfl) (lk rfl) (fun h5 => ?_) (fun h5 => ?_)
  ·have h5 := of_decide_eq_true h5
   refine A.v rfl (V.faPtr ty26 rfl ty2 (lk rfl) rfl rfl (lk rfl) (So.gy rfl rfl (lk rfl) (lk rfl) (A.v rfl (V.ldPtr ty2 rfl rfl rfl (lk rfl) (v := .p (.v (.int .i64 _))) rfl (So.gy rfl rfl (lk rfl) (lk rfl) (A.v rfl (V.bin (a := .v (.int .i64 _)) (b := .v (.int .i64 1073741824)) (r := .v (.bool _)) rfl rfl rfl trivial (So.q rfl rfl (V.pkTrue (u := .p (.v (.bool _))) rfl rfl (So.q rfl rfl (V.mv (v := .p (.v (.bool _))) rfl ?_)))))))))))
   refine So.gd rfl rfl (lk rfl) (lk rfl) (fun h6 => ?_) (fun h6 => ?_)
   ·have h6 := of_decide_eq_true h6
    refine A.v rfl (V.faPtr ty26 rfl ty22 (lk rfl) rfl rfl (lk rfl) (So.gy rfl rfl (lk rfl) (lk rfl) (A.v rfl (V.ldPtr ty22 rfl rfl rfl (lk rfl) (v := .p (.bs _)) rfl (So.gy rfl rfl (lk rfl) (lk rfl) (A.v rfl (V.len ty22 (v := .p (.bs _)) rfl rfl (So.gy rfl rfl (lk rfl) (lk rfl) (A.v rfl (V.bin (a := .v (.int .i64 _)) (b := .v (.int .i64 32)) (r := .v (.bool _)) rfl rfl rfl trivial (So.q rfl rfl (V.pkTrue (u := .p (.v (.bool _))) rfl rfl (So.q rfl rfl (V.mv (v := .p (.v (.bool _))) rfl ?_))))))))))))))
    refine So.gd rfl rfl (lk rfl) (lk rfl) (fun h7 => ?_) (fun h7 => ?_)
    ·have h7 := of_decide_eq_true h7
     refine A.v rfl (V.faPtr ty26 rfl ty24 (lk rfl) rfl rfl (lk rfl) (So.gy rfl rfl (lk rfl) (lk rfl) (A.v rfl (V.ldPtr ty24 rfl rfl rfl (lk rfl) (v := .p (.sl _ 2 _)) rfl (So.gy rfl rfl (lk rfl) (lk rfl) (A.v rfl (V.len ty24 (v := .p (.sl _ 2 _)) rfl rfl (So.gy rfl rfl (lk rfl) (lk rfl) (A.v rfl (V.bin (a := .v (.int .i64 _)) (b := .v (.int .i64 16)) (r := .v (.bool _)) rfl rfl rfl trivial (So.q rfl rfl (V.pkTrue (u := .p (.v (.bool _))) rfl rfl (So.q rfl rfl (V.as (v := .p (.v (.bool _))) rfl (So.e ?_)))))))))))))))
     show HT _ _ _ _ _
     refine HT.ret ?_
     exact ret_ok (sg []) h rfl rfl rfl trivial ⟨trivial, trivial⟩ rfl ⟨⟨⟨le_bool (by (refine dcg ⟨fun q => ⟨hok, by omega, by omega, by omega, by omega⟩, fun q => by obtain ⟨_, _, _, _, q⟩ := q; omega⟩)), trivial⟩, trivial⟩, trivial⟩
    ·have h7 := of_decide_eq_false h7
     refine So.gn (b := false) rfl rfl rfl (lk rfl) (lk rfl) (So.gn (b := false) rfl rfl rfl (lk rfl) (lk rfl) (So.gn (b := false) rfl rfl rfl (lk rfl) (lk rfl) (So.q rfl rfl (V.pkFalse (u := .p (.v (.bool false))) rfl rfl (So.q rfl rfl (V.as (v := .p (.v (.bool false))) rfl (So.e ?_)))))))
     show HT _ _ _ _ _
     refine HT.ret ?_
     exact ret_ok (sg []) h rfl rfl rfl trivial ⟨trivial, trivial⟩ rfl ⟨⟨⟨le_bool (by (exact (decide_eq_false (fun h9 => by obtain ⟨_, h1, h2, h3, h4⟩ := h9; omega)).symm)), trivial⟩, trivial⟩, trivial⟩
   ·have h6 := of_decide_eq_false h6
    refine So.gn (b := false) rfl rfl rfl (lk rfl) (lk rfl) (So.gn (b := false) rfl rfl rfl (lk rfl) (lk rfl) (So.gn (b := false) rfl rfl rfl (lk rfl) (lk rfl) (So.q rfl rfl (V.pkFalse (u := .p (.v (.bool false))) rfl rfl (So.q rfl rfl (V.mv (v := .p (.v (.bool false))) rfl (So.gn (b := false) rfl rfl rfl (lk rfl) (lk rfl) (So.gn (b := false) rfl rfl rfl (lk rfl) (lk rfl) (So.gn (b := false) rfl rfl rfl (lk rfl) (lk rfl) (So.gn (b := false) rfl rfl rfl (lk rfl) (lk rfl) (So.q rfl rfl (V.pkFalse (u := .p (.v (.bool false))) rfl rfl ?_))))))))))))
    refine So.q rfl rfl (V.as (v := .p (.v (.bool false))) rfl (So.e ?_))
    show HT _ _ _ _ _
    refine HT.ret ?_
    exact ret_ok (sg []) h rfl rfl rfl trivial ⟨trivial, trivial⟩ rfl ⟨⟨⟨le_bool (by (exact (decide_eq_false (fun h9 => by obtain ⟨_, h1, h2, h3, h4⟩ := h9; omega)).symm)), trivial⟩, trivial⟩, trivial⟩
  ·have h5 := of_decide_eq_false h5
   refine So.gn (b := false) rfl rfl rfl (lk rfl) (lk rfl) (So.gn (b := false) rfl rfl rfl (lk rfl) (lk rfl) (So.q rfl rfl (V.pkFalse (u := .p (.v (.bool false))) rfl rfl (So.q rfl rfl (V.mv (v := .p (.v (.bool false))) rfl (So.gn (b := false) rfl rfl rfl (lk rfl) (lk rfl) (So.gn (b := false) rfl rfl rfl (lk rfl) (lk rfl) (So.gn (b := false) rfl rfl rfl (lk rfl) (lk rfl) (So.gn (b := false) rfl rfl rfl (lk rfl) (lk rfl) (So.q rfl rfl (V.pkFalse (u := .p (.v (.bool false))) rfl rfl (So.q rfl rfl (V.mv (v := .p (.v (.bool false))) rfl ?_)))))))))))))
   refine So.gn (b := false) rfl rfl rfl (lk rfl) (lk rfl) (So.gn (b := false) rfl rfl rfl (lk rfl) (lk rfl) (So.gn (b := false) rfl rfl rfl (lk rfl) (lk rfl) (So.gn (b := false) rfl rfl rfl (lk rfl) (lk rfl) (So.q rfl rfl (V.pkFalse (u := .p (.v (.bool false))) rfl rfl (So.q rfl rfl (V.as (v := .p (.v (.bool false))) rfl (So.e ?_))))))))
   show HT _ _ _ _ _
   refine HT.ret ?_
   exact ret_ok (sg []) h rfl rfl rfl trivial ⟨trivial, trivial⟩ rfl ⟨⟨⟨le_bool (by (exact (decide_eq_false (fun h9 => by obtain ⟨_, h1, h2, h3, h4⟩ := h9; omega)).symm)), trivial⟩, trivial⟩, trivial⟩
def rtake1Sp : Sp := ⟨[1], mkE (α := Int × (List UInt8) × Int) (fun (k, b, gen) => [.agg 2 (fun j => ([.v (.int .i64 k), .bs b] : List PV).getD j (.v undef)), .ptr 1 0]) (fun (k, b, gen) => [(1, ⟨2, 1, 1, true, .cells [.p (.v (.int .i64 gen))]⟩)]) (fun (k, b, gen) => True) (fun (k, b, gen) => [.p (.v (.bool (decide (k = gen))))]) (fun (k, b, gen) => [(1, ⟨2, 1, 1, true, .cells [.p (.v (.int .i64 gen))]⟩)])⟩
def S_rtake1 : FuncId → Option Sp := fun _ => none
theorem S_rtake1_ok : ∀ f s, S_rtake1 f = some s → FOK Tryd.prog gl f s := fun f s h => by cases h
set_option maxHeartbeats 1000000 in
set_option maxRecDepth 20000 in
theorem rtake1_ok : FOK Tryd.prog gl 23 rtake1Sp := by
 refine FOK.ofE (tyOf_ok Tryd.prog) (slots := [3]) (nt := 8) Tryd.func23 rfl rfl rfl rfl (by decide) 2 (fun ⟨_, _, _⟩ => rfl) (by decide) (fun ⟨_, _, _⟩ => ⟨trivial, rfl, trivial⟩) ?_
 rintro ⟨k, b, gen⟩ kk hlen hpre h
 replace hpre : True := hpre
 show HT (cx Tryd.prog 8 (tyOf Tryd.prog) gl [1]) _ [(0, .agg 2 (fun j => ([.v (.int .i64 k), .bs b] : List PV).getD j (.v undef))), (1, .ptr 1 0)] [(1, ⟨2, 1, 1, true, .cells [.p (.v (.int .i64 gen))]⟩)] _
 refine HT.seq (HT.region S_rtake1_ok (So.n (lk rfl) (A.boxAg 2 1 (n := 2) rfl (by intro j hj; (match j, hj with | 0, _ => (trivial) | 1, _ => (trivial))) rfl ⟨lk rfl, trivial⟩ (So.q rfl rfl (V.as (v := .p (.v (.bool false))) rfl (So.e (HT.seq (HT.region S_rtake1_ok (So.q rfl rfl (V.faPtr ty35 rfl ty2 (lk rfl) rfl rfl (lk rfl) (So.q rfl rfl (V.ldPtr ty2 rfl rfl rfl (lk rfl) (v := .p (.v (.int .i64 _))) rfl (So.q rfl rfl (V.ldPtr ty2 rfl rfl rfl (lk rfl) (v := .p (.v (.int .i64 _))) rfl ?_))))))))))))))
 refine So.q rfl rfl (V.bin (a := .v (.int .i64 _)) (b := .v (.int .i64 _)) (r := .v (.bool _)) rfl rfl rfl trivial (So.q rfl rfl (V.as (v := .p (.v (.bool _))) rfl (So.e ?_))))
 show HT _ _ _ _ _
 refine HT.ret ?_
 exact ret_ok (sg [(1, 1)]) h rfl rfl rfl ⟨⟨trivial, trivial⟩, trivial⟩ ⟨trivial, trivial⟩ rfl ⟨⟨⟨le_bool (by first | rfl), trivial⟩, trivial⟩, ⟨⟨_, rfl, .inl (by rfl), ⟨trivial, trivial⟩⟩, trivial⟩⟩
def ridxSp : Sp := ⟨[1], mkE (α := KL × Int) (fun (K, gen) => [.p (.sl (K.length) 2 (kR K)), .clo 23 [.ptr 1 0]]) (fun (K, gen) => [(1, ⟨2, 1, 1, true, .cells [.p (.v (.int .i64 gen))]⟩)]) (fun (K, gen) => True) (fun (K, gen) => [.p (.v (.int .i64 (idxF K gen)))]) (fun (K, gen) => [(1, ⟨2, 1, 1, true, .cells [.p (.v (.int .i64 gen))]⟩)])⟩
def S_ridx : FuncId → Option Sp := fun f => if f = 23 then some rtake1Sp else none
theorem S_ridx_ok : ∀ f s, S_ridx f = some s → FOK Tryd.prog gl f s := fun f s h => by
 unfold S_ridx at h
 split at h
 ·rename_i e; cases h; subst e; exact rtake1_ok
 cases h
set_option maxHeartbeats 1000000 in
set_option maxRecDepth 20000 in
theorem ridx_ok : FOK Tryd.prog gl 22 ridxSp := by
 refine FOK.ofE (tyOf_ok Tryd.prog) (slots := [4]) (nt := 19) Tryd.func22 rfl rfl rfl rfl (by decide) 2 (fun ⟨_, _⟩ => rfl) (by decide) (fun ⟨_, _⟩ => ⟨trivial, ⟨rfl, trivial⟩, trivial⟩) ?_
 rintro ⟨K, gen⟩ kk hlen hpre h
 have hl0 : K.length ≤ 9223372036854775807 := hlen.1
 replace hpre : True := hpre
 show HT (cx Tryd.prog 19 (tyOf Tryd.prog) gl [1]) _ [(0, .p (.sl (K.length) 2 (kR K))), (1, .clo 23 [.ptr 1 0])] [(1, ⟨2, 1, 1, true, .cells [.p (.v (.int .i64 gen))]⟩)] _
 refine HT.seq (HT.region S_ridx_ok (So.q rfl rfl (V.as (v := .p (.v (.int .i64 0))) rfl (So.e (HT.seq (HT.seq (HT.region S_ridx_ok (So.q rfl rfl (V.mv (v := .p (.sl _ 2 _)) rfl (So.q rfl rfl (V.len ty24 (v := .p (.sl _ 2 _)) rfl rfl (So.q rfl rfl (V.mv (v := .p (.v (.int .i64 0))) rfl ?_)))))))))))))
 refine So.e (HT.block ?_)
 refine R.loop (σ := Nat) (fun n => [(8, .p (.v (.int .i64 ((n : Int)))))]) (fun n => []) [0, 1, 7] [1] (fun n => n ≤ K.length ∧ idxF K gen = idxN K gen (K.length - n) n) (fun n => K.length - n) (0) (fr0 := [(0, .p (.sl _ 2 _)), (1, .clo 23 [.ptr 1 _]), (7, .p (.v (.int .i64 _)))]) (O0 := [(1, ⟨_, _, _, _, .cells _⟩)]) rfl rfl (by exact ⟨Nat.zero_le _, rfl⟩) ⟨⟨⟨le_int (by rfl), trivial⟩, ⟨.refl _, trivial⟩, ⟨.refl _, ⟨rfl, trivial⟩⟩, ⟨.refl _, trivial⟩, trivial⟩, ⟨⟨_, rfl, .inl rfl, ⟨trivial, trivial⟩⟩, trivial⟩⟩ (fun n hP0 => ?_)
 refine HT.seq (HT.region S_ridx_ok (So.q rfl rfl (V.bin (a := (.v (.int .i64 ((_ : Nat) : Int)))) (b := .v (.int .i64 _)) (r := .v (.bool _)) rfl rfl rfl trivial (So.e (HT.seq ?_)))))
 refine R.cond rfl rfl (fun h1 => ?_) (fun h1 => ?_)
 ·have h1 := of_decide_eq_true h1
  refine HT.skip (HT.seq (HT.block (HT.seq (HT.region S_ridx_ok (So.q rfl rfl (V.mv (v := .p (.v (.int .i64 ((_ : Nat) : Int)))) rfl (So.q rfl rfl (V.as (v := .p (.v (.int .i64 ((_ : Nat) : Int)))) rfl (So.e (HT.seq (HT.region S_ridx_ok ?_)))))))))))
  refine So.q rfl rfl (V.mv (v := .clo 23 [.ptr 1 _]) rfl (So.q rfl rfl (V.mv (v := .p (.sl _ 2 _)) rfl (So.q rfl rfl (V.mv (v := .p (.v (.int .i64 ((_ : Nat) : Int)))) rfl (So.q rfl rfl (V.ixSlS ty24 ty35 (s := 2) rfl (by decide) rfl rfl (by omega) (Int.toNat_natCast _) (So.q rfl rfl (V.ldRpA ty35 rfl rfl (lk rfl) ?_)))))))))
  refine So.n (lk rfl) (A.call [.agg 2 _, .ptr 1 _] [(1, ⟨_, _, _, _, .cells [.p (.v (.int .i64 _))]⟩)] (sg [(1, 1)]) 2 rfl rfl rfl rfl ⟨rfl, trivial⟩ rfl ⟨⟨trivial, trivial⟩, trivial⟩ ⟨trivial, rfl, trivial⟩ ⟨lk rfl, trivial⟩ rfl (kG K n, kB K n, gen) ⟨le_agg (fun j hj => by match j, hj with | 0, _ => exact kR_0 K n | 1, _ => exact kR_1 K n), .refl _, trivial⟩ ⟨⟨_, rfl, .inl rfl, ⟨trivial, trivial⟩⟩, trivial⟩ (by trivial) (Φ := fun _ => True) (fun _ _ => trivial) ⟨⟨_, _, rfl, rfl, rfl, Nat.le_refl _⟩, trivial⟩ (.inl rfl) rfl (v := .p (.v (.bool _))) rfl (O' := (1, ⟨_, _, _, _, .cells _⟩) :: _) rfl (fun h2 => ?_))
  refine So.e ?_
  show HT _ _ _ _ _
  refine R.cond rfl rfl (fun h3 => ?_) (fun h3 => ?_)
  ·have h3 := of_decide_eq_true h3
   refine HT.seq (HT.region S_ridx_ok (So.q rfl rfl (V.mv (v := .p (.v (.int .i64 ((_ : Nat) : Int)))) rfl (So.q rfl rfl (V.as (v := .p (.v (.int .i64 ((_ : Nat) : Int)))) rfl (So.e ?_))))))
   show HT _ _ _ _ _
   refine HT.ret ?_
   exact ret_ok (sg [(1, 1)]) h rfl rfl rfl ⟨⟨trivial, trivial⟩, trivial⟩ ⟨trivial, trivial⟩ rfl ⟨⟨⟨le_int (by (exact (idx_hit (by omega) (by assumption) hP0.2).symm)), trivial⟩, trivial⟩, ⟨⟨_, rfl, .inl (by rfl), ⟨trivial, trivial⟩⟩, trivial⟩⟩
  ·have h3 := of_decide_eq_false h3
   refine HT.skip (HT.region S_ridx_ok (So.q rfl rfl (V.addI rfl rfl (by omega) (So.q rfl rfl (V.mv (v := .p (.v (.int .i64 _))) rfl (So.e ?_))))))
   refine ⟨n + 1, by exact ⟨by omega, idx_step (by omega) (by assumption) hP0.2⟩, by omega, ⟨⟨⟨le_int (by rfl), trivial⟩, ⟨.refl _, trivial⟩, ⟨.refl _, ⟨rfl, trivial⟩⟩, ⟨.refl _, trivial⟩, trivial⟩, ⟨⟨_, rfl, .inl rfl, ⟨trivial, trivial⟩⟩, trivial⟩⟩⟩
 ·have h1 := of_decide_eq_false h1
  refine HT.exit ?_
  show HT _ _ _ _ _
  refine HT.seq (HT.region S_ridx_ok (So.q rfl rfl (V.as (v := .p (.v (.int .i64 (-1)))) rfl (So.e ?_))))
  show HT _ _ _ _ _
  refine HT.ret ?_
  exact ret_ok (sg [(1, 1)]) h rfl rfl rfl ⟨⟨trivial, trivial⟩, trivial⟩ ⟨trivial, trivial⟩ rfl ⟨⟨⟨le_int (by (have hnK : n = K.length := (by omega); subst hnK; exact (idx_end hP0.2).symm)), trivial⟩, trivial⟩, ⟨⟨_, rfl, .inl (by rfl), ⟨trivial, trivial⟩⟩, trivial⟩⟩
def rgrowSp : Sp := ⟨[], mkE (α := Int) (fun n => [.p (.v (.slice none 0 0)), .p (.v (.int .i64 n))]) (fun n => []) (fun n => 0 ≤ n ∧ n ≤ 1000000) (fun n => [.own 2 0 (0)]) (fun n => [(2, ⟨35, 2, n.toNat * 2, true, .rows (zK)⟩)])⟩
def S_rgrow : FuncId → Option Sp := fun _ => none
theorem S_rgrow_ok : ∀ f s, S_rgrow f = some s → FOK Tryd.prog gl f s := fun f s h => by cases h
set_option maxHeartbeats 1000000 in
set_option maxRecDepth 20000 in
theorem rgrow_ok : FOK Tryd.prog gl 34 rgrowSp := by
 refine FOK.ofE (tyOf_ok Tryd.prog) (slots := [4]) (nt := 27) Tryd.func34 rfl rfl rfl rfl (by decide) 2 (fun _ => rfl) (by decide) (fun _ => ⟨trivial, trivial, trivial⟩) ?_
 rintro n kk hlen hpre h
 replace hpre : 0 ≤ n ∧ n ≤ 1000000 := hpre
 show HT (cx Tryd.prog 27 (tyOf Tryd.prog) gl []) _ [(0, .p (.v (.slice none 0 0))), (1, .p (.v (.int .i64 n)))] [] _
 refine HT.seq (HT.region S_rgrow_ok (So.q rfl rfl (V.as (v := .p (.v (.slice none 0 0))) rfl (So.e (HT.seq (HT.seq (HT.region S_rgrow_ok (So.q rfl rfl (V.mv (v := .p (.v (.int .i64 _))) rfl (So.q rfl rfl (V.bin (a := .v (.int .i64 _)) (b := .v (.int .i64 0)) (r := .v (.bool _)) rfl rfl rfl trivial (So.e ?_))))))))))))
 show HT _ _ _ _ _
 refine R.cond rfl rfl (fun h1 => ?_) (fun h1 => ?_)
 ·have h1 := of_decide_eq_true h1
  exact absurd h1 (by omega)
 ·have h1 := of_decide_eq_false h1
  refine HT.skip (HT.seq (HT.seq (HT.region S_rgrow_ok (So.q rfl rfl (V.mv (v := .p (.v (.int .i64 _))) rfl (So.q rfl rfl (V.mv (v := .p (.v (.slice none 0 0))) rfl (So.n (lk rfl) (A.cap0 ty24 rfl (So.q rfl rfl (V.mv (v := .p (.v (.slice none 0 0))) rfl (So.q rfl rfl (V.len ty24 (v := .p (.v (.slice none 0 0))) rfl rfl (So.q rfl rfl (V.subI rfl rfl (by omega) ?_)))))))))))))))
  refine So.q rfl rfl (V.subI rfl rfl (by omega) (So.q rfl rfl (V.as (v := .p (.v (.int .i64 _))) rfl (So.e (HT.seq (HT.region S_rgrow_ok (So.q rfl rfl (V.mv (v := .p (.v (.int .i64 _))) rfl (So.q rfl rfl (V.bin (a := .v (.int .i64 _)) (b := .v (.int .i64 0)) (r := .v (.bool _)) rfl rfl rfl trivial (So.e ?_)))))))))))
  show HT _ _ _ _ _
  refine R.cond rfl rfl (fun h2 => ?_) (fun h2 => ?_)
  ·have h2 := of_decide_eq_true h2
   refine HT.region S_rgrow_ok (So.q rfl rfl (V.mv (v := .p (.v (.slice none 0 0))) rfl (So.q rfl rfl (V.mv (v := .p (.v (.slice none 0 0))) rfl (So.n (lk rfl) (A.cap0 ty24 rfl (So.q rfl rfl (V.cutNil ty24 ty35 rfl rfl rfl (by omega) (.inl rfl) (So.q rfl rfl (V.mv (v := .p (.v (.int .i64 _))) rfl (So.n (lk rfl) (A.apzR 1 ty24 ty3 ty35 rfl rfl (by decide) (by omega) rfl rfl rfl rfl trivial (So.q rfl rfl (V.mv (v := .p (.v (.slice none 0 0))) rfl (So.q rfl rfl (V.len ty24 (v := .p (.v (.slice none 0 0))) rfl rfl (So.q rfl rfl (V.cutOwnH ty24 ty35 rfl rfl rfl rfl (by omega) (.inl rfl) rfl ?_))))))))))))))))))
   refine So.q rfl rfl (V.as (v := .own 1 0 _) rfl (So.e (HT.seq (HT.region S_rgrow_ok (So.q rfl rfl (V.mv (v := .own 1 0 _) rfl (So.q rfl rfl (V.as (v := .own 1 0 _) rfl (So.e ?_)))))))))
   show HT _ _ _ _ _
   refine HT.ret ?_
   exact ret_ok (sg [(2, 1)]) h rfl rfl rfl ⟨trivial, trivial⟩ ⟨rfl, trivial⟩ rfl ⟨⟨⟨le_own2 (by rfl) (by rfl), rfl⟩, trivial⟩, ⟨⟨_, rfl, .inr (ob_rows (by ((try dsimp only); (omega))) (by ((try dsimp only); ((intro j hj; exact zK_eq j))))), trivial⟩, trivial⟩⟩
  ·have h2 := of_decide_eq_false h2
   refine HT.skip (HT.seq (HT.region S_rgrow_ok (So.q rfl rfl (V.mv (v := .p (.v (.slice none 0 0))) rfl (So.q rfl rfl (V.as (v := .p (.v (.slice none 0 0))) rfl (So.e ?_)))))))
   show HT _ _ _ _ _
   refine R.phan 4 1 35 2 (.rows zK) rfl rfl rfl trivial ?_
   refine HT.ret ?_
   exact ret_ok (sg [(2, 1)]) h rfl rfl rfl ⟨trivial, trivial⟩ ⟨rfl, trivial⟩ rfl ⟨⟨⟨le_own2 (by rfl) (by rfl), rfl⟩, trivial⟩, ⟨⟨_, rfl, .inr (ob_rows (by ((try dsimp only); (omega))) (by ((try dsimp only); (omega)))), trivial⟩, trivial⟩⟩
def rconcatSp : Sp := ⟨[], mkE (α := Nat × Nat × (Nat → PV) × (Nat → PV)) (fun (n1, n2, f1, f2) => [.own 1 0 (2)]) (fun (n1, n2, f1, f2) => [(1, ⟨24, 1, 2, true, .rows (fun j => ([.sl n1 2 f1, .sl n2 2 f2] : List PV).getD j (.v undef))⟩)]) (fun (n1, n2, f1, f2) => n1 + n2 ≤ 1000000 ∧ (∀ j, (f1 j).one) ∧ ∀ j, (f2 j).one) (fun (n1, n2, f1, f2) => [.own 2 0 (n1 + n2)]) (fun (n1, n2, f1, f2) => [(2, ⟨35, 2, (n1 + n2) * 2, true, .rows (fun j => if j < n1 * 2 then f1 j else f2 (j - n1 * 2))⟩)])⟩
def S_rconcat : FuncId → Option Sp := fun f => if f = 34 then some rgrowSp else none
theorem S_rconcat_ok : ∀ f s, S_rconcat f = some s → FOK Tryd.prog gl f s := fun f s h => by
 unfold S_rconcat at h
 split at h
 ·rename_i e; cases h; subst e; exact rgrow_ok
 cases h
set_option maxHeartbeats 1000000 in
set_option maxRecDepth 20000 in
theorem rconcat_ok : FOK Tryd.prog gl 24 rconcatSp := by
 refine FOK.ofE (tyOf_ok Tryd.prog) (slots := [2]) (nt := 36) Tryd.func24 rfl rfl rfl rfl (by decide) 1 (fun ⟨_, _, _, _⟩ => rfl) (by decide) (fun ⟨_, _, _, _⟩ => ⟨rfl, trivial⟩) ?_
 rintro ⟨n1, n2, f1, f2⟩ kk hlen hpre h
 have hl0 : _ ≤ 9223372036854775807 := hlen.1
 replace hpre : n1 + n2 ≤ 1000000 ∧ (∀ j, (f1 j).one) ∧ ∀ j, (f2 j).one := hpre
 show HT (cx Tryd.prog 36 (tyOf Tryd.prog) gl []) _ [(0, .own 1 0 (2))] [(1, ⟨24, 1, 2, true, .rows (fun j => ([.sl n1 2 f1, .sl n2 2 f2] : List PV).getD j (.v undef))⟩)] _
 refine HT.seq (HT.region S_rconcat_ok (So.q rfl rfl (V.as (v := .p (.v (.slice none 0 0))) rfl (So.e (HT.seq (HT.region S_rconcat_ok (So.q rfl rfl (V.as (v := .p (.v (.int .i64 0))) rfl (So.e (HT.seq (HT.seq ?_)))))))))))
 refine HT.region S_rconcat_ok (So.q rfl rfl (V.mv (v := .own 1 0 _) rfl (So.q rfl rfl (V.len ty61 (v := .own 1 0 _) rfl rfl (So.q rfl rfl (V.mv (v := .p (.v (.int .i64 0))) rfl (So.e (HT.block ?_))))))))
 refine HT.rounds 3 ?_
 show HT _ _ _ _ _
 refine HT.seq (HT.region S_rconcat_ok (So.q rfl rfl (V.bin (a := .v (.int .i64 _)) (b := .v (.int .i64 _)) (r := .v (.bool _)) rfl rfl rfl trivial (So.e (HT.seq ?_)))))
 refine R.cond rfl rfl (fun h1 => ?_) (fun h1 => ?_)
 ·have h1 := of_decide_eq_true h1
  refine HT.skip (HT.seq (HT.block (HT.seq (HT.region S_rconcat_ok (So.q rfl rfl (V.ixOwn10 ty61 ty24 rfl rfl rfl rfl rfl (by omega) rfl (So.q rfl rfl (V.ldPtr ty24 rfl rfl rfl (by (show _ < 2; omega)) (v := .p (.sl _ 2 _)) rfl (So.q rfl rfl (V.as (v := .p (.sl _ 2 _)) rfl (So.e (HT.seq ?_))))))))))))
  refine HT.region S_rconcat_ok (So.q rfl rfl (V.mv (v := .p (.v (.int .i64 _))) rfl (So.q rfl rfl (V.mv (v := .p (.sl _ 2 _)) rfl (So.q rfl rfl (V.len ty24 (v := .p (.sl _ 2 _)) rfl rfl (So.q rfl rfl (V.addI rfl rfl (by omega) (So.q rfl rfl (V.as (v := .p (.v (.int .i64 _))) rfl (So.e (HT.seq (HT.region S_rconcat_ok (So.q rfl rfl (V.mv (v := .p (.v (.int .i64 _))) rfl ?_)))))))))))))))
  refine So.q rfl rfl (V.bin (a := .v (.int .i64 _)) (b := .v (.int .i64 0)) (r := .v (.bool _)) rfl rfl rfl trivial (So.e ?_))
  show HT _ _ _ _ _
  refine R.cond rfl rfl (fun h2 => ?_) (fun h2 => ?_)
  ·have h2 := of_decide_eq_true h2
   exfalso; omega
  ·have h2 := of_decide_eq_false h2
   refine HT.skip (HT.region S_rconcat_ok (So.q rfl rfl (V.addI rfl rfl (by omega) (So.q rfl rfl (V.mv (v := .p (.v (.int .i64 _))) rfl (So.e (HT.seq (HT.region S_rconcat_ok (So.q rfl rfl (V.bin (a := .v (.int .i64 _)) (b := .v (.int .i64 _)) (r := .v (.bool _)) rfl rfl rfl trivial (So.e (HT.seq ?_))))))))))))
   refine R.cond rfl rfl (fun h3 => ?_) (fun h3 => ?_)
   ·have h3 := of_decide_eq_true h3
    refine HT.skip (HT.seq (HT.block (HT.seq (HT.region S_rconcat_ok (So.q rfl rfl (V.ixOwn10 ty61 ty24 rfl rfl rfl rfl rfl (by omega) rfl (So.q rfl rfl (V.ldPtr ty24 rfl rfl rfl (by (show _ < 2; omega)) (v := .p (.sl _ 2 _)) rfl (So.q rfl rfl (V.as (v := .p (.sl _ 2 _)) rfl (So.e (HT.seq ?_))))))))))))
    refine HT.region S_rconcat_ok (So.q rfl rfl (V.mv (v := .p (.v (.int .i64 _))) rfl (So.q rfl rfl (V.mv (v := .p (.sl _ 2 _)) rfl (So.q rfl rfl (V.len ty24 (v := .p (.sl _ 2 _)) rfl rfl (So.q rfl rfl (V.addI rfl rfl (by omega) (So.q rfl rfl (V.as (v := .p (.v (.int .i64 _))) rfl (So.e (HT.seq (HT.region S_rconcat_ok (So.q rfl rfl (V.mv (v := .p (.v (.int .i64 _))) rfl ?_)))))))))))))))
    refine So.q rfl rfl (V.bin (a := .v (.int .i64 _)) (b := .v (.int .i64 0)) (r := .v (.bool _)) rfl rfl rfl trivial (So.e ?_))
    show HT _ _ _ _ _
    refine R.cond rfl rfl (fun h4 => ?_) (fun h4 => ?_)
    ·have h4 := of_decide_eq_true h4
     exfalso; omega
    ·have h4 := of_decide_eq_false h4
     refine HT.skip (HT.region S_rconcat_ok (So.q rfl rfl (V.addI rfl rfl (by omega) (So.q rfl rfl (V.mv (v := .p (.v (.int .i64 _))) rfl (So.e (HT.seq (HT.region S_rconcat_ok (So.q rfl rfl (V.bin (a := .v (.int .i64 _)) (b := .v (.int .i64 _)) (r := .v (.bool _)) rfl rfl rfl trivial (So.e (HT.seq ?_))))))))))))
     refine R.cond rfl rfl (fun h5 => ?_) (fun h5 => ?_)
     ·have h5 := of_decide_eq_true h5
      exfalso; omega
     ·have h5 := of_decide_eq_false h5
      refine HT.exit ?_
      show HT _ _ _ _ _
      refine HT.seq (HT.region S_rconcat_ok (So.q rfl rfl (V.mv (v := .p (.v (.int .i64 _))) rfl ?_)))
      refine So.n (lk rfl) (A.call0 [.p (.v (.slice none 0 0)), .p (.v (.int .i64 _))] 2 rfl rfl rfl rfl ⟨trivial, trivial, trivial⟩ trivial _ ⟨.refl _, .refl _, trivial⟩ trivial (by omega) (Φ := fun _ => True) (fun _ _ => trivial) (.inl rfl) (v := .own 4 0 _) rfl (O' := (4, ⟨35, 2, _, true, .rows _⟩) :: _) rfl (fun h6 => ?_))
      refine So.q rfl rfl (V.as (v := .own 4 0 _) rfl (So.e (HT.seq (HT.seq (HT.region S_rconcat_ok (So.q rfl rfl (V.mv (v := .own 1 0 _) rfl (So.q rfl rfl (V.len ty61 (v := .own 1 0 _) rfl rfl (So.q rfl rfl (V.mv (v := .p (.v (.int .i64 0))) rfl (So.e (HT.block ?_)))))))))))))
      refine HT.rounds 3 ?_
      show HT _ _ _ _ _
      refine HT.seq (HT.region S_rconcat_ok (So.q rfl rfl (V.bin (a := .v (.int .i64 _)) (b := .v (.int .i64 _)) (r := .v (.bool _)) rfl rfl rfl trivial (So.e (HT.seq ?_)))))
      refine R.cond rfl rfl (fun h7 => ?_) (fun h7 => ?_)
      ·have h7 := of_decide_eq_true h7
       refine HT.skip (HT.seq (HT.block (HT.seq (HT.region S_rconcat_ok (So.q rfl rfl (V.ixOwn10 ty61 ty24 rfl rfl rfl rfl rfl (by omega) rfl (So.q rfl rfl (V.ldPtr ty24 rfl rfl rfl (by (show _ < 2; omega)) (v := .p (.sl _ 2 _)) rfl (So.q rfl rfl (V.as (v := .p (.sl _ 2 _)) rfl (So.e (HT.region S_rconcat_ok ?_))))))))))))
       refine So.q rfl rfl (V.mv (v := .own 4 0 _) rfl (So.q rfl rfl (V.mv (v := .p (.sl _ 2 _)) rfl (So.n (lk rfl) (A.apRows ty24 ty35 rfl rfl rfl (lk rfl) (lk rfl) rfl rfl (u := .p (.sl _ 2 _)) rfl rfl (by exact fun j _ => hpre.2.1 j) rfl (by (simp; omega)) rfl rfl rfl (So.q rfl rfl (V.as (v := .own 4 0 _) rfl (So.e (HT.region S_rconcat_ok (So.q rfl rfl (V.addI rfl rfl (by omega) (So.q rfl rfl (V.mv (v := .p (.v (.int .i64 _))) rfl (So.e (HT.seq ?_)))))))))))))))
       refine HT.region S_rconcat_ok (So.q rfl rfl (V.bin (a := .v (.int .i64 _)) (b := .v (.int .i64 _)) (r := .v (.bool _)) rfl rfl rfl trivial (So.e (HT.seq ?_))))
       refine R.cond rfl rfl (fun h8 => ?_) (fun h8 => ?_)
       ·have h8 := of_decide_eq_true h8
        refine HT.skip (HT.seq (HT.block (HT.seq (HT.region S_rconcat_ok (So.q rfl rfl (V.ixOwn10 ty61 ty24 rfl rfl rfl rfl rfl (by omega) rfl (So.q rfl rfl (V.ldPtr ty24 rfl rfl rfl (by (show _ < 2; omega)) (v := .p (.sl _ 2 _)) rfl (So.q rfl rfl (V.as (v := .p (.sl _ 2 _)) rfl (So.e (HT.region S_rconcat_ok ?_))))))))))))
        refine So.q rfl rfl (V.mv (v := .own 4 0 _) rfl (So.q rfl rfl (V.mv (v := .p (.sl _ 2 _)) rfl (So.n (lk rfl) (A.apRows ty24 ty35 rfl rfl rfl (lk rfl) (lk rfl) rfl rfl (u := .p (.sl _ 2 _)) rfl rfl (by exact fun j _ => hpre.2.2 j) rfl (by (simp; omega)) rfl rfl rfl (So.q rfl rfl (V.as (v := .own 4 0 _) rfl (So.e (HT.region S_rconcat_ok (So.q rfl rfl (V.addI rfl rfl (by omega) (So.q rfl rfl (V.mv (v := .p (.v (.int .i64 _))) rfl (So.e (HT.seq ?_)))))))))))))))
        refine HT.region S_rconcat_ok (So.q rfl rfl (V.bin (a := .v (.int .i64 _)) (b := .v (.int .i64 _)) (r := .v (.bool _)) rfl rfl rfl trivial (So.e (HT.seq ?_))))
        refine R.cond rfl rfl (fun h9 => ?_) (fun h9 => ?_)
        ·have h9 := of_decide_eq_true h9
         exfalso; omega
        ·have h9 := of_decide_eq_false h9
         refine HT.exit ?_
         show HT _ _ _ _ _
         refine HT.seq (HT.region S_rconcat_ok (So.q rfl rfl (V.mv (v := .own 4 0 _) rfl (So.q rfl rfl (V.as (v := .own 4 0 _) rfl (So.e ?_))))))
         show HT _ _ _ _ _
         refine HT.ret ?_
         exact ret_ok (sg [(2, 4)]) h rfl rfl rfl ⟨trivial, trivial⟩ ⟨rfl, trivial⟩ rfl ⟨⟨⟨le_own2 (by rfl) (by omega), rfl⟩, trivial⟩, ⟨⟨_, rfl, .inr (ob_rows (by ((try dsimp only); (omega))) (by ((try dsimp only); ((simp; done))))), trivial⟩, trivial⟩⟩
       ·have h8 := of_decide_eq_false h8
        exfalso; omega
      ·have h7 := of_decide_eq_false h7
       exfalso; omega
   ·have h3 := of_decide_eq_false h3
    exfalso; omega
 ·have h1 := of_decide_eq_false h1
  exfalso; omega
def rcloneSp : Sp := ⟨[], mkE (α := KL) (fun K => [.p (.sl (K.length) 2 (kR K))]) (fun K => []) (fun K => K.length ≤ 1000000) (fun K => [.own 2 0 (K.length)]) (fun K => [(2, ⟨35, 2, K.length * 2, true, .rows (kR K)⟩)])⟩
def S_rclone : FuncId → Option Sp := fun _ => none
theorem S_rclone_ok : ∀ f s, S_rclone f = some s → FOK Tryd.prog gl f s := fun f s h => by cases h
set_option maxHeartbeats 1000000 in
set_option maxRecDepth 20000 in
theorem rclone_ok : FOK Tryd.prog gl 25 rcloneSp := by
 refine FOK.ofE (tyOf_ok Tryd.prog) (slots := [2]) (nt := 8) Tryd.func25 rfl rfl rfl rfl (by decide) 1 (fun _ => rfl) (by decide) (fun _ => ⟨trivial, trivial⟩) ?_
 rintro K kk hlen hpre h
 have hl0 : K.length ≤ 9223372036854775807 := hlen.1
 replace hpre : K.length ≤ 1000000 := hpre
 show HT (cx Tryd.prog 8 (tyOf Tryd.prog) gl []) _ [(0, .p (.sl (K.length) 2 (kR K)))] [] _
 refine HT.seq (HT.region S_rclone_ok (So.q rfl rfl (V.as (v := .p (.v (.slice none 0 0))) rfl (So.e (HT.seq (HT.seq (HT.region S_rclone_ok (So.q rfl rfl (V.mv (v := .p (.sl _ 2 _)) rfl (So.n (lk rfl) (A.eqNilSl ty24 rfl rfl (fun h1 => ?_) ?_)))))))))))
 ·refine So.e ?_
  show HT _ _ _ _ _
  refine R.condT rfl ?_
  refine HT.seq (HT.region S_rclone_ok (So.q rfl rfl (V.as (v := .p (.v (.slice none 0 0))) rfl (So.e ?_))))
  show HT _ _ _ _ _
  refine R.phan 2 1 35 2 (.rows (kR K)) rfl rfl rfl trivial ?_
  refine HT.ret ?_
  exact ret_ok (sg [(2, 1)]) h rfl rfl rfl ⟨trivial, trivial⟩ ⟨rfl, trivial⟩ rfl ⟨⟨⟨le_own2 (by rfl) (by omega), rfl⟩, trivial⟩, ⟨⟨_, rfl, .inr (ob_rows (by ((try dsimp only); (omega))) (by ((try dsimp only); (omega)))), trivial⟩, trivial⟩⟩
 ·refine So.e ?_
  show HT _ _ _ _ _
  refine R.condF rfl ?_
  refine HT.skip (HT.seq (HT.region S_rclone_ok (So.n (lk rfl) (A.bsl 1 ty24 ty35 rfl (lk rfl) (lk rfl) (fun h => Bool.noConfusion (show false = true from h)) rfl rfl trivial trivial rfl (N := 0) rfl (c := .rows _) rfl (So.q rfl rfl (V.mv (v := .p (.sl _ 2 _)) rfl (So.n (lk rfl) (A.apRows ty24 ty35 rfl rfl rfl (lk rfl) (lk rfl) rfl rfl (u := .p (.sl _ 2 _)) rfl rfl (by exact fun j _ => kR_oneP K j) rfl (by (simp; omega)) rfl rfl rfl (So.q rfl rfl (V.as (v := .own 1 0 _) rfl (So.e ?_)))))))))))
  show HT _ _ _ _ _
  refine HT.ret ?_
  exact ret_ok (sg [(2, 1)]) h rfl rfl rfl ⟨trivial, trivial⟩ ⟨rfl, trivial⟩ rfl ⟨⟨⟨le_own2 (by rfl) (by omega), rfl⟩, trivial⟩, ⟨⟨_, rfl, .inr (ob_rows (by ((try dsimp only); (omega))) (by ((try dsimp only); ((simp; done))))), trivial⟩, trivial⟩⟩
def fitsSp : Sp := ⟨[], mkE (α := Int) (fun n => [.p (.v (.int .i64 n))]) (fun n => []) (fun n => True) (fun n => [.p (.v (.bool (fitsF n)))]) (fun n => [])⟩
def S_fits : FuncId → Option Sp := fun _ => none
theorem S_fits_ok : ∀ f s, S_fits f = some s → FOK Tryd.prog gl f s := fun f s h => by cases h
set_option maxHeartbeats 1000000 in
set_option maxRecDepth 1000 in
theorem fits_ok : FOK Tryd.prog gl 44 fitsSp := by
 refine FOK.ofE (tyOf_ok Tryd.prog) (slots := [2]) (nt := 9) Tryd.func44 rfl rfl rfl rfl (by decide) 1 (fun _ => rfl) (by decide) (fun _ => ⟨trivial, trivial⟩) ?_
 rintro n kk hlen hpre h
 replace hpre : True := hpre
 show HT (cx Tryd.prog 9 (tyOf Tryd.prog) gl []) _ [(0, .p (.v (.int .i64 n)))] [] _
 refine HT.seq (HT.region S_fits_ok (So.q rfl rfl (V.as (v := .p (.v (.bool false))) rfl (So.e (HT.seq (HT.seq (HT.region S_fits_ok (So.q rfl rfl (V.mv (v := .p (.v (.int .i64 _))) rfl (So.e (HT.block ?_)))))))))))
 refine HT.seq (HT.seq (HT.region S_fits_ok (So.q rfl rfl (V.bin (a := .v (.int .i64 _)) (b := .v (.int .i64 1)) (r := .v (.bool _)) rfl rfl rfl trivial (So.q rfl rfl (V.as (v := .p (.v (.bool _))) rfl (So.e ?_)))))))
 show HT _ _ _ _ _
 refine R.cond rfl rfl (fun h1 => ?_) (fun h1 => ?_)
 ·have h1 := of_decide_eq_true h1
  refine HT.skip ?_
  show HT _ _ _ _ _
  refine R.condT rfl ?_
  refine HT.seq (HT.region S_fits_ok (So.q rfl rfl (V.as (v := .p (.v (.bool true))) rfl (So.e ?_))))
  show HT _ _ _ _ _
  refine HT.ret ?_
  exact ret_ok (sg []) h rfl rfl rfl trivial ⟨trivial, trivial⟩ rfl ⟨⟨⟨le_bool (by exact fits_t (by omega)), trivial⟩, trivial⟩, trivial⟩
 ·have h1 := of_decide_eq_false h1
  refine HT.seq (HT.region S_fits_ok (So.q rfl rfl (V.bin (a := .v (.int .i64 _)) (b := .v (.int .i64 2)) (r := .v (.bool _)) rfl rfl rfl trivial (So.q rfl rfl (V.as (v := .p (.v (.bool _))) rfl (So.e ?_))))))
  show HT _ _ _ _ _
  refine R.cond rfl rfl (fun h2 => ?_) (fun h2 => ?_)
  ·have h2 := of_decide_eq_true h2
   refine HT.skip ?_
   show HT _ _ _ _ _
   refine R.condT rfl ?_
   refine HT.seq (HT.region S_fits_ok (So.q rfl rfl (V.as (v := .p (.v (.bool true))) rfl (So.e ?_))))
   show HT _ _ _ _ _
   refine HT.ret ?_
   exact ret_ok (sg []) h rfl rfl rfl trivial ⟨trivial, trivial⟩ rfl ⟨⟨⟨le_bool (by exact fits_t (by omega)), trivial⟩, trivial⟩, trivial⟩
  ·have h2 := of_decide_eq_false h2
   refine HT.seq (HT.region S_fits_ok (So.q rfl rfl (V.bin (a := .v (.int .i64 _)) (b := .v (.int .i64 4)) (r := .v (.bool _)) rfl rfl rfl trivial (So.q rfl rfl (V.as (v := .p (.v (.bool _))) rfl (So.e ?_))))))
   show HT _ _ _ _ _
   refine R.cond rfl rfl (fun h3 => ?_) (fun h3 => ?_)
   ·have h3 := of_decide_eq_true h3
    refine HT.skip ?_
    show HT _ _ _ _ _
    refine R.condT rfl ?_
    refine HT.seq (HT.region S_fits_ok (So.q rfl rfl (V.as (v := .p (.v (.bool true))) rfl (So.e ?_))))
    show HT _ _ _ _ _
    refine HT.ret ?_
    exact ret_ok (sg []) h rfl rfl rfl trivial ⟨trivial, trivial⟩ rfl ⟨⟨⟨le_bool (by exact fits_t (by omega)), trivial⟩, trivial⟩, trivial⟩
   ·have h3 := of_decide_eq_false h3
    refine HT.region S_fits_ok (So.q rfl rfl (V.bin (a := .v (.int .i64 _)) (b := .v (.int .i64 8)) (r := .v (.bool _)) rfl rfl rfl trivial (So.q rfl rfl (V.as (v := .p (.v (.bool _))) rfl (So.e ?_)))))
    show HT _ _ _ _ _
    refine R.cond rfl rfl (fun h4 => ?_) (fun h4 => ?_)
    ·have h4 := of_decide_eq_true h4
     refine HT.seq (HT.region S_fits_ok (So.q rfl rfl (V.as (v := .p (.v (.bool true))) rfl (So.e ?_))))
     show HT _ _ _ _ _
     refine HT.ret ?_
     exact ret_ok (sg []) h rfl rfl rfl trivial ⟨trivial, trivial⟩ rfl ⟨⟨⟨le_bool (by exact fits_t (by omega)), trivial⟩, trivial⟩, trivial⟩
    ·have h4 := of_decide_eq_false h4
     refine HT.skip (HT.seq (HT.region S_fits_ok (So.q rfl rfl (V.as (v := .p (.v (.bool false))) rfl (So.e ?_)))))
     show HT _ _ _ _ _
     refine HT.ret ?_
     exact ret_ok (sg []) h rfl rfl rfl trivial ⟨trivial, trivial⟩ rfl ⟨⟨⟨le_bool (by exact fits_f (by omega)), trivial⟩, trivial⟩, trivial⟩
def numSp : Sp := ⟨[], mkE (α := Int × Int) (fun (n, k) => [.p (.v (.int .i64 n)), .p (.v (.int .i64 k))]) (fun (n, k) => []) (fun (n, k) => True) (fun (n, k) => [.own 1 0 ((numF n k).length)]) (fun (n, k) => [(1, ⟨5, 1, (numF n k).length, true, .bs (numF n k)⟩)])⟩
def S_num : FuncId → Option Sp := fun f => if f = 44 then some fitsSp else none
theorem S_num_ok : ∀ f s, S_num f = some s → FOK Tryd.prog gl f s := fun f s h => by
 unfold S_num at h
 split at h
 ·rename_i e; cases h; subst e; exact fits_ok
 cases h
set_option maxHeartbeats 1000000 in
set_option maxRecDepth 1000 in
theorem num_ok : FOK Tryd.prog gl 35 numSp := by
 refine FOK.ofE (tyOf_ok Tryd.prog) (slots := [4]) (nt := 45) Tryd.func35 rfl rfl rfl rfl (by decide) 2 (fun ⟨_, _⟩ => rfl) (by decide) (fun ⟨_, _⟩ => ⟨trivial, trivial, trivial⟩) ?_
 rintro ⟨n, k⟩ kk hlen hpre h
 replace hpre : True := hpre
 show HT (cx Tryd.prog 45 (tyOf Tryd.prog) gl []) _ [(0, .p (.v (.int .i64 n))), (1, .p (.v (.int .i64 k)))] [] _
 refine HT.seq (HT.region S_num_ok (So.q rfl rfl (V.as (v := .p (.v (.slice none 0 0))) rfl (So.e (HT.seq (HT.seq (HT.region S_num_ok (So.q rfl rfl (V.mv (v := .p (.v (.int .i64 _))) rfl ?_)))))))))
 refine So.n (lk rfl) (A.call0 [.p (.v (.int .i64 _))] 1 rfl rfl rfl rfl ⟨trivial, trivial⟩ trivial _ ⟨.refl _, trivial⟩ trivial (by trivial) (Φ := fun _ => True) (fun _ _ => trivial) (.inl rfl) (v := .p (.v (.bool _))) rfl (O' := _) rfl (fun h1 => ?_))
 refine So.q rfl rfl (V.not rfl (So.q rfl rfl (V.mv (v := .p (.v (.bool _))) rfl ?_)))
 refine So.gd rfl rfl (lk rfl) (lk rfl) (fun h2 => ?_) (fun h2 => ?_)
 ·have h2 := fitsT (bnF h2)
  refine A.v rfl (V.mv (v := .p (.v (.int .i64 _))) rfl (So.gy rfl rfl (lk rfl) (lk rfl) (A.v rfl (V.bin (a := .v (.int .i64 _)) (b := .v (.int .i64 0)) (r := .v (.bool _)) rfl rfl rfl trivial (So.q rfl rfl (V.pkFalse (u := .p (.v (.bool _))) rfl rfl (So.q rfl rfl (V.mv (v := .p (.v (.bool _))) rfl ?_))))))))
  refine So.gd rfl rfl (lk rfl) (lk rfl) (fun h3 => ?_) (fun h3 => ?_)
  ·have h3 := of_decide_eq_false h3
   refine A.v rfl (V.mv (v := .p (.v (.int .i64 _))) rfl (So.gy rfl rfl (lk rfl) (lk rfl) (A.v rfl (V.bin (a := .v (.int .i64 _)) (b := .v (.int .i64 8)) (r := .v (.bool _)) rfl rfl rfl trivial (So.gy rfl rfl (lk rfl) (lk rfl) (A.v rfl (V.mv (v := .p (.v (.bool _))) rfl ?_)))))))
   refine So.gd rfl rfl (lk rfl) (lk rfl) (fun h4 => ?_) (fun h4 => ?_)
   ·have h4 := of_decide_eq_true h4
    refine A.v rfl (V.mv (v := .p (.v (.int .i64 _))) rfl (So.gy rfl rfl (lk rfl) (lk rfl) (A.v rfl (V.mv (v := .p (.v (.int .i64 _))) rfl (So.gy rfl rfl (lk rfl) (lk rfl) (A.v rfl (V.mulI rfl rfl (by omega) (So.gy rfl rfl (lk rfl) (lk rfl) (A.v rfl (V.bin (a := .v (.int .i64 1)) (b := .v (.int .i64 _)) (r := .v (.int .i64 _)) rfl rfl rfl (by omega) (So.gy rfl rfl (lk rfl) (lk rfl) (A.v rfl (V.bin (a := .v (.int .i64 _)) (b := .v (.int .i64 _)) (r := .v (.bool _)) rfl rfl rfl trivial (So.gy rfl rfl (lk rfl) (lk rfl) ?_))))))))))))))
    refine A.v rfl (V.pkTrue (u := .p (.v (.bool _))) rfl rfl (So.q rfl rfl (V.pkFalse (u := .p (.v (.bool _))) rfl rfl (So.e ?_))))
    show HT _ _ _ _ _
    refine R.cond rfl rfl (fun h5 => ?_) (fun h5 => ?_)
    ·have h5 := of_decide_eq_true h5
     refine HT.seq (HT.region S_num_ok (So.q rfl rfl (V.as (v := .p (.v (.slice none 0 0))) rfl (So.e ?_))))
     show HT _ _ _ _ _
     refine R.phan 4 1 5 1 (.bs []) rfl rfl rfl ⟨rfl, rfl⟩ ?_
     refine HT.ret ?_
     exact ret_ok (sg [(1, 1)]) h rfl rfl rfl ⟨trivial, trivial⟩ ⟨rfl, trivial⟩ rfl ⟨⟨⟨le_own2 (by rfl) (by (rw [numF_big (by omega) (by omega)] <;> rfl)), rfl⟩, trivial⟩, ⟨⟨_, rfl, .inl (ob_bs (by ((try dsimp only); ((rw [numF_big (by omega) (by omega)] <;> rfl)))) (by ((try dsimp only); ((rw [numF_big (by omega) (by omega)] <;> rfl))))), trivial⟩, trivial⟩⟩
    ·have h5 := of_decide_eq_false h5
     refine HT.skip (HT.seq (HT.region S_num_ok (So.q rfl rfl (V.mv (v := .p (.v (.int .i64 _))) rfl (So.n (lk rfl) (A.mkB 1 ty22 ty5 rfl rfl rfl (by omega) rfl rfl trivial (So.q rfl rfl (V.as (v := .own 1 0 _) rfl (So.e (HT.seq (HT.seq (HT.region S_num_ok ?_))))))))))))
     refine So.q rfl rfl (V.mv (v := .own 1 0 _) rfl (So.q rfl rfl (V.len ty22 (v := .own 1 0 _) rfl rfl (So.q rfl rfl (V.mv (v := .p (.v (.int .i64 0))) rfl (So.e (HT.block ?_)))))))
     refine R.loop (σ := Nat) (fun s => [(29, .p (.v (.int .i64 ((s : Int)))))]) (fun s => [(1, ⟨5, 1, k.toNat, true, .bs (List.replicate (k.toNat - s) 0 ++ (numB n k.toNat).drop (k.toNat - s))⟩)]) [0, 1, 4, 5, 28] [] (fun s => s ≤ k.toNat) (fun s => k.toNat - s) (0) (fr0 := [(0, .p (.v (.int .i64 _))), (1, .p (.v (.int .i64 _))), (4, .p (.v (.slice none 0 0))), (5, .own 1 0 _), (28, .p (.v (.int .i64 _)))]) (O0 := []) rfl rfl (by omega) ⟨⟨⟨le_int (by rfl), trivial⟩, ⟨.refl _, trivial⟩, ⟨.refl _, trivial⟩, ⟨.refl _, trivial⟩, ⟨.refl _, rfl⟩, ⟨.refl _, trivial⟩, trivial⟩, ⟨⟨_, rfl, .inl (ob_bs (by rfl) (by ((try dsimp only); (simp [numB]; done)))), trivial⟩, trivial⟩⟩ (fun s hP0 => ?_)
     refine HT.seq (HT.region S_num_ok (So.q rfl rfl (V.bin (a := (.v (.int .i64 ((_ : Nat) : Int)))) (b := .v (.int .i64 _)) (r := .v (.bool _)) rfl rfl rfl trivial (So.e (HT.seq ?_)))))
     refine R.cond rfl rfl (fun h6 => ?_) (fun h6 => ?_)
     ·have h6 := of_decide_eq_true h6
      refine HT.skip (HT.seq (HT.block (HT.seq (HT.region S_num_ok (So.q rfl rfl (V.mv (v := .p (.v (.int .i64 ((_ : Nat) : Int)))) rfl (So.q rfl rfl (V.as (v := .p (.v (.int .i64 ((_ : Nat) : Int)))) rfl (So.e (HT.region S_num_ok (So.q rfl rfl (V.mv (v := .own 1 0 _) rfl ?_))))))))))))
      refine So.q rfl rfl (V.mv (v := .p (.v (.int .i64 _))) rfl (So.q rfl rfl (V.subI rfl rfl (by omega) (So.q rfl rfl (V.mv (v := .p (.v (.int .i64 ((_ : Nat) : Int)))) rfl (So.q rfl rfl (V.subI rfl rfl (by omega) (So.q rfl rfl (V.mv (v := .p (.v (.int .i64 _))) rfl (So.q rfl rfl (V.mv (v := .p (.v (.int .i64 ((_ : Nat) : Int)))) rfl (So.q rfl rfl (V.mulI rfl rfl (by omega) (So.q rfl rfl (V.bin (a := .v (.int .i64 _)) (b := .v (.int .i64 _)) (r := .v (.int .i64 _)) rfl rfl rfl (by omega) (So.q rfl rfl (V.cvN ty5 ty2 (a := .v (.int .i64 _)) (r := .u8 _) rfl rfl (So.q rfl rfl (V.ixOwn10 ty22 ty5 rfl rfl rfl rfl rfl (by omega) rfl ?_)))))))))))))))))))
      refine So.s (A.sto ty5 rfl rfl rfl (v := .p (.u8 _)) rfl trivial rfl (by omega) rfl rfl (So.e (HT.region S_num_ok (So.q rfl rfl (V.addI rfl rfl (by omega) (So.q rfl rfl (V.mv (v := .p (.v (.int .i64 _))) rfl (So.e ?_))))))))
      refine ⟨s + 1, by omega, by omega, ⟨⟨⟨le_int (by rfl), trivial⟩, ⟨.refl _, trivial⟩, ⟨.refl _, trivial⟩, ⟨.refl _, trivial⟩, ⟨.refl _, rfl⟩, ⟨.refl _, trivial⟩, trivial⟩, ⟨⟨_, rfl, .inl (ob_bs (by rfl) (by ((try dsimp only); exact num_step (by omega) (by omega)))), trivial⟩, trivial⟩⟩⟩
     ·have h6 := of_decide_eq_false h6
      refine HT.exit ?_
      show HT _ _ _ _ _
      refine HT.seq (HT.region S_num_ok (So.q rfl rfl (V.mv (v := .own 1 0 _) rfl (So.q rfl rfl (V.as (v := .own 1 0 _) rfl (So.e ?_))))))
      show HT _ _ _ _ _
      refine HT.ret ?_
      exact ret_ok (sg [(1, 1)]) h rfl rfl rfl ⟨trivial, trivial⟩ ⟨rfl, trivial⟩ rfl ⟨⟨⟨le_own2 (by rfl) (by (rw [numF_ok (by omega) (by omega) (by omega), numB_len])), rfl⟩, trivial⟩, ⟨⟨_, rfl, .inl (ob_bs (by ((try dsimp only); ((rw [numF_ok (by omega) (by omega) (by omega), numB_len])))) (by ((try dsimp only); ((rw [numF_ok (by omega) (by omega) (by omega)]; exact num_fin (by omega)))))), trivial⟩, trivial⟩⟩
   ·have h4 := of_decide_eq_false h4
    refine So.gn (b := false) rfl rfl rfl (lk rfl) (lk rfl) (So.gn (b := false) rfl rfl rfl (lk rfl) (lk rfl) (So.gn (b := false) rfl rfl rfl (lk rfl) (lk rfl) (So.gn (b := false) rfl rfl rfl (lk rfl) (lk rfl) (So.gy rfl rfl (lk rfl) (lk rfl) (A.v rfl (V.pkFalse (u := .p (.v (.bool false))) rfl rfl (So.q rfl rfl (V.pkFalse (u := .p (.v (.bool false))) rfl rfl (So.e ?_)))))))))
    show HT _ _ _ _ _
    refine R.condF rfl ?_
    refine HT.skip (HT.seq (HT.region S_num_ok (So.q rfl rfl (V.mv (v := .p (.v (.int .i64 _))) rfl (So.n (lk rfl) (A.mkB 1 ty22 ty5 rfl rfl rfl (by omega) rfl rfl trivial (So.q rfl rfl (V.as (v := .own 1 0 _) rfl (So.e (HT.seq (HT.seq (HT.region S_num_ok ?_))))))))))))
    refine So.q rfl rfl (V.mv (v := .own 1 0 _) rfl (So.q rfl rfl (V.len ty22 (v := .own 1 0 _) rfl rfl (So.q rfl rfl (V.mv (v := .p (.v (.int .i64 0))) rfl (So.e (HT.block ?_)))))))
    refine R.loop (σ := Nat) (fun s => [(29, .p (.v (.int .i64 ((s : Int)))))]) (fun s => [(1, ⟨5, 1, k.toNat, true, .bs (List.replicate (k.toNat - s) 0 ++ (numB n k.toNat).drop (k.toNat - s))⟩)]) [0, 1, 4, 5, 28] [] (fun s => s ≤ k.toNat) (fun s => k.toNat - s) (0) (fr0 := [(0, .p (.v (.int .i64 _))), (1, .p (.v (.int .i64 _))), (4, .p (.v (.slice none 0 0))), (5, .own 1 0 _), (28, .p (.v (.int .i64 _)))]) (O0 := []) rfl rfl (by omega) ⟨⟨⟨le_int (by rfl), trivial⟩, ⟨.refl _, trivial⟩, ⟨.refl _, trivial⟩, ⟨.refl _, trivial⟩, ⟨.refl _, rfl⟩, ⟨.refl _, trivial⟩, trivial⟩, ⟨⟨_, rfl, .inl (ob_bs (by rfl) (by ((try dsimp only); (simp [numB]; done)))), trivial⟩, trivial⟩⟩ (fun s hP0 => ?_)
    refine HT.seq (HT.region S_num_ok (So.q rfl rfl (V.bin (a := (.v (.int .i64 ((_ : Nat) : Int)))) (b := .v (.int .i64 _)) (r := .v (.bool _)) rfl rfl rfl trivial (So.e (HT.seq ?_)))))
    refine R.cond rfl rfl (fun h7 => ?_) (fun h7 => ?_)
    ·have h7 := of_decide_eq_true h7
     refine HT.skip (HT.seq (HT.block (HT.seq (HT.region S_num_ok (So.q rfl rfl (V.mv (v := .p (.v (.int .i64 ((_ : Nat) : Int)))) rfl (So.q rfl rfl (V.as (v := .p (.v (.int .i64 ((_ : Nat) : Int)))) rfl (So.e (HT.region S_num_ok (So.q rfl rfl (V.mv (v := .own 1 0 _) rfl ?_))))))))))))
     refine So.q rfl rfl (V.mv (v := .p (.v (.int .i64 _))) rfl (So.q rfl rfl (V.subI rfl rfl (by omega) (So.q rfl rfl (V.mv (v := .p (.v (.int .i64 ((_ : Nat) : Int)))) rfl (So.q rfl rfl (V.subI rfl rfl (by omega) (So.q rfl rfl (V.mv (v := .p (.v (.int .i64 _))) rfl (So.q rfl rfl (V.mv (v := .p (.v (.int .i64 ((_ : Nat) : Int)))) rfl (So.q rfl rfl (V.mulI rfl rfl (by omega) (So.q rfl rfl (V.bin (a := .v (.int .i64 _)) (b := .v (.int .i64 _)) (r := .v (.int .i64 _)) rfl rfl rfl (by omega) (So.q rfl rfl (V.cvN ty5 ty2 (a := .v (.int .i64 _)) (r := .u8 _) rfl rfl (So.q rfl rfl (V.ixOwn10 ty22 ty5 rfl rfl rfl rfl rfl (by omega) rfl ?_)))))))))))))))))))
     refine So.s (A.sto ty5 rfl rfl rfl (v := .p (.u8 _)) rfl trivial rfl (by omega) rfl rfl (So.e (HT.region S_num_ok (So.q rfl rfl (V.addI rfl rfl (by omega) (So.q rfl rfl (V.mv (v := .p (.v (.int .i64 _))) rfl (So.e ?_))))))))
     refine ⟨s + 1, by omega, by omega, ⟨⟨⟨le_int (by rfl), trivial⟩, ⟨.refl _, trivial⟩, ⟨.refl _, trivial⟩, ⟨.refl _, trivial⟩, ⟨.refl _, rfl⟩, ⟨.refl _, trivial⟩, trivial⟩, ⟨⟨_, rfl, .inl (ob_bs (by rfl) (by ((try dsimp only); exact num_step (by omega) (by omega)))), trivial⟩, trivial⟩⟩⟩
    ·have h7 := of_decide_eq_false h7
     refine HT.exit ?_
     show HT _ _ _ _ _
     refine HT.seq (HT.region S_num_ok (So.q rfl rfl (V.mv (v := .own 1 0 _) rfl (So.q rfl rfl (V.as (v := .own 1 0 _) rfl (So.e ?_))))))
     show HT _ _ _ _ _
     refine HT.ret ?_
     exact ret_ok (sg [(1, 1)]) h rfl rfl rfl ⟨trivial, trivial⟩ ⟨rfl, trivial⟩ rfl ⟨⟨⟨le_own2 (by rfl) (by (rw [numF_ok (by omega) (by omega) (by omega), numB_len])), rfl⟩, trivial⟩, ⟨⟨_, rfl, .inl (ob_bs (by ((try dsimp only); ((rw [numF_ok (by omega) (by omega) (by omega), numB_len])))) (by ((try dsimp only); ((rw [numF_ok (by omega) (by omega) (by omega)]; exact num_fin (by omega)))))), trivial⟩, trivial⟩⟩
  ·have h3 := of_decide_eq_true h3
   refine So.gn (b := true) rfl rfl rfl (lk rfl) (lk rfl) (So.gn (b := true) rfl rfl rfl (lk rfl) (lk rfl) ?_)
   refine So.gu rfl rfl (lk rfl) ?_
   refine So.gu rfl rfl (lk rfl) ?_
   refine So.gu rfl rfl (lk rfl) ?_
   refine So.gu rfl rfl (lk rfl) ?_
   refine So.gu rfl rfl (lk rfl) ?_
   refine So.gn (b := true) rfl rfl rfl (lk rfl) (lk rfl) (So.q rfl rfl (V.pkTrue (u := .p (.v (.bool true))) rfl rfl (So.e ?_)))
   show HT _ _ _ _ _
   refine R.condT rfl ?_
   refine HT.seq (HT.region S_num_ok (So.q rfl rfl (V.as (v := .p (.v (.slice none 0 0))) rfl (So.e ?_))))
   show HT _ _ _ _ _
   refine R.phan 4 1 5 1 (.bs []) rfl rfl rfl ⟨rfl, rfl⟩ ?_
   refine HT.ret ?_
   exact ret_ok (sg [(1, 1)]) h rfl rfl rfl ⟨trivial, trivial⟩ ⟨rfl, trivial⟩ rfl ⟨⟨⟨le_own2 (by rfl) (by (rw [numF_bad (by omega)] <;> rfl)), rfl⟩, trivial⟩, ⟨⟨_, rfl, .inl (ob_bs (by ((try dsimp only); ((rw [numF_bad (by omega)] <;> rfl)))) (by ((try dsimp only); ((rw [numF_bad (by omega)] <;> rfl))))), trivial⟩, trivial⟩⟩
 ·have h2 := fitsN (bnT h2)
  refine So.gn (b := true) rfl rfl rfl (lk rfl) (lk rfl) (So.q rfl rfl (V.pkTrue (u := .p (.v (.bool true))) rfl rfl (So.q rfl rfl (V.mv (v := .p (.v (.bool true))) rfl (So.gn (b := true) rfl rfl rfl (lk rfl) (lk rfl) (So.gn (b := true) rfl rfl rfl (lk rfl) (lk rfl) (So.gn (b := true) rfl rfl rfl (lk rfl) (lk rfl) ?_)))))))
  refine So.gu rfl rfl (lk rfl) ?_
  refine So.gu rfl rfl (lk rfl) ?_
  refine So.gu rfl rfl (lk rfl) ?_
  refine So.gu rfl rfl (lk rfl) ?_
  refine So.gu rfl rfl (lk rfl) ?_
  refine So.gn (b := true) rfl rfl rfl (lk rfl) (lk rfl) (So.q rfl rfl (V.pkTrue (u := .p (.v (.bool true))) rfl rfl (So.e ?_)))
  show HT _ _ _ _ _
  refine R.condT rfl ?_
  refine HT.seq (HT.region S_num_ok (So.q rfl rfl (V.as (v := .p (.v (.slice none 0 0))) rfl (So.e ?_))))
  show HT _ _ _ _ _
  refine R.phan 4 1 5 1 (.bs []) rfl rfl rfl ⟨rfl, rfl⟩ ?_
  refine HT.ret ?_
  exact ret_ok (sg [(1, 1)]) h rfl rfl rfl ⟨trivial, trivial⟩ ⟨rfl, trivial⟩ rfl ⟨⟨⟨le_own2 (by rfl) (by (rw [numF_bad (by omega)] <;> rfl)), rfl⟩, trivial⟩, ⟨⟨_, rfl, .inl (ob_bs (by ((try dsimp only); ((rw [numF_bad (by omega)] <;> rfl)))) (by ((try dsimp only); ((rw [numF_bad (by omega)] <;> rfl))))), trivial⟩, trivial⟩⟩
def rstepSp : Sp := ⟨[], mkE (α := Int × (List UInt8) × KL) (fun (g, s, K) => [.agg 3 (fun j => ([.v (.int .i64 g), .bs s, .sl (K).length 2 (kR K)] : List PV).getD j (.v undef))]) (fun (g, s, K) => []) (fun (g, s, K) => 0 ≤ g ∧ g ≤ 1073741824 ∧ s.length = 32) (fun (g, s, K) => [.agg 3 (fun j => ([.v (.int .i64 (g + 1)), .bs (nxtF g s), .sl (K).length 2 (kR K)] : List PV).getD j (.v undef)), .p (.bs (keyF g s))]) (fun (g, s, K) => [])⟩
def S_rstep : FuncId → Option Sp := fun f => if f = 35 then some numSp else if f = 31 then some hlabelSp else none
theorem S_rstep_ok : ∀ f s, S_rstep f = some s → FOK Tryd.prog gl f s := fun f s h => by
 unfold S_rstep at h
 split at h
 ·rename_i e; cases h; subst e; exact num_ok
 split at h
 ·rename_i e; cases h; subst e; exact hlabel_ok
 cases h
set_option maxHeartbeats 1000000 in
set_option maxRecDepth 20000 in
theorem rstep_ok : FOK Tryd.prog gl 26 rstepSp := by
 refine FOK.ofEC (tyOf_ok Tryd.prog) (rvs := [.cell 2 26, .tmp 3]) (nt := 24) Tryd.func26 rfl rfl rfl rfl (by decide) 1 (fun ⟨_, _, _⟩ => rfl) (by decide) (fun ⟨_, _, _⟩ => ⟨trivial, trivial⟩) ?_
 rintro ⟨g, s, K⟩ kk hlen hpre h
 replace hpre : 0 ≤ g ∧ g ≤ 1073741824 ∧ s.length = 32 := hpre
 show HT (cx Tryd.prog 24 (tyOf Tryd.prog) gl []) _ [(0, .agg 3 (fun j => ([.v (.int .i64 g), .bs s, .sl (K).length 2 (kR K)] : List PV).getD j (.v undef)))] [] _
 refine HT.seq (HT.region S_rstep_ok (So.n (lk rfl) (A.boxAg 1 1 (n := 3) rfl (by intro j hj; (match j, hj with | 0, _ => (trivial) | 1, _ => (trivial) | 2, _ => (trivial))) rfl trivial (So.n (lk rfl) (A.alloc 2 1 ty26 rfl trivial (f := fun j => ([.v (.int .i64 0), .v (.slice none 0 0), .v (.slice none 0 0)] : List PV).getD j (.v undef)) (fun j hj => by match j, hj with | 0, _ => rfl | 1, _ => rfl | 2, _ => rfl) (So.q rfl rfl (V.as (v := .p (.v (.slice none 0 0))) rfl (So.e (HT.seq (HT.region S_rstep_ok (So.q rfl rfl (V.faPtr ty26 rfl ty2 (lk rfl) rfl rfl (lk rfl) (So.q rfl rfl (V.ldPtr ty2 rfl rfl rfl (lk rfl) (v := .p (.v (.int .i64 _))) rfl ?_))))))))))))))
 refine So.n (lk rfl) (A.call0 [.p (.v (.int .i64 _)), .p (.v (.int .i64 _))] 3 rfl rfl rfl rfl ⟨trivial, trivial, trivial⟩ trivial (_, _) ⟨.refl _, .refl _, trivial⟩ trivial (by trivial) (Φ := fun (n, k) => (numF n k).length ≤ 8) (fun _ _ => numF_len _ _) (.inl rfl) (v := .own 4 0 _) rfl (O' := (4, ⟨5, 1, _, true, .bs _⟩) :: _) rfl (fun h1 => ?_))
 try dsimp only at h1
 refine So.q rfl rfl (V.as (v := .own 4 0 _) rfl (So.e ?_))
 show HT _ _ _ _ _
 refine HT.frzS 4 rfl rfl rfl ?_
 show HT _ _ _ _ _
 refine HT.seq (HT.region S_rstep_ok (So.q rfl rfl (V.faPtr ty26 rfl ty22 (lk rfl) rfl rfl (lk rfl) (So.q rfl rfl (V.ldPtr ty22 rfl rfl rfl (lk rfl) (v := .p (.bs _)) rfl (So.q rfl rfl (V.mv (v := .p (.bs _)) rfl ?_)))))))
 refine So.n (lk rfl) (A.call0F S_rstep_ok [.p (.bs _), .p (.str _), .p (.bs _), .p (.v (.int .i64 _))] 3 rfl rfl rfl rfl ⟨trivial, trivial, trivial, trivial, trivial⟩ trivial (s, nKey, numF g 4, 32) ⟨.refl _, .refl _, le_bs (by exact take_full _), .refl _, trivial⟩ trivial (by omega) (Φ := fun _ => True) (fun _ _ => trivial) (.inl rfl) (t := 5) (off := 0) rfl (O' := (5, ⟨5, 1, _, true, .bs _⟩) :: _) rfl rfl rfl (y := .p (.bs _)) rfl rfl (fun h2 => ?_))
 refine So.q rfl rfl (V.as (v := .p (.bs _)) rfl (So.e (HT.seq (HT.region S_rstep_ok (So.q rfl rfl (V.faPtr ty26 rfl ty22 (lk rfl) rfl rfl (lk rfl) (So.q rfl rfl (V.ldPtr ty22 rfl rfl rfl (lk rfl) (v := .p (.bs _)) rfl (So.q rfl rfl (V.mv (v := .p (.bs _)) rfl ?_))))))))))
 refine So.n (lk rfl) (A.call0F S_rstep_ok [.p (.bs _), .p (.str _), .p (.bs _), .p (.v (.int .i64 _))] 3 rfl rfl rfl rfl ⟨trivial, trivial, trivial, trivial, trivial⟩ trivial (s, nNext, numF g 4, 32) ⟨.refl _, .refl _, le_bs (by exact take_full _), .refl _, trivial⟩ trivial (by omega) (Φ := fun _ => True) (fun _ _ => trivial) (.inl rfl) (t := 5) (off := 0) rfl (O' := (5, ⟨5, 1, _, true, .bs _⟩) :: _) rfl rfl rfl (y := .p (.bs _)) rfl rfl (fun h3 => ?_))
 refine So.q rfl rfl (V.faPtr ty26 rfl ty22 (lk rfl) rfl rfl (lk rfl) (So.s (A.sto ty22 rfl rfl rfl (v := .p (.bs _)) rfl trivial rfl (lk rfl) rfl rfl (So.e (HT.seq (HT.region S_rstep_ok (So.q rfl rfl (V.faPtr ty26 rfl ty2 (lk rfl) rfl rfl (lk rfl) (So.q rfl rfl (V.ldPtr ty2 rfl rfl rfl (lk rfl) (v := .p (.v (.int .i64 _))) rfl (So.q rfl rfl (V.addI rfl rfl (by omega) (So.q rfl rfl (V.faPtr ty26 rfl ty2 (lk rfl) rfl rfl (lk rfl) (So.s (A.sto ty2 rfl rfl rfl (v := .p (.v (.int .i64 _))) rfl rfl rfl (lk rfl) rfl rfl ?_))))))))))))))))
 refine So.e (HT.seq (HT.region S_rstep_ok (So.q rfl rfl (V.ldPtrA ty26 rfl rfl rfl rfl (lk rfl) (So.q rfl rfl (V.mv (v := .p (.bs _)) rfl (So.s (A.stoAg ty26 rfl (n := 3) rfl (by decide) (by intro j hj; (match j, hj with | 0, _ => (trivial) | 1, _ => (trivial) | 2, _ => (trivial))) rfl rfl rfl (So.q rfl rfl (V.as (v := .p (.bs _)) rfl (So.e ?_)))))))))))
 show HT _ _ _ _ _
 refine HT.ret ?_
 exact retC_ok (sg []) [(2, .ptr 2 0), (3, .p (.bs (keyF g s)))] [(2, ⟨26, 1, 3, true, .rows (fun j => ([.v (.int .i64 (g + 1)), .bs (nxtF g s), .sl (K).length 2 (kR K)] : List PV).getD j (.v undef))⟩)] h ⟨⟨⟨.refl _, rfl⟩, ⟨le_bs (by exact take_full _), trivial⟩, trivial⟩, ⟨⟨_, rfl, .inr (ob_rowsL (by intro j hj; match j, hj with | 0, _ => (exact .refl _) | 1, _ => (exact le_bs (take_full _)) | 2, _ => (exact .refl _))), trivial⟩, trivial⟩⟩ ⟨rvA_cell ty26 rfl rfl rfl rfl (Nat.le_refl _) (le_agg (fun j _ => by (dsimp only; rw [Nat.zero_add]))), .refl _, trivial⟩ trivial rfl trivial ⟨trivial, trivial, trivial⟩ rfl
def rtakeSp : Sp := ⟨[], mkE (α := Int × (List UInt8) × KL × Int) (fun (g, s, K, gen) => [.agg 3 (fun j => ([.v (.int .i64 g), .bs s, .sl (K).length 2 (kR K)] : List PV).getD j (.v undef)), .p (.v (.int .i64 gen))]) (fun (g, s, K, gen) => []) (fun (g, s, K, gen) => K.length ≤ 1000000 ∧ gen ≤ 9223372036854775807) (fun (g, s, K, gen) => [.agg 3 (fun j => ([.v (.int .i64 ((takeF g s K gen).g)), .bs ((takeF g s K gen).s), .sl ((takeF g s K gen).K).length 2 (kR ((takeF g s K gen).K))] : List PV).getD j (.v undef)), .p (.bs ((takeF g s K gen).b)), .p (.v (.int .i64 ((takeF g s K gen).e)))]) (fun (g, s, K, gen) => [])⟩
def S_rtake : FuncId → Option Sp := fun f => if f = 22 then some ridxSp else if f = 10 then some rrightSp else if f = 21 then some cloneSp else if f = 24 then some rconcatSp else if f = 25 then some rcloneSp else if f = 26 then some rstepSp else none
theorem S_rtake_ok : ∀ f s, S_rtake f = some s → FOK Tryd.prog gl f s := fun f s h => by
 unfold S_rtake at h
 split at h
 ·rename_i e; cases h; subst e; exact ridx_ok
 split at h
 ·rename_i e; cases h; subst e; exact rright_ok
 split at h
 ·rename_i e; cases h; subst e; exact clone_ok
 split at h
 ·rename_i e; cases h; subst e; exact rconcat_ok
 split at h
 ·rename_i e; cases h; subst e; exact rclone_ok
 split at h
 ·rename_i e; cases h; subst e; exact rstep_ok
 cases h
set_option maxHeartbeats 1000000 in
set_option maxRecDepth 20000 in
theorem rtake_ok : FOK Tryd.prog gl 11 rtakeSp := by
 refine FOK.ofEC (tyOf_ok Tryd.prog) (rvs := [.cell 4 26, .tmp 5, .tmp 6]) (nt := 93) Tryd.func11 rfl rfl rfl rfl (by decide) 2 (fun ⟨_, _, _, _⟩ => rfl) (by decide) (fun ⟨_, _, _, _⟩ => ⟨trivial, trivial, trivial⟩) ?_
 rintro ⟨g, s, K, gen⟩ kk hlen hpre h
 replace hpre : K.length ≤ 1000000 ∧ gen ≤ 9223372036854775807 := hpre
 show HT (cx Tryd.prog 93 (tyOf Tryd.prog) gl []) _ [(0, .agg 3 (fun j => ([.v (.int .i64 g), .bs s, .sl (K).length 2 (kR K)] : List PV).getD j (.v undef))), (1, .p (.v (.int .i64 gen)))] [] _
 refine HT.seq (HT.region S_rtake_ok (So.n (lk rfl) (A.boxAg 1 1 (n := 3) rfl (by intro j hj; (match j, hj with | 0, _ => (trivial) | 1, _ => (trivial) | 2, _ => (trivial))) rfl trivial (So.n (lk rfl) (A.box1 2 (v := .p (.v (.int .i64 _))) rfl (by rfl) rfl rfl trivial (So.n (lk rfl) (A.alloc 3 1 ty26 rfl trivial (f := fun j => ([.v (.int .i64 0), .v (.slice none 0 0), .v (.slice none 0 0)] : List PV).getD j (.v undef)) (fun j hj => by match j, hj with | 0, _ => rfl | 1, _ => rfl | 2, _ => rfl) (So.q rfl rfl (V.as (v := .p (.v (.slice none 0 0))) rfl (So.q rfl rfl (V.as (v := .p (.v (.int .i64 0))) rfl (So.e (HT.seq (HT.region S_rtake_ok ?_))))))))))))))
 refine So.n (lk rfl) (A.bldS ty26 rfl rfl trivial rfl (f := fun j => ([.v (.int .i64 0), .v (.slice none 0 0), .v (.slice none 0 0)] : List PV).getD j (.v undef)) (by exact allP_spec (P := fun j => _ = _) ⟨⟨⟨trivial, rfl⟩, rfl⟩, rfl⟩) (So.n (lk rfl) (A.alloc 4 1 ty26 rfl trivial (f := fun j => ([.v (.int .i64 0), .v (.slice none 0 0), .v (.slice none 0 0)] : List PV).getD j (.v undef)) (fun j hj => by match j, hj with | 0, _ => rfl | 1, _ => rfl | 2, _ => rfl) (So.s (A.stoAg ty26 rfl (n := 3) rfl (by decide) (by intro j hj; (match j, hj with | 0, _ => (trivial) | 1, _ => (trivial) | 2, _ => (trivial))) rfl rfl rfl (So.e (HT.seq (HT.region S_rtake_ok (So.q rfl rfl (V.faPtr ty26 rfl ty24 (lk rfl) rfl rfl (lk rfl) (So.q rfl rfl (V.ldPtr ty24 rfl rfl rfl (lk rfl) (v := .p (.sl _ 2 _)) rfl (So.n (lk rfl) (A.mkf (cs := [.ptr 2 _]) rfl rfl ?_))))))))))))))
 refine So.n (lk rfl) (A.call [.p (.sl _ 2 _), .clo 23 [.ptr 1 _]] [(1, ⟨_, _, _, _, .cells [.p (.v (.int .i64 _))]⟩)] (sg [(1, 2)]) 5 rfl rfl rfl rfl ⟨rfl, trivial⟩ rfl ⟨⟨trivial, trivial⟩, trivial⟩ ⟨trivial, ⟨rfl, trivial⟩, trivial⟩ trivial rfl (K, gen) ⟨.refl _, .refl _, trivial⟩ ⟨⟨_, rfl, .inl rfl, ⟨trivial, trivial⟩⟩, trivial⟩ (by trivial) (Φ := fun _ => True) (fun _ _ => trivial) ⟨⟨_, _, rfl, rfl, rfl, Nat.le_refl _⟩, trivial⟩ (.inl rfl) rfl (v := .p (.v (.int .i64 _))) rfl (O' := (2, ⟨_, _, _, _, .cells _⟩) :: _) rfl (fun h1 => ?_))
 refine So.q rfl rfl (V.as (v := .p (.v (.int .i64 _))) rfl (So.e (HT.seq (HT.block (HT.seq (HT.region S_rtake_ok (So.q rfl rfl (V.ldPtrA ty26 rfl rfl rfl rfl (lk rfl) ?_))))))))
 refine So.n (lk rfl) (A.call0 [.agg 3 _] 5 rfl rfl rfl rfl ⟨trivial, trivial⟩ trivial (g, s, K) ⟨le_agg (fun j hj => by match j, hj with | 0, _ => rfl | 1, _ => rfl | 2, _ => rfl), trivial⟩ trivial (by omega) (Φ := fun _ => True) (fun _ _ => trivial) (.inl rfl) (v := .p (.v (.bool _))) rfl (O' := _) rfl (fun h2 => ?_))
 refine So.q rfl rfl (V.not rfl (So.q rfl rfl (V.as (v := .p (.v (.bool _))) rfl (So.e ?_))))
 show HT _ _ _ _ _
 refine R.cond rfl rfl (fun h3 => ?_) (fun h3 => ?_)
 ·have h3 := of_decide_eq_false (bnT h3)
  refine HT.seq (HT.region S_rtake_ok (So.q rfl rfl (V.ldPtrA ty26 rfl rfl rfl rfl (lk rfl) (So.s (A.stoAg ty26 rfl (n := 3) rfl (by decide) (by intro j hj; (match j, hj with | 0, _ => (trivial) | 1, _ => (trivial) | 2, _ => (trivial))) rfl rfl rfl (So.q rfl rfl (V.as (v := .p (.v (.slice none 0 0))) rfl (So.q rfl rfl (V.as (v := .p (.v (.int .i64 1))) rfl (So.e ?_))))))))))
  show HT _ _ _ _ _
  refine HT.ret ?_
  have hR := tk_1 (g := g) (s := s) (K := K) (gen := gen) (by assumption)
  have hG := congrArg TK.g hR
  have hS := congrArg TK.s hR
  have hK := congrArg TK.K hR
  have hB := congrArg TK.b hR
  have hE := congrArg TK.e hR
  dsimp only at hG hS hK hB hE
  exact retC_ok (sg []) [(4, .ptr 3 0), (5, .p (.bs ((takeF g s K gen).b))), (6, .p (.v (.int .i64 ((takeF g s K gen).e))))] [(3, ⟨26, 1, 3, true, .rows (fun j => ([.v (.int .i64 ((takeF g s K gen).g)), .bs ((takeF g s K gen).s), .sl ((takeF g s K gen).K).length 2 (kR ((takeF g s K gen).K))] : List PV).getD j (.v undef))⟩)] h ⟨⟨⟨.refl _, rfl⟩, ⟨le_nil (by omega), trivial⟩, ⟨le_int (by omega), trivial⟩, trivial⟩, ⟨⟨_, rfl, .inr (ob_rowsL (by intro j hj; match j, hj with | 0, _ => (exact le_int (by omega)) | 1, _ => (exact le_nil hS) | 2, _ => (exact le_nilSl (congrArg List.length hK)))), trivial⟩, trivial⟩⟩ ⟨rvA_cell ty26 rfl rfl rfl rfl (Nat.le_refl _) (le_agg (fun j _ => by (dsimp only; rw [Nat.zero_add]))), .refl _, .refl _, trivial⟩ trivial rfl trivial ⟨trivial, trivial, trivial, trivial⟩ rfl
 ·have h3 := of_decide_eq_true (bnF h3)
  refine HT.seq (HT.region S_rtake_ok ?_)
  have hrt : rightR g s K := by assumption
  obtain ⟨hq1, hq2, hq3, hq4, hq5⟩ := id hrt
  have hil := idx_lt K gen
  refine So.q rfl rfl (V.mv (v := .p (.v (.int .i64 _))) rfl (So.q rfl rfl (V.bin (a := .v (.int .i64 _)) (b := .v (.int .i64 0)) (r := .v (.bool _)) rfl rfl rfl trivial (So.q rfl rfl (V.as (v := .p (.v (.bool _))) rfl (So.e ?_))))))
  show HT _ _ _ _ _
  refine R.cond rfl rfl (fun h4 => ?_) (fun h4 => ?_)
  ·have h4 := of_decide_eq_true h4
   refine HT.seq (HT.region S_rtake_ok ?_)
   have hk32 := (hq1 (idxF K gen).toNat (by omega)).2.2
   refine So.q rfl rfl (V.faPtr ty26 rfl ty24 (lk rfl) rfl rfl (lk rfl) (So.q rfl rfl (V.ldPtr ty24 rfl rfl rfl (lk rfl) (v := .p (.sl _ 2 _)) rfl (So.q rfl rfl (V.mv (v := .p (.v (.int .i64 _))) rfl (So.q rfl rfl (V.ixSlS (mi := (idxF K gen).toNat) ty24 ty35 (s := 2) rfl (by decide) rfl rfl (by omega) (by omega) (So.q rfl rfl (V.faRp ty35 rfl ty22 (lk rfl) rfl (by omega) (So.q rfl rfl (V.ldRp ty22 rfl rfl (lk rfl) (v := .bs (kB K (idxF K gen).toNat)) (by exact kR_1 K (idxF K gen).toNat) ?_)))))))))))
   refine So.n (lk rfl) (A.call0F S_rtake_ok [.p (.bs _)] 5 rfl rfl rfl rfl ⟨trivial, trivial⟩ trivial (kB K (idxF K gen).toNat) ⟨.refl _, trivial⟩ trivial (by omega) (Φ := fun _ => True) (fun _ _ => trivial) (.inl rfl) (t := 6) (off := 0) rfl (O' := (6, ⟨5, 1, _, true, .bs _⟩) :: _) rfl rfl rfl (y := .p (.bs _)) rfl rfl (fun h5 => ?_))
   refine So.q rfl rfl (V.as (v := .p (.bs _)) rfl (So.e (HT.seq ?_)))
   refine HT.tail S_rtake_ok mixed 10 (by kernel_rfl) (by kernel_rfl) ?_
   refine So.q rfl rfl (V.faPtr ty26 rfl ty24 (lk rfl) rfl rfl (lk rfl) (So.q rfl rfl (V.ldPtr ty24 rfl rfl rfl (lk rfl) (v := .p (.sl _ 2 _)) rfl (So.q rfl rfl (V.mv (v := .p (.v (.int .i64 _))) rfl (So.q rfl rfl (V.mv (v := .p (.v (.int .i64 _))) rfl (So.q rfl rfl (V.cutSl ty24 ty35 rfl rfl rfl rfl (by omega) (.inr ⟨_, _, rfl, rfl, rfl, by omega⟩) (So.q rfl rfl (V.faPtr ty26 rfl ty24 (lk rfl) rfl rfl (lk rfl) (So.q rfl rfl (V.ldPtr ty24 rfl rfl rfl (lk rfl) (v := .p (.sl _ 2 _)) rfl (So.q rfl rfl (V.mv (v := .p (.v (.int .i64 _))) rfl (So.q rfl rfl (V.addI rfl rfl (by omega) (So.q rfl rfl (V.cutSl ty24 ty35 rfl rfl rfl rfl (by omega) (.inl rfl) ?_)))))))))))))))))))
   refine So.n (lk rfl) (A.bsl 5 ty61 ty24 rfl (lk rfl) (lk rfl) (fun _ => rfl) rfl rfl trivial ⟨trivial, trivial, trivial⟩ rfl (N := 2) rfl (c := .rows _) rfl ?_)
   refine So.n (lk rfl) (A.call [.own 1 _ _] [(1, ⟨_, _, _, _, .rows _⟩)] (sg [(1, 5)]) 6 rfl rfl rfl rfl ⟨rfl, trivial⟩ rfl ⟨trivial, trivial⟩ ⟨rfl, trivial⟩ trivial rfl ((idxF K gen).toNat, (K.length : Int).toNat - (idxF K gen + 1).toNat, fun j => kR K ((0 : Int).toNat * 2 + j), fun j => kR K ((idxF K gen + 1).toNat * 2 + j)) ⟨.refl _, trivial⟩ ⟨⟨_, rfl, .inl rfl, trivial⟩, trivial⟩ (by exact ⟨by omega, fun _ => kR_oneP _ _, fun _ => kR_oneP _ _⟩) (Φ := fun _ => True) (fun _ _ => trivial) trivial (.inl rfl) rfl (v := .own 8 0 _) rfl (O' := (8, ⟨_, _, _, _, .rows _⟩) :: _) rfl (fun h6 => ?_))
   refine So.q rfl rfl (V.faPtr ty26 rfl ty24 (lk rfl) rfl rfl (lk rfl) (So.s (A.stoF ty24 rfl rfl rfl rfl rfl rfl rfl (v := .p (.sl _ _ _)) rfl trivial rfl (lk rfl) rfl rfl (So.e (HT.seq (HT.region S_rtake_ok (So.q rfl rfl (V.ldPtrA ty26 rfl rfl rfl rfl (lk rfl) (So.q rfl rfl (V.mv (v := .p (.bs _)) rfl (So.s (A.stoAg ty26 rfl (n := 3) rfl (by decide) (by intro j hj; (match j, hj with | 0, _ => (trivial) | 1, _ => (trivial) | 2, _ => (trivial))) rfl rfl rfl (So.q rfl rfl (V.as (v := .p (.bs _)) rfl (So.q rfl rfl (V.as (v := .p (.v (.int .i64 0))) rfl ?_))))))))))))))))
   refine So.e ?_
   show HT _ _ _ _ _
   refine HT.ret ?_
   have hR := tk_2 (g := g) (s := s) (K := K) (gen := gen) (by assumption) (by omega)
   have hG := congrArg TK.g hR
   have hS := congrArg TK.s hR
   have hK := congrArg TK.K hR
   have hB := congrArg TK.b hR
   have hE := congrArg TK.e hR
   dsimp only at hG hS hK hB hE
   exact retC_ok (sg []) [(4, .ptr 3 0), (5, .p (.bs ((takeF g s K gen).b))), (6, .p (.v (.int .i64 ((takeF g s K gen).e))))] [(3, ⟨26, 1, 3, true, .rows (fun j => ([.v (.int .i64 ((takeF g s K gen).g)), .bs ((takeF g s K gen).s), .sl ((takeF g s K gen).K).length 2 (kR ((takeF g s K gen).K))] : List PV).getD j (.v undef))⟩)] h ⟨⟨⟨.refl _, rfl⟩, ⟨le_bs (by exact (take_full _).trans hB.symm), trivial⟩, ⟨le_int (by omega), trivial⟩, trivial⟩, ⟨⟨_, rfl, .inr (ob_rowsL (by intro j hj; match j, hj with | 0, _ => (exact le_int (by omega)) | 1, _ => (exact le_bs hS.symm) | 2, _ => (exact le_kept hK (rm_len (by omega) hil) (fun j => (rm_rows2 (by omega) hil (0 + j)).trans (congrArg (kR _) (Nat.zero_add j)))))), trivial⟩, trivial⟩⟩ ⟨rvA_cell ty26 rfl rfl rfl rfl (Nat.le_refl _) (le_agg (fun j _ => by (dsimp only; rw [Nat.zero_add]))), .refl _, .refl _, trivial⟩ trivial rfl trivial ⟨trivial, trivial, trivial, trivial⟩ rfl
  ·have h4 := of_decide_eq_false h4
   refine HT.seq (HT.region S_rtake_ok (So.q rfl rfl (V.ldPtr ty2 rfl rfl rfl (lk rfl) (v := .p (.v (.int .i64 _))) rfl (So.q rfl rfl (V.faPtr ty26 rfl ty2 (lk rfl) rfl rfl (lk rfl) (So.q rfl rfl (V.ldPtr ty2 rfl rfl rfl (lk rfl) (v := .p (.v (.int .i64 _))) rfl (So.q rfl rfl (V.bin (a := .v (.int .i64 _)) (b := .v (.int .i64 _)) (r := .v (.bool _)) rfl rfl rfl trivial (So.q rfl rfl (V.as (v := .p (.v (.bool _))) rfl (So.e ?_))))))))))))
   show HT _ _ _ _ _
   refine R.cond rfl rfl (fun h7 => ?_) (fun h7 => ?_)
   ·have h7 := of_decide_eq_true h7
    refine HT.seq (HT.region S_rtake_ok (So.q rfl rfl (V.ldPtrA ty26 rfl rfl rfl rfl (lk rfl) (So.s (A.stoAg ty26 rfl (n := 3) rfl (by decide) (by intro j hj; (match j, hj with | 0, _ => (trivial) | 1, _ => (trivial) | 2, _ => (trivial))) rfl rfl rfl (So.q rfl rfl (V.as (v := .p (.v (.slice none 0 0))) rfl (So.q rfl rfl (V.as (v := .p (.v (.int .i64 171))) rfl (So.e ?_))))))))))
    show HT _ _ _ _ _
    refine HT.ret ?_
    have hR := tk_3 (g := g) (s := s) (K := K) (gen := gen) (by assumption) (by omega) (by omega)
    have hG := congrArg TK.g hR
    have hS := congrArg TK.s hR
    have hK := congrArg TK.K hR
    have hB := congrArg TK.b hR
    have hE := congrArg TK.e hR
    dsimp only at hG hS hK hB hE
    exact retC_ok (sg []) [(4, .ptr 3 0), (5, .p (.bs ((takeF g s K gen).b))), (6, .p (.v (.int .i64 ((takeF g s K gen).e))))] [(3, ⟨26, 1, 3, true, .rows (fun j => ([.v (.int .i64 ((takeF g s K gen).g)), .bs ((takeF g s K gen).s), .sl ((takeF g s K gen).K).length 2 (kR ((takeF g s K gen).K))] : List PV).getD j (.v undef))⟩)] h ⟨⟨⟨.refl _, rfl⟩, ⟨le_nil (by omega), trivial⟩, ⟨le_int (by omega), trivial⟩, trivial⟩, ⟨⟨_, rfl, .inr (ob_rowsL (by intro j hj; match j, hj with | 0, _ => (exact le_int (by omega)) | 1, _ => (exact le_nil hS) | 2, _ => (exact le_nilSl (congrArg List.length hK)))), trivial⟩, trivial⟩⟩ ⟨rvA_cell ty26 rfl rfl rfl rfl (Nat.le_refl _) (le_agg (fun j _ => by (dsimp only; rw [Nat.zero_add]))), .refl _, .refl _, trivial⟩ trivial rfl trivial ⟨trivial, trivial, trivial, trivial⟩ rfl
   ·have h7 := of_decide_eq_false h7
    refine HT.seq (HT.region S_rtake_ok (So.q rfl rfl (V.ldPtr ty2 rfl rfl rfl (lk rfl) (v := .p (.v (.int .i64 _))) rfl (So.q rfl rfl (V.faPtr ty26 rfl ty2 (lk rfl) rfl rfl (lk rfl) (So.q rfl rfl (V.ldPtr ty2 rfl rfl rfl (lk rfl) (v := .p (.v (.int .i64 _))) rfl (So.q rfl rfl (V.subI rfl rfl (by omega) (So.q rfl rfl (V.bin (a := .v (.int .i64 _)) (b := .v (.int .i64 8)) (r := .v (.bool _)) rfl rfl rfl trivial (So.q rfl rfl (V.as (v := .p (.v (.bool _))) rfl (So.e ?_))))))))))))))
    show HT _ _ _ _ _
    refine R.cond rfl rfl (fun h8 => ?_) (fun h8 => ?_)
    ·have h8 := of_decide_eq_true h8
     refine HT.seq (HT.region S_rtake_ok (So.q rfl rfl (V.ldPtrA ty26 rfl rfl rfl rfl (lk rfl) (So.s (A.stoAg ty26 rfl (n := 3) rfl (by decide) (by intro j hj; (match j, hj with | 0, _ => (trivial) | 1, _ => (trivial) | 2, _ => (trivial))) rfl rfl rfl (So.q rfl rfl (V.as (v := .p (.v (.slice none 0 0))) rfl (So.q rfl rfl (V.as (v := .p (.v (.int .i64 172))) rfl (So.e ?_))))))))))
     show HT _ _ _ _ _
     refine HT.ret ?_
     have hR := tk_4 (g := g) (s := s) (K := K) (gen := gen) (by assumption) (by omega) (by omega) (by omega)
     have hG := congrArg TK.g hR
     have hS := congrArg TK.s hR
     have hK := congrArg TK.K hR
     have hB := congrArg TK.b hR
     have hE := congrArg TK.e hR
     dsimp only at hG hS hK hB hE
     exact retC_ok (sg []) [(4, .ptr 3 0), (5, .p (.bs ((takeF g s K gen).b))), (6, .p (.v (.int .i64 ((takeF g s K gen).e))))] [(3, ⟨26, 1, 3, true, .rows (fun j => ([.v (.int .i64 ((takeF g s K gen).g)), .bs ((takeF g s K gen).s), .sl ((takeF g s K gen).K).length 2 (kR ((takeF g s K gen).K))] : List PV).getD j (.v undef))⟩)] h ⟨⟨⟨.refl _, rfl⟩, ⟨le_nil (by omega), trivial⟩, ⟨le_int (by omega), trivial⟩, trivial⟩, ⟨⟨_, rfl, .inr (ob_rowsL (by intro j hj; match j, hj with | 0, _ => (exact le_int (by omega)) | 1, _ => (exact le_nil hS) | 2, _ => (exact le_nilSl (congrArg List.length hK)))), trivial⟩, trivial⟩⟩ ⟨rvA_cell ty26 rfl rfl rfl rfl (Nat.le_refl _) (le_agg (fun j _ => by (dsimp only; rw [Nat.zero_add]))), .refl _, .refl _, trivial⟩ trivial rfl trivial ⟨trivial, trivial, trivial, trivial⟩ rfl
    ·have h8 := of_decide_eq_false h8
     refine HT.seq (HT.region S_rtake_ok (So.q rfl rfl (V.ldPtr ty2 rfl rfl rfl (lk rfl) (v := .p (.v (.int .i64 _))) rfl (So.q rfl rfl (V.bin (a := .v (.int .i64 _)) (b := .v (.int .i64 1073741824)) (r := .v (.bool _)) rfl rfl rfl trivial (So.q rfl rfl (V.as (v := .p (.v (.bool _))) rfl (So.e ?_))))))))
     show HT _ _ _ _ _
     refine R.cond rfl rfl (fun h9 => ?_) (fun h9 => ?_)
     ·have h9 := of_decide_eq_true h9
      refine HT.seq (HT.region S_rtake_ok (So.q rfl rfl (V.ldPtrA ty26 rfl rfl rfl rfl (lk rfl) (So.s (A.stoAg ty26 rfl (n := 3) rfl (by decide) (by intro j hj; (match j, hj with | 0, _ => (trivial) | 1, _ => (trivial) | 2, _ => (trivial))) rfl rfl rfl (So.q rfl rfl (V.as (v := .p (.v (.slice none 0 0))) rfl (So.q rfl rfl (V.as (v := .p (.v (.int .i64 2))) rfl (So.e ?_))))))))))
      show HT _ _ _ _ _
      refine HT.ret ?_
      have hR := tk_5 (g := g) (s := s) (K := K) (gen := gen) (by assumption) (by omega) (by omega) (by omega) (by omega)
      have hG := congrArg TK.g hR
      have hS := congrArg TK.s hR
      have hK := congrArg TK.K hR
      have hB := congrArg TK.b hR
      have hE := congrArg TK.e hR
      dsimp only at hG hS hK hB hE
      exact retC_ok (sg []) [(4, .ptr 3 0), (5, .p (.bs ((takeF g s K gen).b))), (6, .p (.v (.int .i64 ((takeF g s K gen).e))))] [(3, ⟨26, 1, 3, true, .rows (fun j => ([.v (.int .i64 ((takeF g s K gen).g)), .bs ((takeF g s K gen).s), .sl ((takeF g s K gen).K).length 2 (kR ((takeF g s K gen).K))] : List PV).getD j (.v undef))⟩)] h ⟨⟨⟨.refl _, rfl⟩, ⟨le_nil (by omega), trivial⟩, ⟨le_int (by omega), trivial⟩, trivial⟩, ⟨⟨_, rfl, .inr (ob_rowsL (by intro j hj; match j, hj with | 0, _ => (exact le_int (by omega)) | 1, _ => (exact le_nil hS) | 2, _ => (exact le_nilSl (congrArg List.length hK)))), trivial⟩, trivial⟩⟩ ⟨rvA_cell ty26 rfl rfl rfl rfl (Nat.le_refl _) (le_agg (fun j _ => by (dsimp only; rw [Nat.zero_add]))), .refl _, .refl _, trivial⟩ trivial rfl trivial ⟨trivial, trivial, trivial, trivial⟩ rfl
     ·have h9 := of_decide_eq_false h9
      refine HT.skip (HT.seq (HT.region S_rtake_ok ?_))
      have hof0 := off_0 (g := g) (s := s) hq5
      refine So.q rfl rfl (V.faPtr ty26 rfl ty24 (lk rfl) rfl rfl (lk rfl) (So.q rfl rfl (V.ldPtr ty24 rfl rfl rfl (lk rfl) (v := .p (.sl _ 2 _)) rfl ?_)))
      refine So.n (lk rfl) (A.call0 [.p (.sl _ 2 _)] 5 rfl rfl rfl rfl ⟨trivial, trivial⟩ trivial K ⟨.refl _, trivial⟩ trivial (by omega) (Φ := fun _ => True) (fun _ _ => trivial) (.inl rfl) (v := .own 7 0 _) rfl (O' := (7, ⟨35, 2, _, true, .rows _⟩) :: _) rfl (fun h10 => ?_))
      refine So.q rfl rfl (V.as (v := .own 7 0 _) rfl (So.e (HT.block ?_)))
      refine R.loop (σ := Nat) (fun m => [(10, .own 7 ((offK g s K m)) ((kpN g s K m).length))]) (fun m => [(1, ⟨26, 1, 3, true, .rows (fun j => ([.v (.int .i64 (g + ((m : Nat) : Int))), .bs (nxN g s m), .sl K.length 2 (kR K)] : List PV).getD j (.v undef))⟩), (7, ⟨35, 2, (upN g s K m).length * 2, true, .rows (kR (upN g s K m))⟩)]) [2, 3, 4] [2, 3, 4] (fun m => g + (m : Int) ≤ gen) (fun m => (gen - g).toNat - m) (0) (fr0 := [(2, .ptr 1 0), (3, .ptr 2 0), (4, .ptr 3 0)]) (O0 := [(2, ⟨_, _, _, _, .cells _⟩), (3, ⟨_, _, _, _, .rows _⟩), (4, ⟨_, _, _, _, .rows _⟩)]) rfl rfl (by omega) ⟨⟨⟨le_own2 (by omega) (by rfl), rfl⟩, ⟨.refl _, rfl⟩, ⟨.refl _, rfl⟩, ⟨.refl _, rfl⟩, trivial⟩, ⟨⟨_, rfl, .inr (ob_rows (by rfl) (by ((try dsimp only); (intro j hj; match j, hj with | 0, _ => (exact congrArg (fun x => PV.v (.int .i64 x)) (by omega)) | 1, _ => rfl | 2, _ => rfl)))), trivial⟩, ⟨_, rfl, .inr (ob_rows (by rfl) (by ((try dsimp only); (intro j hj; rfl)))), trivial⟩, ⟨_, rfl, .inl rfl, ⟨trivial, trivial⟩⟩, ⟨_, rfl, .inl rfl, trivial⟩, ⟨_, rfl, .inl rfl, trivial⟩, trivial⟩⟩ (fun m hP0 => ?_)
      refine HT.block (HT.seq (HT.region S_rtake_ok ?_))
      have hkl := kp_len (g := g) (s := s) hq5 m
      have hnl := nxN_len g hq4 m
      have hof := off_1 (g := g) (s := s) (K := K) m
      have hu1 := up_1 g s K m
      refine So.q rfl rfl (V.faPtr ty26 rfl ty2 (lk rfl) rfl rfl (lk rfl) (So.q rfl rfl (V.ldPtr ty2 rfl rfl rfl (lk rfl) (v := .p (.v (.int .i64 _))) rfl (So.q rfl rfl (V.as (v := .p (.v (.int .i64 _))) rfl (So.e (HT.seq (HT.region S_rtake_ok (So.q rfl rfl (V.as (v := .p (.v (.slice none 0 0))) rfl (So.e (HT.seq (HT.seq ?_)))))))))))))
      refine HT.region S_rtake_ok (So.q rfl rfl (V.ldPtrA ty26 rfl rfl rfl rfl (lk rfl) ?_))
      refine So.n (lk rfl) (A.call0 [.agg 3 _] 8 rfl rfl rfl rfl ⟨trivial, trivial⟩ trivial (g + (m : Int), nxN g s m, K) ⟨le_agg (fun j hj => by match j, hj with | 0, _ => rfl | 1, _ => rfl | 2, _ => rfl), trivial⟩ trivial (by omega) (Φ := fun _ => True) (fun _ _ => trivial) (.inl rfl) (v := .tup 2 _) rfl (O' := _) rfl (fun h11 => ?_))
      refine So.q rfl rfl (V.mv (v := .tup 2 _) rfl (So.q rfl rfl (V.ext rfl (lk rfl) (v := .agg 3 _) rfl (So.q rfl rfl (V.ext rfl (lk rfl) (v := .p (.bs _)) rfl (So.s (A.stoAg ty26 rfl (n := 3) rfl (by decide) (by intro j hj; (match j, hj with | 0, _ => (trivial) | 1, _ => (trivial) | 2, _ => (trivial))) rfl rfl rfl (So.q rfl rfl (V.as (v := .p (.bs _)) rfl (So.e (HT.seq (HT.region S_rtake_ok (So.q rfl rfl (V.mv (v := .p (.v (.int .i64 _))) rfl (So.q rfl rfl (V.ldPtr ty2 rfl rfl rfl (lk rfl) (v := .p (.v (.int .i64 _))) rfl ?_))))))))))))))))
      refine So.q rfl rfl (V.bin (a := .v (.int .i64 _)) (b := .v (.int .i64 _)) (r := .v (.bool _)) rfl rfl rfl trivial (So.e ?_))
      show HT _ _ _ _ _
      refine R.cond rfl rfl (fun h12 => ?_) (fun h12 => ?_)
      ·have h12 := of_decide_eq_true h12
       refine HT.seq (HT.region S_rtake_ok (So.q rfl rfl (V.mv (v := .own 7 _ _) rfl (So.q rfl rfl (V.faPtr ty26 rfl ty24 (lk rfl) rfl rfl (lk rfl) (So.s (A.stoF ty24 rfl rfl rfl rfl rfl rfl rfl (v := .p (.sl _ _ _)) rfl trivial rfl (lk rfl) rfl rfl (So.e (HT.seq (HT.region S_rtake_ok (So.q rfl rfl (V.ldPtrA ty26 rfl rfl rfl rfl (lk rfl) (So.q rfl rfl (V.mv (v := .p (.bs _)) rfl ?_))))))))))))))
       refine So.s (A.stoAg ty26 rfl (n := 3) rfl (by decide) (by intro j hj; (match j, hj with | 0, _ => (trivial) | 1, _ => (trivial) | 2, _ => (trivial))) rfl rfl rfl (So.q rfl rfl (V.as (v := .p (.bs _)) rfl (So.q rfl rfl (V.as (v := .p (.v (.int .i64 0))) rfl (So.e ?_))))))
       show HT _ _ _ _ _
       refine HT.ret ?_
       have hR := tk_6 (g := g) (s := s) (K := K) (gen := gen) (m := m) (by assumption) (by omega) (by omega) (by omega) (by omega) (by omega)
       have hG := congrArg TK.g hR
       have hS := congrArg TK.s hR
       have hK := congrArg TK.K hR
       have hB := congrArg TK.b hR
       have hE := congrArg TK.e hR
       dsimp only at hG hS hK hB hE
       exact retC_ok (sg []) [(4, .ptr 3 0), (5, .p (.bs ((takeF g s K gen).b))), (6, .p (.v (.int .i64 ((takeF g s K gen).e))))] [(3, ⟨26, 1, 3, true, .rows (fun j => ([.v (.int .i64 ((takeF g s K gen).g)), .bs ((takeF g s K gen).s), .sl ((takeF g s K gen).K).length 2 (kR ((takeF g s K gen).K))] : List PV).getD j (.v undef))⟩)] h ⟨⟨⟨.refl _, rfl⟩, ⟨le_bs (by exact hB.symm), trivial⟩, ⟨le_int (by omega), trivial⟩, trivial⟩, ⟨⟨_, rfl, .inr (ob_rowsL (by intro j hj; match j, hj with | 0, _ => (exact le_int (by omega)) | 1, _ => (exact le_bs hS.symm) | 2, _ => (exact le_kept hK rfl (fun j => kp_rows hq5 m j)))), trivial⟩, trivial⟩⟩ ⟨rvA_cell ty26 rfl rfl rfl rfl (Nat.le_refl _) (le_agg (fun j _ => by (dsimp only; rw [Nat.zero_add]))), .refl _, .refl _, trivial⟩ trivial rfl trivial ⟨trivial, trivial, trivial, trivial⟩ rfl
      ·have h12 := of_decide_eq_false h12
       refine HT.skip (HT.seq (HT.region S_rtake_ok (So.q rfl rfl (V.mv (v := .own 7 _ _) rfl (So.q rfl rfl (V.mv (v := .p (.v (.int .i64 _))) rfl (So.q rfl rfl (V.mv (v := .p (.bs _)) rfl (So.n (lk rfl) (A.bldS ty35 rfl rfl ⟨by exact rfl, by exact trivial, trivial⟩ rfl (f := fun j => ([.v (.int .i64 (g + (m : Int))), .bs (kyN g s m)] : List PV).getD j (.v undef)) (by exact allP_spec (P := fun j => _ = _) ⟨⟨trivial, rfl⟩, rfl⟩) (So.n (lk rfl) (A.bsl 8 ty24 ty35 rfl (lk rfl) (lk rfl) (fun h => Bool.noConfusion (show false = true from h)) rfl rfl trivial ⟨(fun j hj => by match j, hj with | 0, _ => (trivial) | 1, _ => (trivial)), trivial⟩ rfl (N := 2) rfl (c := .rows _) rfl (So.n (lk rfl) (A.apRows ty24 ty35 rfl rfl rfl (lk rfl) (lk rfl) rfl rfl (u := .own 8 0 _) rfl rfl (by intro j hj; match j, hj with | 0, _ => rfl | 1, _ => trivial) rfl (by (simp; omega)) rfl rfl rfl (So.q rfl rfl (V.as (v := .own 7 0 _) rfl ?_))))))))))))))))
       refine So.e (HT.seq (HT.region S_rtake_ok (So.q rfl rfl (V.mv (v := .own 7 0 _) rfl (So.q rfl rfl (V.len ty24 (v := .own 7 0 _) rfl rfl (So.q rfl rfl (V.bin (a := .v (.int .i64 _)) (b := .v (.int .i64 16)) (r := .v (.bool _)) rfl rfl rfl trivial (So.e ?_)))))))))
       show HT _ _ _ _ _
       refine R.cond rfl rfl (fun h13 => ?_) (fun h13 => ?_)
       ·have h13 := of_decide_eq_true h13
        refine HT.region S_rtake_ok (So.q rfl rfl (V.mv (v := .own 7 0 _) rfl (So.q rfl rfl (V.cutOwnL ty24 ty35 (s := 2) rfl rfl rfl rfl rfl (by omega) rfl (So.q rfl rfl (V.as (v := .own 7 _ _) rfl (So.e ?_)))))))
        refine ⟨m + 1, by omega, by omega, ⟨⟨⟨le_own2 (by omega) (by omega), rfl⟩, ⟨.refl _, rfl⟩, ⟨.refl _, rfl⟩, ⟨.refl _, rfl⟩, trivial⟩, ⟨⟨_, rfl, .inr (ob_rows (by rfl) (by ((try dsimp only); (intro j hj; match j, hj with | 0, _ => (exact congrArg (fun x => PV.v (.int .i64 x)) (by omega)) | 1, _ => rfl | 2, _ => rfl)))), trivial⟩, ⟨_, rfl, .inr (ob_rows (by (rw [hu1]; done)) (by intro j hj; exact up_rows hq5 m j (fun x => (fun j => ([.v (.int .i64 (g + (m : Int))), .bs (kyN g s m)] : List PV).getD j (.v undef)) (0 + x)) rfl rfl (by rw [up_1]; omega))), trivial⟩, ⟨_, rfl, .inl rfl, ⟨trivial, trivial⟩⟩, ⟨_, rfl, .inl rfl, trivial⟩, ⟨_, rfl, .inl rfl, trivial⟩, trivial⟩⟩⟩
       ·have h13 := of_decide_eq_false h13
        refine HT.skip ?_
        refine ⟨m + 1, by omega, by omega, ⟨⟨⟨le_own2 (by omega) (by omega), rfl⟩, ⟨.refl _, rfl⟩, ⟨.refl _, rfl⟩, ⟨.refl _, rfl⟩, trivial⟩, ⟨⟨_, rfl, .inr (ob_rows (by rfl) (by ((try dsimp only); (intro j hj; match j, hj with | 0, _ => (exact congrArg (fun x => PV.v (.int .i64 x)) (by omega)) | 1, _ => rfl | 2, _ => rfl)))), trivial⟩, ⟨_, rfl, .inr (ob_rows (by (rw [hu1]; done)) (by intro j hj; exact up_rows hq5 m j (fun x => (fun j => ([.v (.int .i64 (g + (m : Int))), .bs (kyN g s m)] : List PV).getD j (.v undef)) (0 + x)) rfl rfl (by rw [up_1]; omega))), trivial⟩, ⟨_, rfl, .inl rfl, ⟨trivial, trivial⟩⟩, ⟨_, rfl, .inl rfl, trivial⟩, ⟨_, rfl, .inl rfl, trivial⟩, trivial⟩⟩⟩
def headSp : Sp := ⟨[], mkE (α := Unit) (fun _ => []) (fun _ => []) (fun _ => True) (fun _ => [.p (.v (.bool true))]) (fun _ => [])⟩
def S_head : FuncId → Option Sp := fun f => if f = 9 then some rnewoSp else if f = 11 then some rtakeSp else if f = 12 then some rsecretoSp else none
theorem S_head_ok : ∀ f s, S_head f = some s → FOK Tryd.prog gl f s := fun f s h => by
 unfold S_head at h
 split at h
 ·rename_i e; cases h; subst e; exact rnewo_ok
 split at h
 ·rename_i e; cases h; subst e; exact rtake_ok
 split at h
 ·rename_i e; cases h; subst e; exact rsecreto_ok
 cases h
set_option maxHeartbeats 1000000 in
set_option maxRecDepth 20000 in
theorem head_ok : FOK Tryd.prog gl 8 headSp := by
 refine FOK.ofE (tyOf_ok Tryd.prog) (slots := [0]) (nt := 70) Tryd.func8 rfl rfl rfl rfl (by decide) 0 (fun _ => rfl) (by decide) (fun _ => trivial) ?_
 rintro _ kk hlen hpre h
 replace hpre : True := hpre
 show HT (cx Tryd.prog 70 (tyOf Tryd.prog) gl []) _ [] [] _
 obtain ⟨z, hz⟩ : ∃ z : List UInt8, z = List.replicate 32 0 := ⟨_, rfl⟩
 have hzl : z.length = 32 := by rw [hz]; rfl
 have hd9 := hd hzl
 have hk1 := hd9.k1
 have hk2 := hd9.k2
 refine HT.seq (HT.region S_head_ok (So.q rfl rfl (V.as (v := .p (.v (.bool false))) rfl (So.e (HT.seq (HT.region S_head_ok (So.n (lk rfl) (A.mkB 1 ty22 ty5 rfl rfl rfl (by omega) rfl rfl trivial ?_))))))))
 refine So.n (lk rfl) (A.call [.own 1 _ _] [(1, ⟨_, _, _, _, .bs _⟩)] (sg [(1, 1)]) 2 rfl rfl rfl rfl ⟨rfl, trivial⟩ rfl ⟨trivial, trivial⟩ ⟨rfl, trivial⟩ trivial rfl (List.replicate 32 0) ⟨.refl _, trivial⟩ ⟨⟨_, rfl, .inl rfl, trivial⟩, trivial⟩ (by trivial) (Φ := fun _ => True) (fun _ _ => trivial) trivial (.inl rfl) rfl (v := .agg 3 _) rfl (O' := _) rfl (fun h1 => ?_))
 refine So.n (lk rfl) (A.alloc 1 1 ty26 rfl trivial (f := fun j => ([.v (.int .i64 0), .v (.slice none 0 0), .v (.slice none 0 0)] : List PV).getD j (.v undef)) (fun j hj => by match j, hj with | 0, _ => rfl | 1, _ => rfl | 2, _ => rfl) (So.s (A.stoAg ty26 rfl (n := 3) rfl (by decide) (by intro j hj; (match j, hj with | 0, _ => (trivial) | 1, _ => (trivial) | 2, _ => (trivial))) rfl rfl rfl (So.e (HT.seq (HT.region S_head_ok (So.q rfl rfl (V.ldPtrA ty26 rfl rfl rfl rfl (lk rfl) ?_))))))))
 refine So.n (lk rfl) (A.call0 [.agg 3 _, .p (.v (.int .i64 _))] 2 rfl rfl rfl rfl ⟨trivial, trivial, trivial⟩ trivial (0, z, [], 2) ⟨le_agg (fun j hj => by match j, hj with | 0, _ => rfl | 1, _ => ((show PV.bs _ = PV.bs _; congr 1; (rw [hz]; rfl))) | 2, _ => rfl), .refl _, trivial⟩ trivial (by (simp; done)) (Φ := fun _ => True) (fun _ _ => trivial) (.inl rfl) (v := .tup 3 _) rfl (O' := _) rfl (fun h2 => ?_))
 refine So.q rfl rfl (V.mv (v := .tup 3 _) rfl (So.q rfl rfl (V.ext rfl (lk rfl) (v := .agg 3 _) rfl (So.q rfl rfl (V.ext rfl (lk rfl) (v := .p (.bs _)) rfl (So.q rfl rfl (V.ext rfl (lk rfl) (v := .p (.v (.int .i64 _))) rfl (So.n (lk rfl) (A.alloc 2 1 ty26 rfl trivial (f := fun j => ([.v (.int .i64 0), .v (.slice none 0 0), .v (.slice none 0 0)] : List PV).getD j (.v undef)) (fun j hj => by match j, hj with | 0, _ => rfl | 1, _ => rfl | 2, _ => rfl) (So.s (A.stoAg ty26 rfl (n := 3) rfl (by decide) (by intro j hj; (match j, hj with | 0, _ => (trivial) | 1, _ => (trivial) | 2, _ => (trivial))) rfl rfl rfl (So.q rfl rfl (V.as (v := .p (.bs _)) rfl (So.q rfl rfl (V.as (v := .p (.v (.int .i64 _))) rfl (So.e (HT.seq ?_)))))))))))))))))
 refine HT.region S_head_ok (So.q rfl rfl (V.ldPtrA ty26 rfl rfl rfl rfl (lk rfl) ?_))
 refine So.n (lk rfl) (A.call0 [.agg 3 _, .p (.v (.int .i64 _))] 3 rfl rfl rfl rfl ⟨trivial, trivial, trivial⟩ trivial ((takeF 0 z [] 2).g, (takeF 0 z [] 2).s, (takeF 0 z [] 2).K, 0) ⟨le_agg (fun j hj => by match j, hj with | 0, _ => rfl | 1, _ => (rfl) | 2, _ => rfl), .refl _, trivial⟩ trivial (by omega) (Φ := fun _ => True) (fun _ _ => trivial) (.inl rfl) (v := .tup 3 _) rfl (O' := _) rfl (fun h3 => ?_))
 refine So.q rfl rfl (V.mv (v := .tup 3 _) rfl (So.q rfl rfl (V.ext rfl (lk rfl) (v := .agg 3 _) rfl (So.q rfl rfl (V.ext rfl (lk rfl) (v := .p (.bs _)) rfl (So.q rfl rfl (V.ext rfl (lk rfl) (v := .p (.v (.int .i64 _))) rfl (So.n (lk rfl) (A.alloc 3 1 ty26 rfl trivial (f := fun j => ([.v (.int .i64 0), .v (.slice none 0 0), .v (.slice none 0 0)] : List PV).getD j (.v undef)) (fun j hj => by match j, hj with | 0, _ => rfl | 1, _ => rfl | 2, _ => rfl) (So.s (A.stoAg ty26 rfl (n := 3) rfl (by decide) (by intro j hj; (match j, hj with | 0, _ => (trivial) | 1, _ => (trivial) | 2, _ => (trivial))) rfl rfl rfl (So.q rfl rfl (V.as (v := .p (.bs _)) rfl (So.q rfl rfl (V.as (v := .p (.v (.int .i64 _))) rfl (So.e (HT.seq ?_)))))))))))))))))
 refine HT.region S_head_ok (So.q rfl rfl (V.ldPtrA ty26 rfl rfl rfl rfl (lk rfl) ?_))
 refine So.n (lk rfl) (A.call0 [.agg 3 _, .p (.v (.int .i64 _))] 4 rfl rfl rfl rfl ⟨trivial, trivial, trivial⟩ trivial ((takeF (takeF 0 z [] 2).g (takeF 0 z [] 2).s (takeF 0 z [] 2).K 0).g, (takeF (takeF 0 z [] 2).g (takeF 0 z [] 2).s (takeF 0 z [] 2).K 0).s, (takeF (takeF 0 z [] 2).g (takeF 0 z [] 2).s (takeF 0 z [] 2).K 0).K, 0) ⟨le_agg (fun j hj => by match j, hj with | 0, _ => rfl | 1, _ => (rfl) | 2, _ => rfl), .refl _, trivial⟩ trivial (by omega) (Φ := fun _ => True) (fun _ _ => trivial) (.inl rfl) (v := .tup 3 _) rfl (O' := _) rfl (fun h4 => ?_))
 refine So.q rfl rfl (V.mv (v := .tup 3 _) rfl (So.q rfl rfl (V.ext rfl (lk rfl) (v := .agg 3 _) rfl (So.q rfl rfl (V.ext rfl (lk rfl) (v := .p (.bs _)) rfl (So.q rfl rfl (V.ext rfl (lk rfl) (v := .p (.v (.int .i64 _))) rfl (So.n (lk rfl) (A.alloc 4 1 ty26 rfl trivial (f := fun j => ([.v (.int .i64 0), .v (.slice none 0 0), .v (.slice none 0 0)] : List PV).getD j (.v undef)) (fun j hj => by match j, hj with | 0, _ => rfl | 1, _ => rfl | 2, _ => rfl) (So.s (A.stoAg ty26 rfl (n := 3) rfl (by decide) (by intro j hj; (match j, hj with | 0, _ => (trivial) | 1, _ => (trivial) | 2, _ => (trivial))) rfl rfl rfl (So.q rfl rfl (V.as (v := .p (.bs _)) rfl (So.q rfl rfl (V.as (v := .p (.v (.int .i64 _))) rfl (So.e (HT.seq ?_)))))))))))))))))
 refine HT.region S_head_ok (So.q rfl rfl (V.ldPtrA ty26 rfl rfl rfl rfl (lk rfl) ?_))
 refine So.n (lk rfl) (A.call0 [.agg 3 _, .p (.v (.int .i64 _))] 5 rfl rfl rfl rfl ⟨trivial, trivial, trivial⟩ trivial (0, z, [], 9) ⟨le_agg (fun j hj => by match j, hj with | 0, _ => rfl | 1, _ => ((show PV.bs _ = PV.bs _; congr 1; (rw [hz]; rfl))) | 2, _ => rfl), .refl _, trivial⟩ trivial (by (simp; done)) (Φ := fun _ => True) (fun _ _ => trivial) (.inl rfl) (v := .tup 3 _) rfl (O' := _) rfl (fun h5 => ?_))
 refine So.q rfl rfl (V.mv (v := .tup 3 _) rfl (So.q rfl rfl (V.ext rfl (lk rfl) (v := .agg 3 _) rfl (So.q rfl rfl (V.ext rfl (lk rfl) (v := .p (.bs _)) rfl (So.q rfl rfl (V.ext rfl (lk rfl) (v := .p (.v (.int .i64 _))) rfl (So.n (lk rfl) (A.alloc 5 1 ty26 rfl trivial (f := fun j => ([.v (.int .i64 0), .v (.slice none 0 0), .v (.slice none 0 0)] : List PV).getD j (.v undef)) (fun j hj => by match j, hj with | 0, _ => rfl | 1, _ => rfl | 2, _ => rfl) (So.s (A.stoAg ty26 rfl (n := 3) rfl (by decide) (by intro j hj; (match j, hj with | 0, _ => (trivial) | 1, _ => (trivial) | 2, _ => (trivial))) rfl rfl rfl (So.q rfl rfl (V.as (v := .p (.bs _)) rfl (So.q rfl rfl (V.as (v := .p (.v (.int .i64 _))) rfl (So.e (HT.seq ?_)))))))))))))))))
 refine HT.region S_head_ok (So.q rfl rfl (V.mv (v := .p (.v (.int .i64 _))) rfl (So.q rfl rfl (V.bin (a := .v (.int .i64 _)) (b := .v (.int .i64 0)) (r := .v (.bool _)) rfl rfl rfl trivial (So.q rfl rfl (V.mv (v := .p (.v (.bool _))) rfl ?_))))))
 refine So.gd rfl rfl (lk rfl) (lk rfl) (fun h6 => ?_) (fun h6 => ?_)
 ·have h6 := of_decide_eq_true h6
  refine A.v rfl (V.mv (v := .p (.bs _)) rfl (So.gy rfl rfl (lk rfl) (lk rfl) (A.v rfl (V.len ty22 (v := .p (.bs _)) rfl rfl (So.gy rfl rfl (lk rfl) (lk rfl) (A.v rfl (V.bin (a := .v (.int .i64 _)) (b := .v (.int .i64 32)) (r := .v (.bool _)) rfl rfl rfl trivial (So.q rfl rfl (V.pkTrue (u := .p (.v (.bool _))) rfl rfl (So.q rfl rfl (V.mv (v := .p (.v (.bool _))) rfl ?_)))))))))))
  refine So.gd rfl rfl (lk rfl) (lk rfl) (fun h7 => ?_) (fun h7 => ?_)
  ·have h7 := of_decide_eq_true h7
   refine A.v rfl (V.mv (v := .p (.v (.int .i64 _))) rfl (So.gy rfl rfl (lk rfl) (lk rfl) (A.v rfl (V.bin (a := .v (.int .i64 _)) (b := .v (.int .i64 0)) (r := .v (.bool _)) rfl rfl rfl trivial (So.q rfl rfl (V.pkTrue (u := .p (.v (.bool _))) rfl rfl (So.q rfl rfl (V.mv (v := .p (.v (.bool _))) rfl ?_))))))))
   refine So.gd rfl rfl (lk rfl) (lk rfl) (fun h8 => ?_) (fun h8 => ?_)
   ·have h8 := of_decide_eq_true h8
    refine A.v rfl (V.mv (v := .p (.bs _)) rfl (So.gy rfl rfl (lk rfl) (lk rfl) (A.v rfl (V.len ty22 (v := .p (.bs _)) rfl rfl (So.gy rfl rfl (lk rfl) (lk rfl) (A.v rfl (V.bin (a := .v (.int .i64 _)) (b := .v (.int .i64 32)) (r := .v (.bool _)) rfl rfl rfl trivial (So.q rfl rfl (V.pkTrue (u := .p (.v (.bool _))) rfl rfl (So.q rfl rfl (V.mv (v := .p (.v (.bool _))) rfl ?_)))))))))))
    refine So.gd rfl rfl (lk rfl) (lk rfl) (fun h9 => ?_) (fun h9 => ?_)
    ·have h9 := of_decide_eq_true h9
     refine A.v rfl (V.mv (v := .p (.v (.int .i64 _))) rfl (So.gy rfl rfl (lk rfl) (lk rfl) (A.v rfl (V.bin (a := .v (.int .i64 _)) (b := .v (.int .i64 171)) (r := .v (.bool _)) rfl rfl rfl trivial (So.q rfl rfl (V.pkTrue (u := .p (.v (.bool _))) rfl rfl (So.q rfl rfl (V.mv (v := .p (.v (.bool _))) rfl ?_))))))))
     refine So.gd rfl rfl (lk rfl) (lk rfl) (fun h10 => ?_) (fun h10 => ?_)
     ·have h10 := of_decide_eq_true h10
      refine A.v rfl (V.mv (v := .p (.v (.int .i64 _))) rfl (So.gy rfl rfl (lk rfl) (lk rfl) (A.v rfl (V.bin (a := .v (.int .i64 _)) (b := .v (.int .i64 172)) (r := .v (.bool _)) rfl rfl rfl trivial (So.q rfl rfl (V.pkTrue (u := .p (.v (.bool _))) rfl rfl (So.q rfl rfl (V.mv (v := .p (.v (.bool _))) rfl ?_))))))))
      refine So.gd rfl rfl (lk rfl) (lk rfl) (fun h11 => ?_) (fun h11 => ?_)
      ·have h11 := of_decide_eq_true h11
       refine A.mkB 6 ty22 ty5 rfl rfl rfl (by omega) rfl rfl trivial ?_
       refine So.gy rfl rfl (lk rfl) (lk rfl) ?_
       refine A.call [.own 1 _ _, .p (.v (.int .i64 _)), .p (.v (.int .i64 _))] [(1, ⟨_, _, _, _, .bs _⟩)] (sg [(1, 6)]) 7 rfl rfl rfl rfl ⟨rfl, trivial⟩ rfl ⟨trivial, trivial⟩ ⟨rfl, trivial, trivial, trivial⟩ trivial rfl (List.replicate 32 0, 2, 3) ⟨.refl _, .refl _, .refl _, trivial⟩ ⟨⟨_, rfl, .inl rfl, trivial⟩, trivial⟩ (by trivial) (Φ := fun _ => True) (fun _ _ => trivial) trivial (.inl rfl) rfl (v := .p (.bs _)) rfl (O' := _) rfl (fun h12 => ?_)
       refine So.gy rfl rfl (lk rfl) (lk rfl) (A.v rfl (V.len ty22 (v := .p (.bs _)) rfl rfl (So.gy rfl rfl (lk rfl) (lk rfl) (A.v rfl (V.bin (a := .v (.int .i64 _)) (b := .v (.int .i64 32)) (r := .v (.bool _)) rfl rfl rfl trivial (So.q rfl rfl (V.pkTrue (u := .p (.v (.bool _))) rfl rfl (So.q rfl rfl (V.as (v := .p (.v (.bool _))) rfl (So.e ?_))))))))))
       show HT _ _ _ _ _
       refine HT.ret ?_
       exact ret_ok (sg []) h rfl rfl rfl trivial ⟨trivial, trivial⟩ rfl ⟨⟨⟨le_bool (by exact decide_eq_true (by (rw [hz] at hd9; rw [hd9.sec]; rfl))), trivial⟩, trivial⟩, trivial⟩
      ·have h11 := of_decide_eq_false h11
       exact absurd (by exact hd9.e4) h11
     ·have h10 := of_decide_eq_false h10
      exact absurd (by exact hd9.e3) h10
    ·have h9 := of_decide_eq_false h9
     exact absurd (by (rw [hd9.b2]; rfl)) h9
   ·have h8 := of_decide_eq_false h8
    exact absurd (by exact hd9.e2) h8
  ·have h7 := of_decide_eq_false h7
   exact absurd (by (rw [hd9.b1]; rfl)) h7
 ·have h6 := of_decide_eq_false h6
  exact absurd (by exact hd9.e1) h6
def rsecretSp : Sp := ⟨[], mkE (α := (List UInt8) × Int × Int) (fun (e, d, f) => [.p (.bs e), .p (.v (.int .i64 d)), .p (.v (.int .i64 f))]) (fun (e, d, f) => []) (fun (e, d, f) => True) (fun (e, d, f) => [.p (.bs (rsecF e d f))]) (fun (e, d, f) => [])⟩
def S_rsecret : FuncId → Option Sp := fun f => if f = 28 then some spLeafSp else if f = 27 then some sprightSp else if f = 21 then some cloneSp else if f = 30 then some spdownSp else if f = 29 then some spoverSp else if f = 31 then some hlabelSp else none
theorem S_rsecret_ok : ∀ f s, S_rsecret f = some s → FOK Tryd.prog gl f s := fun f s h => by
 unfold S_rsecret at h
 split at h
 ·rename_i e; cases h; subst e; exact spLeaf_ok
 split at h
 ·rename_i e; cases h; subst e; exact spright_ok
 split at h
 ·rename_i e; cases h; subst e; exact clone_ok
 split at h
 ·rename_i e; cases h; subst e; exact spdown_ok
 split at h
 ·rename_i e; cases h; subst e; exact spover_ok
 split at h
 ·rename_i e; cases h; subst e; exact hlabel_ok
 cases h
set_option maxHeartbeats 1000000 in
set_option maxRecDepth 20000 in
theorem rsecret_ok : FOK Tryd.prog gl 12 rsecretSp := by
 refine FOK.ofE (tyOf_ok Tryd.prog) (slots := [6]) (nt := 51) Tryd.func12 rfl rfl rfl rfl (by decide) 3 (fun ⟨_, _, _⟩ => rfl) (by decide) (fun ⟨_, _, _⟩ => ⟨trivial, trivial, trivial, trivial⟩) ?_
 rintro ⟨e, d, f⟩ kk hlen hpre h
 have hl0 : (e).length ≤ 9223372036854775807 := hlen.1
 replace hpre : True := hpre
 show HT (cx Tryd.prog 51 (tyOf Tryd.prog) gl []) _ [(0, .p (.bs e)), (1, .p (.v (.int .i64 d))), (2, .p (.v (.int .i64 f)))] [] _
 obtain ⟨s, hs0⟩ : ∃ s : Nat, s = 0 := ⟨0, rfl⟩
 refine HT.seq (HT.region S_rsecret_ok (So.q rfl rfl (V.as (v := .p (.v (.slice none 0 0))) rfl (So.e ?_))))
 show HT _ _ _ _ _
 refine R.jump (σ := Nat) 0 (fun s => [(8, .p (.v (.complex .f64 (fl (d.toNat - s)) (fl (f.toNat / 2 ^ (d.toNat - s)))))), (7, .p (.bs (rsecN e d.toNat f.toNat s)))]) (fun s => []) [2] [] (fun s => s ≤ d.toNat ∧ e.length = 32 ∧ 0 ≤ f ∧ f < 65536 ∧ rightS 0 f.toNat d) (fun s => d.toNat - s) rfl (fr0 := [(2, .p (.v (.int .i64 _)))]) (O0 := []) rfl rfl ?_ (fun s hPj => ?_)
 ·refine HT.seq ?_
  refine HT.seq (HT.region S_rsecret_ok (So.q rfl rfl (V.mv (v := .p (.bs _)) rfl (So.q rfl rfl (V.len ty22 (v := .p (.bs _)) rfl rfl (So.q rfl rfl (V.bin (a := .v (.int .i64 _)) (b := .v (.int .i64 32)) (r := .v (.bool _)) rfl rfl rfl trivial (So.q rfl rfl (V.mv (v := .p (.v (.bool _))) rfl ?_)))))))))
  refine So.gd rfl rfl (lk rfl) (lk rfl) (fun h1 => ?_) (fun h1 => ?_)
  ·have h1 := of_decide_eq_true (bnF h1)
   refine A.v rfl (V.mv (v := .p (.v (.int .i64 _))) rfl (So.gy rfl rfl (lk rfl) (lk rfl) (A.v rfl (V.bin (a := .v (.int .i64 _)) (b := .v (.int .i64 0)) (r := .v (.bool _)) rfl rfl rfl trivial (So.q rfl rfl (V.pkFalse (u := .p (.v (.bool _))) rfl rfl (So.q rfl rfl (V.mv (v := .p (.v (.bool _))) rfl ?_))))))))
   refine So.gd rfl rfl (lk rfl) (lk rfl) (fun h2 => ?_) (fun h2 => ?_)
   ·have h2 := of_decide_eq_false h2
    refine A.v rfl (V.mv (v := .p (.v (.int .i64 _))) rfl (So.gy rfl rfl (lk rfl) (lk rfl) (A.v rfl (V.bin (a := .v (.int .i64 _)) (b := .v (.int .i64 65536)) (r := .v (.bool _)) rfl rfl rfl trivial (So.q rfl rfl (V.pkFalse (u := .p (.v (.bool _))) rfl rfl (So.q rfl rfl (V.mv (v := .p (.v (.bool _))) rfl ?_))))))))
    refine So.gd rfl rfl (lk rfl) (lk rfl) (fun h3 => ?_) (fun h3 => ?_)
    ·have h3 := of_decide_eq_false h3
     refine A.v rfl (V.mv (v := .p (.v (.int .i64 _))) rfl (So.gy rfl rfl (lk rfl) (lk rfl) ?_))
     refine A.call0 [.p (.v (.int .i64 _))] 1 rfl rfl rfl rfl ⟨trivial, trivial⟩ trivial _ ⟨.refl _, trivial⟩ trivial (by trivial) (Φ := fun _ => True) (fun _ _ => trivial) (.inl rfl) (v := .p (.v (.complex .f64 _ _))) rfl (O' := _) rfl (fun h4 => ?_)
     refine So.gy rfl rfl (lk rfl) (lk rfl) (A.v rfl (V.mv (v := .p (.v (.int .i64 _))) rfl (So.gy rfl rfl (lk rfl) (lk rfl) ?_)))
     refine A.call0 [.p (.v (.complex .f64 _ _)), .p (.v (.int .i64 _))] 1 rfl rfl rfl rfl ⟨trivial, trivial, trivial⟩ trivial (0, f.toNat, d) ⟨le_cx rfl (by rw [if_pos (by omega)]), .refl _, trivial⟩ trivial (by omega) (Φ := fun _ => True) (fun _ _ => trivial) (.inl rfl) (v := .p (.v (.bool _))) rfl (O' := _) rfl (fun h5 => ?_)
     refine So.gy rfl rfl (lk rfl) (lk rfl) (A.v rfl (V.not rfl (So.q rfl rfl (V.pkFalse (u := .p (.v (.bool _))) rfl rfl (So.e ?_)))))
     show HT _ _ _ _ _
     refine R.cond rfl rfl (fun h6 => ?_) (fun h6 => ?_)
     ·have h6 := of_decide_eq_false (bnT h6)
      refine HT.seq (HT.region S_rsecret_ok (So.q rfl rfl (V.as (v := .p (.v (.slice none 0 0))) rfl (So.e ?_))))
      show HT _ _ _ _ _
      refine HT.ret ?_
      exact ret_ok (sg []) h rfl rfl rfl trivial ⟨trivial, trivial⟩ rfl ⟨⟨⟨le_nil (by (exact sec_no (fun h9 => absurd h9.2.2.2 (by assumption)))), trivial⟩, trivial⟩, trivial⟩
     ·have h6 := of_decide_eq_true (bnF h6)
      refine HT.skip (HT.seq (HT.region S_rsecret_ok ?_))
      have hrs : rightS 0 f.toNat d := by assumption
      obtain ⟨hd16, _, hf2⟩ := id hrs
      rw [Nat.sub_zero] at hf2
      have hPj : s ≤ d.toNat := by omega
      refine So.q rfl rfl (V.mv (v := .p (.bs _)) rfl ?_)
      refine So.n (lk rfl) (A.call0F S_rsecret_ok [.p (.bs _)] 1 rfl rfl rfl rfl ⟨trivial, trivial⟩ trivial e ⟨.refl _, trivial⟩ trivial (by omega) (Φ := fun _ => True) (fun _ _ => trivial) (.inl rfl) (t := 2) (off := 0) rfl (O' := (2, ⟨5, 1, _, true, .bs _⟩) :: _) rfl rfl rfl (y := .p (.bs _)) rfl rfl (fun h7 => ?_))
      refine So.q rfl rfl (V.as (v := .p (.bs _)) rfl (So.e (HT.seq (HT.region S_rsecret_ok (So.q rfl rfl (V.mv (v := .p (.v (.int .i64 _))) rfl (So.q rfl rfl (V.cvF ty57 ty3 rfl (fl_of (m := d.toNat) (by omega)) (So.q rfl rfl (V.pb (r := .v (.complex .f64 _ _)) (by decide) rfl rfl (So.q rfl rfl (V.as (v := .p (.v (.complex .f64 _ _))) rfl (So.e (HT.seq ?_))))))))))))))
      refine HT.label (HT.seq (HT.seq ?_))
      refine R.tell [(8, .p (.v (.complex .f64 (fl (d.toNat - s)) (fl (f.toNat / 2 ^ (d.toNat - s)))))), (7, .p (.bs (rsecN e d.toNat f.toNat s)))] [] [2, 6] [] (fr0 := [(2, .p (.v (.int .i64 _))), (6, .p (.v (.slice none 0 0)))]) (O0 := []) rfl rfl ⟨⟨⟨le_cx (by subst hs0; rfl) (by subst hs0; (rw [Nat.sub_zero, Nat.div_eq_of_lt hf2]; exact fl_0.symm)), trivial⟩, ⟨le_bs (by subst hs0; (rw [List.drop_zero, List.take_of_length_le (by omega)]; rfl)), trivial⟩, ⟨.refl _, trivial⟩, ⟨.refl _, trivial⟩, trivial⟩, trivial⟩ ?_
      show HT _ _ _ _ _
      refine HT.region S_rsecret_ok ?_
      have hp16 := p2_16 (k := d.toNat) (by omega)
      refine So.q rfl rfl (V.mv (v := .p (.v (.complex .f64 _ _))) rfl (So.q rfl rfl (V.pb (r := .v (.float .f64 _)) (by decide) rfl rfl (So.q rfl rfl (V.flt rfl (flc fl_0) (flt_eql (by omega) (by omega)) (So.e ?_))))))
      show HT _ _ _ _ _
      refine R.cond rfl rfl (fun h8 => ?_) (fun h8 => ?_)
      ·have h8 := of_decide_eq_true h8
       refine HT.seq (HT.region S_rsecret_ok (So.q rfl rfl (V.mv (v := .p (.bs _)) rfl (So.q rfl rfl (V.as (v := .p (.bs _)) rfl (So.e ?_))))))
       show HT _ _ _ _ _
       refine HT.ret ?_
       exact ret_ok (sg []) h rfl rfl rfl trivial ⟨trivial, trivial⟩ rfl ⟨⟨⟨le_bs (by (replace hPj : s = d.toNat := (by omega); subst hPj; rw [sec_yes (by omega) (by omega) (by assumption)])), trivial⟩, trivial⟩, trivial⟩
      ·have h8 := of_decide_eq_false h8
       refine HT.skip (HT.seq (HT.region S_rsecret_ok ?_))
       have hrp := rs_path (d := d.toNat) (f := f.toNat) (s := s) (by omega) hf2 hPj
       have hrb := rs_below hrp (by omega) 0 (by omega)
       have hb9 := rs_b hrp
       have hdb := down_bit f.toNat (d.toNat - s - 1)
       rw [show d.toNat - s - 1 + 1 = d.toNat - s by omega] at hdb
       have hsl := rsecN_len e (by omega) d.toNat f.toNat s
       refine So.q rfl rfl (V.mv (v := .p (.v (.complex .f64 _ _))) rfl ?_)
       refine So.n (lk rfl) (A.call0 [.p (.v (.complex .f64 _ _)), .p (.v (.bool false))] 1 rfl rfl rfl rfl ⟨trivial, trivial, trivial⟩ trivial (d.toNat - s, f.toNat / 2 ^ (d.toNat - s), false) ⟨.refl _, .refl _, trivial⟩ trivial (by exact ⟨by omega, hrp⟩) (Φ := fun _ => True) (fun _ _ => trivial) (.inl rfl) (v := .p (.v (.complex .f64 _ _))) rfl (O' := _) rfl (fun h9 => ?_))
       refine So.q rfl rfl (V.mv (v := .p (.v (.int .i64 _))) rfl ?_)
       refine So.n (lk rfl) (A.call0 [.p (.v (.complex .f64 _ _)), .p (.v (.int .i64 _))] 1 rfl rfl rfl rfl ⟨trivial, trivial, trivial⟩ trivial (d.toNat - s - 1, 2 * (f.toNat / 2 ^ (d.toNat - s)), f.toNat) ⟨le_cx rfl rfl, le_int (by omega), trivial⟩ trivial (by exact ⟨hrb, by omega⟩) (Φ := fun _ => True) (fun _ _ => trivial) (.inl rfl) (v := .p (.v (.bool _))) rfl (O' := _) rfl (fun h10 => ?_))
       refine So.q rfl rfl (V.not rfl (So.q rfl rfl (V.as (v := .p (.v (.bool _))) rfl (So.e (HT.seq (HT.region S_rsecret_ok (So.q rfl rfl (V.as (v := .p (.str [108, 101, 102, 116])) rfl (So.e (HT.seq (HT.seq (HT.region S_rsecret_ok ?_))))))))))))
       refine So.q rfl rfl (V.mv (v := .p (.v (.bool _))) rfl (So.e ?_))
       show HT _ _ _ _ _
       refine R.cond rfl rfl (fun h11 => ?_) (fun h11 => ?_)
       ·have h11 := of_decide_eq_false (bnT h11)
        refine HT.region S_rsecret_ok (So.q rfl rfl (V.as (v := .p (.str [114, 105, 103, 104, 116])) rfl (So.e (HT.seq (HT.region S_rsecret_ok (So.q rfl rfl (V.mv (v := .p (.bs _)) rfl (So.q rfl rfl (V.mv (v := .p (.str _)) rfl (So.n (lk rfl) (A.cvS 1 ty22 ty5 ty9 rfl rfl (by (simp; done)) rfl trivial ?_)))))))))))
        refine So.n (lk rfl) (A.call0F S_rsecret_ok [.p (.bs _), .p (.str _), .p (.bs _), .p (.v (.int .i64 _))] 2 rfl rfl rfl rfl ⟨trivial, trivial, trivial, trivial, trivial⟩ trivial (rsecN e d.toNat f.toNat s, nTree, sideF d.toNat f.toNat s, 32) ⟨.refl _, .refl _, le_bs (by unfold sideF; (rw [if_pos (by omega)]; rfl)), .refl _, trivial⟩ trivial (by omega) (Φ := fun _ => True) (fun _ _ => trivial) (.inr ⟨trivial, by simp [Hp.scal, OC.scal, PV.scal, BV.scal]⟩) (t := 4) (off := 0) rfl (O' := (4, ⟨5, 1, _, true, .bs _⟩) :: _) rfl rfl rfl (y := .p (.bs _)) rfl rfl (fun h12 => ?_))
        refine So.q rfl rfl (V.as (v := .p (.bs _)) rfl (So.e (HT.seq (HT.region S_rsecret_ok (So.q rfl rfl (V.mv (v := .p (.v (.complex .f64 _ _))) rfl (So.q rfl rfl (V.mv (v := .p (.v (.bool _))) rfl ?_))))))))
        refine So.n (lk rfl) (A.call0 [.p (.v (.complex .f64 _ _)), .p (.v (.bool _))] 2 rfl rfl rfl rfl ⟨trivial, trivial, trivial⟩ trivial (d.toNat - s, f.toNat / 2 ^ (d.toNat - s), _) ⟨.refl _, .refl _, trivial⟩ trivial (by exact ⟨by omega, hrp⟩) (Φ := fun _ => True) (fun _ _ => trivial) (.inl rfl) (v := .p (.v (.complex .f64 _ _))) rfl (O' := _) rfl (fun h13 => ?_))
        refine So.q rfl rfl (V.as (v := .p (.v (.complex .f64 _ _))) rfl (So.e ?_))
        show HT _ _ _ _ _
        refine HT.goto ?_
        exact ⟨rfl, s + 1, by exact ⟨by omega, by omega, by omega, by omega, hrs⟩, ⟨⟨⟨le_cx (by (exact congrArg fl (by omega))) (by (exact congrArg fl (dn_eq hdb))), trivial⟩, ⟨le_bs (by (show _ = labelF _ _ _ _; exact take_full _)), trivial⟩, ⟨.refl _, trivial⟩, trivial⟩, trivial⟩⟩
       ·have h11 := of_decide_eq_true (bnF h11)
        refine HT.skip (HT.seq (HT.region S_rsecret_ok (So.q rfl rfl (V.mv (v := .p (.bs _)) rfl (So.q rfl rfl (V.mv (v := .p (.str _)) rfl (So.n (lk rfl) (A.cvS 1 ty22 ty5 ty9 rfl rfl (by (simp; done)) rfl trivial ?_))))))))
        refine So.n (lk rfl) (A.call0F S_rsecret_ok [.p (.bs _), .p (.str _), .p (.bs _), .p (.v (.int .i64 _))] 2 rfl rfl rfl rfl ⟨trivial, trivial, trivial, trivial, trivial⟩ trivial (rsecN e d.toNat f.toNat s, nTree, sideF d.toNat f.toNat s, 32) ⟨.refl _, .refl _, le_bs (by unfold sideF; (rw [if_neg (by omega)]; rfl)), .refl _, trivial⟩ trivial (by omega) (Φ := fun _ => True) (fun _ _ => trivial) (.inr ⟨trivial, by simp [Hp.scal, OC.scal, PV.scal, BV.scal]⟩) (t := 4) (off := 0) rfl (O' := (4, ⟨5, 1, _, true, .bs _⟩) :: _) rfl rfl rfl (y := .p (.bs _)) rfl rfl (fun h14 => ?_))
        refine So.q rfl rfl (V.as (v := .p (.bs _)) rfl (So.e (HT.seq (HT.region S_rsecret_ok (So.q rfl rfl (V.mv (v := .p (.v (.complex .f64 _ _))) rfl (So.q rfl rfl (V.mv (v := .p (.v (.bool _))) rfl ?_))))))))
        refine So.n (lk rfl) (A.call0 [.p (.v (.complex .f64 _ _)), .p (.v (.bool _))] 2 rfl rfl rfl rfl ⟨trivial, trivial, trivial⟩ trivial (d.toNat - s, f.toNat / 2 ^ (d.toNat - s), _) ⟨.refl _, .refl _, trivial⟩ trivial (by exact ⟨by omega, hrp⟩) (Φ := fun _ => True) (fun _ _ => trivial) (.inl rfl) (v := .p (.v (.complex .f64 _ _))) rfl (O' := _) rfl (fun h15 => ?_))
        refine So.q rfl rfl (V.as (v := .p (.v (.complex .f64 _ _))) rfl (So.e ?_))
        show HT _ _ _ _ _
        refine HT.goto ?_
        exact ⟨rfl, s + 1, by exact ⟨by omega, by omega, by omega, by omega, hrs⟩, ⟨⟨⟨le_cx (by (exact congrArg fl (by omega))) (by (exact congrArg fl (dn_eq hdb))), trivial⟩, ⟨le_bs (by (show _ = labelF _ _ _ _; exact take_full _)), trivial⟩, ⟨.refl _, trivial⟩, trivial⟩, trivial⟩⟩
    ·have h3 := of_decide_eq_true h3
     refine So.gn (b := true) rfl rfl rfl (lk rfl) (lk rfl) (So.gn (b := true) rfl rfl rfl (lk rfl) (lk rfl) (So.gn (b := true) rfl rfl rfl (lk rfl) (lk rfl) (So.gn (b := true) rfl rfl rfl (lk rfl) (lk rfl) (So.q rfl rfl (V.pkTrue (u := .p (.v (.bool true))) rfl rfl (So.e ?_))))))
     show HT _ _ _ _ _
     refine R.condT rfl ?_
     refine HT.seq (HT.region S_rsecret_ok (So.q rfl rfl (V.as (v := .p (.v (.slice none 0 0))) rfl (So.e ?_))))
     show HT _ _ _ _ _
     refine HT.ret ?_
     exact ret_ok (sg []) h rfl rfl rfl trivial ⟨trivial, trivial⟩ rfl ⟨⟨⟨le_nil (by exact sec_no (by omega)), trivial⟩, trivial⟩, trivial⟩
   ·have h2 := of_decide_eq_true h2
    refine So.gn (b := true) rfl rfl rfl (lk rfl) (lk rfl) (So.q rfl rfl (V.pkTrue (u := .p (.v (.bool true))) rfl rfl (So.q rfl rfl (V.mv (v := .p (.v (.bool true))) rfl (So.gn (b := true) rfl rfl rfl (lk rfl) (lk rfl) (So.gn (b := true) rfl rfl rfl (lk rfl) (lk rfl) (So.gn (b := true) rfl rfl rfl (lk rfl) (lk rfl) (So.gn (b := true) rfl rfl rfl (lk rfl) (lk rfl) (So.gn (b := true) rfl rfl rfl (lk rfl) (lk rfl) (So.q rfl rfl (V.pkTrue (u := .p (.v (.bool true))) rfl rfl (So.e ?_))))))))))))
    show HT _ _ _ _ _
    refine R.condT rfl ?_
    refine HT.seq (HT.region S_rsecret_ok (So.q rfl rfl (V.as (v := .p (.v (.slice none 0 0))) rfl (So.e ?_))))
    show HT _ _ _ _ _
    refine HT.ret ?_
    exact ret_ok (sg []) h rfl rfl rfl trivial ⟨trivial, trivial⟩ rfl ⟨⟨⟨le_nil (by exact sec_no (by omega)), trivial⟩, trivial⟩, trivial⟩
  ·have h1 := of_decide_eq_false (bnT h1)
   refine So.gn (b := true) rfl rfl rfl (lk rfl) (lk rfl) (So.q rfl rfl (V.pkTrue (u := .p (.v (.bool true))) rfl rfl (So.q rfl rfl (V.mv (v := .p (.v (.bool true))) rfl (So.gn (b := true) rfl rfl rfl (lk rfl) (lk rfl) (So.gn (b := true) rfl rfl rfl (lk rfl) (lk rfl) (So.q rfl rfl (V.pkTrue (u := .p (.v (.bool true))) rfl rfl (So.q rfl rfl (V.mv (v := .p (.v (.bool true))) rfl (So.gn (b := true) rfl rfl rfl (lk rfl) (lk rfl) (So.gn (b := true) rfl rfl rfl (lk rfl) (lk rfl) (So.gn (b := true) rfl rfl rfl (lk rfl) (lk rfl) ?_)))))))))))))
   refine So.gn (b := true) rfl rfl rfl (lk rfl) (lk rfl) (So.gn (b := true) rfl rfl rfl (lk rfl) (lk rfl) (So.q rfl rfl (V.pkTrue (u := .p (.v (.bool true))) rfl rfl (So.e ?_))))
   show HT _ _ _ _ _
   refine R.condT rfl ?_
   refine HT.seq (HT.region S_rsecret_ok (So.q rfl rfl (V.as (v := .p (.v (.slice none 0 0))) rfl (So.e ?_))))
   show HT _ _ _ _ _
   refine HT.ret ?_
   exact ret_ok (sg []) h rfl rfl rfl trivial ⟨trivial, trivial⟩ rfl ⟨⟨⟨le_nil (by exact sec_no (by omega)), trivial⟩, trivial⟩, trivial⟩
 ·obtain ⟨hPj, h32, hf0, hf1, hrs⟩ := hPj
  obtain ⟨hd16, _, hf2⟩ := id hrs
  rw [Nat.sub_zero] at hf2
  show HT _ _ _ _ _
  refine HT.seq (HT.skip (HT.seq (HT.seq (HT.region S_rsecret_ok ?_))))
  have hp16 := p2_16 (k := d.toNat) (by omega)
  refine So.q rfl rfl (V.mv (v := .p (.v (.complex .f64 _ _))) rfl (So.q rfl rfl (V.pb (r := .v (.float .f64 _)) (by decide) rfl rfl (So.q rfl rfl (V.flt rfl (flc fl_0) (flt_eql (by omega) (by omega)) (So.e ?_))))))
  show HT _ _ _ _ _
  refine R.cond rfl rfl (fun h16 => ?_) (fun h16 => ?_)
  ·have h16 := of_decide_eq_true h16
   refine HT.seq (HT.region S_rsecret_ok (So.q rfl rfl (V.mv (v := .p (.bs _)) rfl (So.q rfl rfl (V.as (v := .p (.bs _)) rfl (So.e ?_))))))
   show HT _ _ _ _ _
   refine HT.ret ?_
   exact ret_ok (sg []) h rfl rfl rfl trivial ⟨trivial, trivial⟩ rfl ⟨⟨⟨le_bs (by (replace hPj : s = d.toNat := (by omega); subst hPj; rw [sec_yes (by omega) (by omega) (by assumption)])), trivial⟩, trivial⟩, trivial⟩
  ·have h16 := of_decide_eq_false h16
   refine HT.skip (HT.seq (HT.region S_rsecret_ok ?_))
   have hrp := rs_path (d := d.toNat) (f := f.toNat) (s := s) (by omega) hf2 hPj
   have hrb := rs_below hrp (by omega) 0 (by omega)
   have hb9 := rs_b hrp
   have hdb := down_bit f.toNat (d.toNat - s - 1)
   rw [show d.toNat - s - 1 + 1 = d.toNat - s by omega] at hdb
   have hsl := rsecN_len e (by omega) d.toNat f.toNat s
   refine So.q rfl rfl (V.mv (v := .p (.v (.complex .f64 _ _))) rfl ?_)
   refine So.n (lk rfl) (A.call0 [.p (.v (.complex .f64 _ _)), .p (.v (.bool false))] 1 rfl rfl rfl rfl ⟨trivial, trivial, trivial⟩ trivial (d.toNat - s, f.toNat / 2 ^ (d.toNat - s), false) ⟨.refl _, .refl _, trivial⟩ trivial (by exact ⟨by omega, hrp⟩) (Φ := fun _ => True) (fun _ _ => trivial) (.inl rfl) (v := .p (.v (.complex .f64 _ _))) rfl (O' := _) rfl (fun h17 => ?_))
   refine So.q rfl rfl (V.mv (v := .p (.v (.int .i64 _))) rfl ?_)
   refine So.n (lk rfl) (A.call0 [.p (.v (.complex .f64 _ _)), .p (.v (.int .i64 _))] 1 rfl rfl rfl rfl ⟨trivial, trivial, trivial⟩ trivial (d.toNat - s - 1, 2 * (f.toNat / 2 ^ (d.toNat - s)), f.toNat) ⟨le_cx rfl rfl, le_int (by omega), trivial⟩ trivial (by exact ⟨hrb, by omega⟩) (Φ := fun _ => True) (fun _ _ => trivial) (.inl rfl) (v := .p (.v (.bool _))) rfl (O' := _) rfl (fun h18 => ?_))
   refine So.q rfl rfl (V.not rfl (So.q rfl rfl (V.as (v := .p (.v (.bool _))) rfl (So.e (HT.seq (HT.region S_rsecret_ok (So.q rfl rfl (V.as (v := .p (.str [108, 101, 102, 116])) rfl (So.e (HT.seq (HT.seq (HT.region S_rsecret_ok ?_))))))))))))
   refine So.q rfl rfl (V.mv (v := .p (.v (.bool _))) rfl (So.e ?_))
   show HT _ _ _ _ _
   refine R.cond rfl rfl (fun h19 => ?_) (fun h19 => ?_)
   ·have h19 := of_decide_eq_false (bnT h19)
    refine HT.region S_rsecret_ok (So.q rfl rfl (V.as (v := .p (.str [114, 105, 103, 104, 116])) rfl (So.e (HT.seq (HT.region S_rsecret_ok (So.q rfl rfl (V.mv (v := .p (.bs _)) rfl (So.q rfl rfl (V.mv (v := .p (.str _)) rfl (So.n (lk rfl) (A.cvS 1 ty22 ty5 ty9 rfl rfl (by (simp; done)) rfl trivial ?_)))))))))))
    refine So.n (lk rfl) (A.call0F S_rsecret_ok [.p (.bs _), .p (.str _), .p (.bs _), .p (.v (.int .i64 _))] 2 rfl rfl rfl rfl ⟨trivial, trivial, trivial, trivial, trivial⟩ trivial (rsecN e d.toNat f.toNat s, nTree, sideF d.toNat f.toNat s, 32) ⟨.refl _, .refl _, le_bs (by unfold sideF; (rw [if_pos (by omega)]; rfl)), .refl _, trivial⟩ trivial (by omega) (Φ := fun _ => True) (fun _ _ => trivial) (.inr ⟨trivial, by simp [Hp.scal, OC.scal, PV.scal, BV.scal]⟩) (t := 4) (off := 0) rfl (O' := (4, ⟨5, 1, _, true, .bs _⟩) :: _) rfl rfl rfl (y := .p (.bs _)) rfl rfl (fun h20 => ?_))
    refine So.q rfl rfl (V.as (v := .p (.bs _)) rfl (So.e (HT.seq (HT.region S_rsecret_ok (So.q rfl rfl (V.mv (v := .p (.v (.complex .f64 _ _))) rfl (So.q rfl rfl (V.mv (v := .p (.v (.bool _))) rfl ?_))))))))
    refine So.n (lk rfl) (A.call0 [.p (.v (.complex .f64 _ _)), .p (.v (.bool _))] 2 rfl rfl rfl rfl ⟨trivial, trivial, trivial⟩ trivial (d.toNat - s, f.toNat / 2 ^ (d.toNat - s), _) ⟨.refl _, .refl _, trivial⟩ trivial (by exact ⟨by omega, hrp⟩) (Φ := fun _ => True) (fun _ _ => trivial) (.inl rfl) (v := .p (.v (.complex .f64 _ _))) rfl (O' := _) rfl (fun h21 => ?_))
    refine So.q rfl rfl (V.as (v := .p (.v (.complex .f64 _ _))) rfl (So.e ?_))
    show HT _ _ _ _ _
    refine HT.goto ?_
    exact ⟨rfl, s + 1, by exact ⟨by omega, by omega, by omega, by omega, hrs⟩, by omega, ⟨⟨⟨le_cx (by (exact congrArg fl (by omega))) (by (exact congrArg fl (dn_eq hdb))), trivial⟩, ⟨le_bs (by (show _ = labelF _ _ _ _; exact take_full _)), trivial⟩, ⟨.refl _, trivial⟩, trivial⟩, trivial⟩⟩
   ·have h19 := of_decide_eq_true (bnF h19)
    refine HT.skip (HT.seq (HT.region S_rsecret_ok (So.q rfl rfl (V.mv (v := .p (.bs _)) rfl (So.q rfl rfl (V.mv (v := .p (.str _)) rfl (So.n (lk rfl) (A.cvS 1 ty22 ty5 ty9 rfl rfl (by (simp; done)) rfl trivial ?_))))))))
    refine So.n (lk rfl) (A.call0F S_rsecret_ok [.p (.bs _), .p (.str _), .p (.bs _), .p (.v (.int .i64 _))] 2 rfl rfl rfl rfl ⟨trivial, trivial, trivial, trivial, trivial⟩ trivial (rsecN e d.toNat f.toNat s, nTree, sideF d.toNat f.toNat s, 32) ⟨.refl _, .refl _, le_bs (by unfold sideF; (rw [if_neg (by omega)]; rfl)), .refl _, trivial⟩ trivial (by omega) (Φ := fun _ => True) (fun _ _ => trivial) (.inr ⟨trivial, by simp [Hp.scal, OC.scal, PV.scal, BV.scal]⟩) (t := 4) (off := 0) rfl (O' := (4, ⟨5, 1, _, true, .bs _⟩) :: _) rfl rfl rfl (y := .p (.bs _)) rfl rfl (fun h22 => ?_))
    refine So.q rfl rfl (V.as (v := .p (.bs _)) rfl (So.e (HT.seq (HT.region S_rsecret_ok (So.q rfl rfl (V.mv (v := .p (.v (.complex .f64 _ _))) rfl (So.q rfl rfl (V.mv (v := .p (.v (.bool _))) rfl ?_))))))))
    refine So.n (lk rfl) (A.call0 [.p (.v (.complex .f64 _ _)), .p (.v (.bool _))] 2 rfl rfl rfl rfl ⟨trivial, trivial, trivial⟩ trivial (d.toNat - s, f.toNat / 2 ^ (d.toNat - s), _) ⟨.refl _, .refl _, trivial⟩ trivial (by exact ⟨by omega, hrp⟩) (Φ := fun _ => True) (fun _ _ => trivial) (.inl rfl) (v := .p (.v (.complex .f64 _ _))) rfl (O' := _) rfl (fun h23 => ?_))
    refine So.q rfl rfl (V.as (v := .p (.v (.complex .f64 _ _))) rfl (So.e ?_))
    show HT _ _ _ _ _
    refine HT.goto ?_
    exact ⟨rfl, s + 1, by exact ⟨by omega, by omega, by omega, by omega, hrs⟩, by omega, ⟨⟨⟨le_cx (by (exact congrArg fl (by omega))) (by (exact congrArg fl (dn_eq hdb))), trivial⟩, ⟨le_bs (by (show _ = labelF _ _ _ _; exact take_full _)), trivial⟩, ⟨.refl _, trivial⟩, trivial⟩, trivial⟩⟩
def rnewSp : Sp := ⟨[], mkE (α := (List UInt8)) (fun s => [.p (.bs s)]) (fun s => []) (fun s => True) (fun s => [.agg 3 (fun j => ([.v (.int .i64 0), .bs (if s.length = 32 then s else []), .sl (([] : KL)).length 2 (kR (([] : KL)))] : List PV).getD j (.v undef))]) (fun s => [])⟩
def S_rnew : FuncId → Option Sp := fun f => if f = 21 then some cloneSp else none
theorem S_rnew_ok : ∀ f s, S_rnew f = some s → FOK Tryd.prog gl f s := fun f s h => by
 unfold S_rnew at h
 split at h
 ·rename_i e; cases h; subst e; exact clone_ok
 cases h
set_option maxHeartbeats 1000000 in
set_option maxRecDepth 20000 in
theorem rnew_ok : FOK Tryd.prog gl 9 rnewSp := by
 refine FOK.ofEC (tyOf_ok Tryd.prog) (rvs := [.cell 2 26]) (nt := 10) Tryd.func9 rfl rfl rfl rfl (by decide) 1 (fun _ => rfl) (by decide) (fun _ => ⟨trivial, trivial⟩) ?_
 rintro s kk hlen hpre h
 have hl0 : (s).length ≤ 9223372036854775807 := hlen.1
 replace hpre : True := hpre
 show HT (cx Tryd.prog 10 (tyOf Tryd.prog) gl []) _ [(0, .p (.bs s))] [] _
 refine HT.seq (HT.region S_rnew_ok (So.n (lk rfl) (A.alloc 1 1 ty26 rfl trivial (f := fun j => ([.v (.int .i64 0), .v (.slice none 0 0), .v (.slice none 0 0)] : List PV).getD j (.v undef)) (fun j hj => by match j, hj with | 0, _ => rfl | 1, _ => rfl | 2, _ => rfl) (So.e (HT.seq (HT.seq (HT.region S_rnew_ok (So.q rfl rfl (V.mv (v := .p (.bs _)) rfl (So.q rfl rfl (V.len ty22 (v := .p (.bs _)) rfl rfl (So.q rfl rfl (V.bin (a := .v (.int .i64 _)) (b := .v (.int .i64 32)) (r := .v (.bool _)) rfl rfl rfl trivial ?_)))))))))))))
 refine So.e ?_
 show HT _ _ _ _ _
 refine R.cond rfl rfl (fun h1 => ?_) (fun h1 => ?_)
 ·have h1 := of_decide_eq_false (bnT h1)
  refine HT.seq (HT.region S_rnew_ok (So.n (lk rfl) (A.bldS ty26 rfl rfl trivial rfl (f := fun j => ([.v (.int .i64 0), .v (.slice none 0 0), .v (.slice none 0 0)] : List PV).getD j (.v undef)) (by exact allP_spec (P := fun j => _ = _) ⟨⟨⟨trivial, rfl⟩, rfl⟩, rfl⟩) (So.s (A.stoAg ty26 rfl (n := 3) rfl (by decide) (by intro j hj; (match j, hj with | 0, _ => (trivial) | 1, _ => (trivial) | 2, _ => (trivial))) rfl rfl rfl (So.e ?_))))))
  show HT _ _ _ _ _
  refine HT.ret ?_
  exact retC_ok (sg []) [(2, .ptr 1 0)] [(1, ⟨26, 1, 3, true, .rows (fun j => ([.v (.int .i64 0), .bs (if s.length = 32 then s else []), .sl (([] : KL)).length 2 (kR (([] : KL)))] : List PV).getD j (.v undef))⟩)] h ⟨⟨⟨.refl _, rfl⟩, trivial⟩, ⟨⟨_, rfl, .inr (ob_rowsL (by intro j hj; match j, hj with | 0, _ => (exact .refl _) | 1, _ => (exact le_nil (if_neg (by omega))) | 2, _ => (exact le_nilSl rfl))), trivial⟩, trivial⟩⟩ ⟨rvA_cell ty26 rfl rfl rfl rfl (Nat.le_refl _) (le_agg (fun j _ => by (dsimp only; rw [Nat.zero_add]))), trivial⟩ trivial rfl trivial ⟨trivial, trivial⟩ rfl
 ·have h1 := of_decide_eq_true (bnF h1)
  refine HT.skip (HT.seq (HT.region S_rnew_ok (So.q rfl rfl (V.mv (v := .p (.bs _)) rfl ?_))))
  refine So.n (lk rfl) (A.call0F S_rnew_ok [.p (.bs _)] 2 rfl rfl rfl rfl ⟨trivial, trivial⟩ trivial _ ⟨.refl _, trivial⟩ trivial (by omega) (Φ := fun _ => True) (fun _ _ => trivial) (.inl rfl) (t := 3) (off := 0) rfl (O' := (3, ⟨5, 1, _, true, .bs _⟩) :: _) rfl rfl rfl (y := .p (.bs _)) rfl rfl (fun h2 => ?_))
  refine So.n (lk rfl) (A.bldS ty26 rfl rfl ⟨by exact trivial, trivial⟩ rfl (f := fun j => ([.v (.int .i64 0), .bs s, .v (.slice none 0 0)] : List PV).getD j (.v undef)) (by exact allP_spec (P := fun j => _ = _) ⟨⟨⟨trivial, rfl⟩, by (simp only [take_full]; rfl)⟩, rfl⟩) (So.s (A.stoAg ty26 rfl (n := 3) rfl (by decide) (by intro j hj; (match j, hj with | 0, _ => (trivial) | 1, _ => (trivial) | 2, _ => (trivial))) rfl rfl rfl (So.e ?_))))
  show HT _ _ _ _ _
  refine HT.ret ?_
  exact retC_ok (sg []) [(2, .ptr 1 0)] [(1, ⟨26, 1, 3, true, .rows (fun j => ([.v (.int .i64 0), .bs (if s.length = 32 then s else []), .sl (([] : KL)).length 2 (kR (([] : KL)))] : List PV).getD j (.v undef))⟩)] h ⟨⟨⟨.refl _, rfl⟩, trivial⟩, ⟨⟨_, rfl, .inr (ob_rowsL (by intro j hj; match j, hj with | 0, _ => (exact .refl _) | 1, _ => (exact le_bs (by rw [if_pos (by omega)])) | 2, _ => (exact le_nilSl rfl))), trivial⟩, trivial⟩⟩ ⟨rvA_cell ty26 rfl rfl rfl rfl (Nat.le_refl _) (le_agg (fun j _ => by (dsimp only; rw [Nat.zero_add]))), trivial⟩ trivial rfl trivial ⟨trivial, trivial⟩ rfl
def rnextSp : Sp := ⟨[], mkE (α := Int × (List UInt8) × KL) (fun (g, s, K) => [.agg 3 (fun j => ([.v (.int .i64 g), .bs s, .sl (K).length 2 (kR K)] : List PV).getD j (.v undef))]) (fun (g, s, K) => []) (fun (g, s, K) => K.length ≤ 1000000) (fun (g, s, K) => [.agg 3 (fun j => ([.v (.int .i64 ((nxR g s K).g)), .bs ((nxR g s K).s), .sl ((nxR g s K).K).length 2 (kR ((nxR g s K).K))] : List PV).getD j (.v undef)), .p (.v (.int .i64 (nxG g s K))), .p (.bs ((nxR g s K).b)), .p (.v (.int .i64 ((nxR g s K).e)))]) (fun (g, s, K) => [])⟩
def S_rnext : FuncId → Option Sp := fun f => if f = 10 then some rrightSp else if f = 26 then some rstepSp else if f = 25 then some rcloneSp else none
theorem S_rnext_ok : ∀ f s, S_rnext f = some s → FOK Tryd.prog gl f s := fun f s h => by
 unfold S_rnext at h
 split at h
 ·rename_i e; cases h; subst e; exact rright_ok
 split at h
 ·rename_i e; cases h; subst e; exact rstep_ok
 split at h
 ·rename_i e; cases h; subst e; exact rclone_ok
 cases h
theorem S_rnext_det : ∀ f s, S_rnext f = some s → SpDet s.sp := fun f s h => by
 unfold S_rnext at h
 split at h
 ·cases h; exact mkE_det _ _ _ _ _
 split at h
 ·cases h; exact mkE_det _ _ _ _ _
 split at h
 ·cases h; exact mkE_det _ _ _ _ _
 cases h
set_option maxHeartbeats 1000000 in
set_option maxRecDepth 20000 in
theorem rnext_ok : FOK Tryd.prog gl 18 rnextSp := by
 refine FOK.ofEC (tyOf_ok Tryd.prog) (rvs := [.cell 2 26, .tmp 3, .tmp 4, .tmp 5]) (nt := 31) Tryd.func18 rfl rfl rfl rfl (by decide) 1 (fun ⟨_, _, _⟩ => rfl) (by decide) (fun ⟨_, _, _⟩ => ⟨trivial, trivial⟩) ?_
 rintro ⟨g, s, K⟩ kk hlen hpre h
 replace hpre : K.length ≤ 1000000 := hpre
 show HT (cx Tryd.prog 31 (tyOf Tryd.prog) gl []) _ [(0, .agg 3 (fun j => ([.v (.int .i64 g), .bs s, .sl (K).length 2 (kR K)] : List PV).getD j (.v undef)))] [] _
 refine HT.seq (HT.region S_rnext_ok (So.n (lk rfl) (A.boxAg 1 1 (n := 3) rfl (by intro j hj; (match j, hj with | 0, _ => (trivial) | 1, _ => (trivial) | 2, _ => (trivial))) rfl trivial (So.n (lk rfl) (A.alloc 2 1 ty26 rfl trivial (f := fun j => ([.v (.int .i64 0), .v (.slice none 0 0), .v (.slice none 0 0)] : List PV).getD j (.v undef)) (fun j hj => by match j, hj with | 0, _ => rfl | 1, _ => rfl | 2, _ => rfl) (So.q rfl rfl (V.as (v := .p (.v (.int .i64 0))) rfl (So.q rfl rfl (V.as (v := .p (.v (.slice none 0 0))) rfl (So.q rfl rfl (V.as (v := .p (.v (.int .i64 0))) rfl (So.e (HT.seq (HT.block ?_))))))))))))))
 refine HT.seq (HT.region S_rnext_ok (So.q rfl rfl (V.ldPtrA ty26 rfl rfl rfl rfl (lk rfl) ?_)))
 refine So.n (lk rfl) (A.call0 [.agg 3 _] 3 rfl rfl rfl rfl ⟨trivial, trivial⟩ trivial (g, s, K) ⟨le_agg (fun j hj => by match j, hj with | 0, _ => rfl | 1, _ => rfl | 2, _ => rfl), trivial⟩ trivial (by omega) (Φ := fun _ => True) (fun _ _ => trivial) (.inl rfl) (v := .p (.v (.bool _))) rfl (O' := _) rfl (fun h1 => ?_))
 refine So.q rfl rfl (V.not rfl (So.q rfl rfl (V.as (v := .p (.v (.bool _))) rfl (So.e ?_))))
 show HT _ _ _ _ _
 refine R.cond rfl rfl (fun h2 => ?_) (fun h2 => ?_)
 ·have h2 := of_decide_eq_false (bnT h2)
  refine HT.seq (HT.region S_rnext_ok (So.n (lk rfl) (A.bldS ty26 rfl rfl trivial rfl (f := fun j => ([.v (.int .i64 0), .v (.slice none 0 0), .v (.slice none 0 0)] : List PV).getD j (.v undef)) (by exact allP_spec (P := fun j => _ = _) ⟨⟨⟨trivial, rfl⟩, rfl⟩, rfl⟩) (So.s (A.stoAg ty26 rfl (n := 3) rfl (by decide) (by intro j hj; (match j, hj with | 0, _ => (trivial) | 1, _ => (trivial) | 2, _ => (trivial))) rfl rfl rfl (So.q rfl rfl (V.as (v := .p (.v (.int .i64 0))) rfl (So.q rfl rfl (V.as (v := .p (.v (.slice none 0 0))) rfl (So.q rfl rfl (V.as (v := .p (.v (.int .i64 1))) rfl (So.e ?_))))))))))))
  show HT _ _ _ _ _
  refine HT.ret ?_
  have hR := nx_1 (g := g) (s := s) (K := K) (by assumption)
  exact retC_ok (sg []) [(2, .ptr 2 0), (3, .p (.v (.int .i64 (nxG g s K)))), (4, .p (.bs ((nxR g s K).b))), (5, .p (.v (.int .i64 ((nxR g s K).e))))] [(2, ⟨26, 1, 3, true, .rows (fun j => ([.v (.int .i64 ((nxR g s K).g)), .bs ((nxR g s K).s), .sl ((nxR g s K).K).length 2 (kR ((nxR g s K).K))] : List PV).getD j (.v undef))⟩)] h ⟨⟨⟨.refl _, rfl⟩, ⟨le_int (by (rw [hR.2]; done)), trivial⟩, ⟨le_nil (by (rw [hR.1]; done)), trivial⟩, ⟨le_int (by (rw [hR.1]; done)), trivial⟩, trivial⟩, ⟨⟨_, rfl, .inr (ob_rowsL (by intro j hj; match j, hj with | 0, _ => (exact le_int (by rw [hR.1]; done)) | 1, _ => (exact le_nil (by rw [hR.1]; done)) | 2, _ => (exact le_nilSl (by rw [hR.1]; rfl)))), trivial⟩, trivial⟩⟩ ⟨rvA_cell ty26 rfl rfl rfl rfl (Nat.le_refl _) (le_agg (fun j _ => by (dsimp only; rw [Nat.zero_add]))), .refl _, .refl _, .refl _, trivial⟩ trivial rfl trivial ⟨trivial, trivial, trivial, trivial, trivial⟩ rfl
 ·have h2 := of_decide_eq_true (bnF h2)
  refine HT.seq (HT.region S_rnext_ok (So.q rfl rfl (V.faPtr ty26 rfl ty2 (lk rfl) rfl rfl (lk rfl) (So.q rfl rfl (V.ldPtr ty2 rfl rfl rfl (lk rfl) (v := .p (.v (.int .i64 _))) rfl (So.q rfl rfl (V.bin (a := .v (.int .i64 _)) (b := .v (.int .i64 1073741824)) (r := .v (.bool _)) rfl rfl rfl trivial (So.q rfl rfl (V.as (v := .p (.v (.bool _))) rfl (So.e ?_))))))))))
  show HT _ _ _ _ _
  refine R.cond rfl rfl (fun h3 => ?_) (fun h3 => ?_)
  ·have h3 := of_decide_eq_true h3
   refine HT.seq (HT.region S_rnext_ok (So.n (lk rfl) (A.bldS ty26 rfl rfl trivial rfl (f := fun j => ([.v (.int .i64 0), .v (.slice none 0 0), .v (.slice none 0 0)] : List PV).getD j (.v undef)) (by exact allP_spec (P := fun j => _ = _) ⟨⟨⟨trivial, rfl⟩, rfl⟩, rfl⟩) (So.s (A.stoAg ty26 rfl (n := 3) rfl (by decide) (by intro j hj; (match j, hj with | 0, _ => (trivial) | 1, _ => (trivial) | 2, _ => (trivial))) rfl rfl rfl (So.q rfl rfl (V.as (v := .p (.v (.int .i64 0))) rfl (So.q rfl rfl (V.as (v := .p (.v (.slice none 0 0))) rfl (So.q rfl rfl (V.as (v := .p (.v (.int .i64 2))) rfl (So.e ?_))))))))))))
   show HT _ _ _ _ _
   refine HT.ret ?_
   have hR := nx_2 (g := g) (s := s) (K := K) (by assumption) (by omega)
   exact retC_ok (sg []) [(2, .ptr 2 0), (3, .p (.v (.int .i64 (nxG g s K)))), (4, .p (.bs ((nxR g s K).b))), (5, .p (.v (.int .i64 ((nxR g s K).e))))] [(2, ⟨26, 1, 3, true, .rows (fun j => ([.v (.int .i64 ((nxR g s K).g)), .bs ((nxR g s K).s), .sl ((nxR g s K).K).length 2 (kR ((nxR g s K).K))] : List PV).getD j (.v undef))⟩)] h ⟨⟨⟨.refl _, rfl⟩, ⟨le_int (by (rw [hR.2]; done)), trivial⟩, ⟨le_nil (by (rw [hR.1]; done)), trivial⟩, ⟨le_int (by (rw [hR.1]; done)), trivial⟩, trivial⟩, ⟨⟨_, rfl, .inr (ob_rowsL (by intro j hj; match j, hj with | 0, _ => (exact le_int (by rw [hR.1]; done)) | 1, _ => (exact le_nil (by rw [hR.1]; done)) | 2, _ => (exact le_nilSl (by rw [hR.1]; rfl)))), trivial⟩, trivial⟩⟩ ⟨rvA_cell ty26 rfl rfl rfl rfl (Nat.le_refl _) (le_agg (fun j _ => by (dsimp only; rw [Nat.zero_add]))), .refl _, .refl _, .refl _, trivial⟩ trivial rfl trivial ⟨trivial, trivial, trivial, trivial, trivial⟩ rfl
  ·have h3 := of_decide_eq_false h3
   refine HT.skip (HT.seq (HT.region S_rnext_ok ?_))
   have hrt : rightR g s K := by assumption
   obtain ⟨hq1, hq2, hq3, hq4, hq5⟩ := id hrt
   refine So.q rfl rfl (V.ldPtrA ty26 rfl rfl rfl rfl (lk rfl) ?_)
   refine So.n (lk rfl) (A.call0 [.agg 3 _] 3 rfl rfl rfl rfl ⟨trivial, trivial⟩ trivial (g, s, K) ⟨le_agg (fun j hj => by match j, hj with | 0, _ => rfl | 1, _ => rfl | 2, _ => rfl), trivial⟩ trivial (by omega) (Φ := fun _ => True) (fun _ _ => trivial) (.inl rfl) (v := .tup 2 _) rfl (O' := _) rfl (fun h4 => ?_))
   refine So.q rfl rfl (V.mv (v := .tup 2 _) rfl (So.q rfl rfl (V.ext rfl (lk rfl) (v := .agg 3 _) rfl (So.q rfl rfl (V.ext rfl (lk rfl) (v := .p (.bs _)) rfl (So.n (lk rfl) (A.alloc 3 1 ty26 rfl trivial (f := fun j => ([.v (.int .i64 0), .v (.slice none 0 0), .v (.slice none 0 0)] : List PV).getD j (.v undef)) (fun j hj => by match j, hj with | 0, _ => rfl | 1, _ => rfl | 2, _ => rfl) (So.s (A.stoAg ty26 rfl (n := 3) rfl (by decide) (by intro j hj; (match j, hj with | 0, _ => (trivial) | 1, _ => (trivial) | 2, _ => (trivial))) rfl rfl rfl (So.q rfl rfl (V.as (v := .p (.bs _)) rfl (So.e (HT.seq (HT.region S_rnext_ok (So.q rfl rfl (V.faPtr ty26 rfl ty24 (lk rfl) rfl rfl (lk rfl) ?_))))))))))))))))
   refine So.q rfl rfl (V.ldPtr ty24 rfl rfl rfl (lk rfl) (v := .p (.sl _ 2 _)) rfl ?_)
   refine So.n (lk rfl) (A.call0 [.p (.sl _ 2 _)] 4 rfl rfl rfl rfl ⟨trivial, trivial⟩ trivial K ⟨.refl _, trivial⟩ trivial (by omega) (Φ := fun _ => True) (fun _ _ => trivial) (.inl rfl) (v := .own 6 0 _) rfl (O' := (6, ⟨35, 2, _, true, .rows _⟩) :: _) rfl (fun h5 => ?_))
   refine So.q rfl rfl (V.faPtr ty26 rfl ty24 (lk rfl) rfl rfl (lk rfl) (So.s (A.stoF ty24 rfl rfl rfl rfl rfl rfl rfl (v := .p (.sl _ _ _)) rfl trivial rfl (lk rfl) rfl rfl (So.e (HT.seq ?_)))))
   refine HT.planS S_rnext_ok S_rnext_det mixed [1, 2, 3, 5, 6, 7] [⟨[0, 1, 2, 3], 4, [1, 2, 3]⟩] (by kernel_rfl) ?_
   refine Pl.lk ?_
   refine Si.n rfl (lk rfl) (V.ldPtrA ty26 rfl rfl rfl rfl (lk rfl) (Si.n rfl (lk rfl) (V.faPtr ty26 rfl ty2 (lk rfl) rfl rfl (lk rfl) (Si.n rfl (lk rfl) (V.ldPtr ty2 rfl rfl rfl (lk rfl) (v := .p (.v (.int .i64 _))) rfl (Si.n rfl (lk rfl) (V.mv (v := .p (.bs _)) rfl (Si.e ?_))))))))
   refine ⟨flEq_nil, fun ff => ?_⟩
   refine Lo.s rfl (A.stoAg ty26 rfl (n := 3) rfl (by decide) (by intro j hj; (match j, hj with | 0, _ => (trivial) | 1, _ => (trivial) | 2, _ => (trivial))) rfl rfl rfl ?_)
   refine ⟨_, fun ff => ff, ap0, rfl, FG.id, ?_⟩
   show planA _ _ _ _ _ [(1, .ptr 1 0), (2, .p (.v (.int .i64 _))), (3, .p (.bs _))] _ _ _
   refine Pl.e ?_
   refine Si.n rfl (lk rfl) (V.faPtr ty26 rfl ty2 (lk rfl) rfl rfl (lk rfl) (Si.n rfl (lk rfl) (V.ldPtr ty2 rfl rfl rfl (lk rfl) (v := .p (.v (.int .i64 _))) rfl (Si.n rfl (lk rfl) (V.mv (v := .p (.bs _)) rfl (Si.n rfl (lk rfl) (V.as (v := .p (.v (.int .i64 _))) rfl (Si.n rfl (lk rfl) (V.as (v := .p (.bs _)) rfl (Si.n rfl (lk rfl) (V.as (v := .p (.v (.int .i64 0))) rfl (Si.e ?_))))))))))))
   refine ⟨(flEq_cons rfl (flEq_cons rfl (flEq_cons rfl flEq_nil))), ?_⟩
   show HT _ _ _ _ _
   refine HT.ret ?_
   have hR := nx_3 (g := g) (s := s) (K := K) (by assumption) (by omega)
   exact retC_ok (sg []) [(2, .ptr 2 0), (3, .p (.v (.int .i64 (nxG g s K)))), (4, .p (.bs ((nxR g s K).b))), (5, .p (.v (.int .i64 ((nxR g s K).e))))] [(2, ⟨26, 1, 3, true, .rows (fun j => ([.v (.int .i64 ((nxR g s K).g)), .bs ((nxR g s K).s), .sl ((nxR g s K).K).length 2 (kR ((nxR g s K).K))] : List PV).getD j (.v undef))⟩)] h ⟨⟨⟨.refl _, rfl⟩, ⟨le_int (by (rw [hR.2]; done)), trivial⟩, ⟨le_bs (by (rw [hR.1]; done)), trivial⟩, ⟨le_int (by (rw [hR.1]; done)), trivial⟩, trivial⟩, ⟨⟨_, rfl, .inr (ob_rowsL (by intro j hj; match j, hj with | 0, _ => (exact le_int (by rw [hR.1]; done)) | 1, _ => (exact le_bs (by rw [hR.1]; done)) | 2, _ => (exact le_sl (by rw [hR.1]; done) (by rw [hR.1]; intro j hj; (simp only [Nat.zero_add]; done))))), trivial⟩, trivial⟩⟩ ⟨rvA_cell ty26 rfl rfl rfl rfl (Nat.le_refl _) (le_agg (fun j _ => by (dsimp only; rw [Nat.zero_add]))), .refl _, .refl _, .refl _, trivial⟩ trivial rfl trivial ⟨trivial, trivial, trivial, trivial, trivial⟩ rfl
def rinfoSp : Sp := ⟨[], mkE (α := (List UInt8) × (List UInt8) × Int) (fun (m, c, n) => [.p (.str m), .p (.bs c), .p (.v (.int .i64 n))]) (fun (m, c, n) => []) (fun (m, c, n) => True) (fun (m, c, n) => [.own 2 0 ((infoF m c n).length)]) (fun (m, c, n) => [(2, ⟨5, 1, (infoF m c n).length, true, .bs (infoF m c n)⟩)])⟩
def S_rinfo : FuncId → Option Sp := fun f => if f = 47 then some rlongSp else none
theorem S_rinfo_ok : ∀ f s, S_rinfo f = some s → FOK Tryd.prog gl f s := fun f s h => by
 unfold S_rinfo at h
 split at h
 ·rename_i e; cases h; subst e; exact rlong_ok
 cases h
set_option maxHeartbeats 1000000 in
set_option maxRecDepth 20000 in
theorem rinfo_ok : FOK Tryd.prog gl 42 rinfoSp := by
 refine FOK.ofE (tyOf_ok Tryd.prog) (slots := [6]) (nt := 40) Tryd.func42 rfl rfl rfl rfl (by decide) 3 (fun ⟨_, _, _⟩ => rfl) (by decide) (fun ⟨_, _, _⟩ => ⟨trivial, trivial, trivial, trivial⟩) ?_
 rintro ⟨m, c, n⟩ kk hlen hpre h
 have hl1 : (c).length ≤ 9223372036854775807 := hlen.2.1
 replace hpre : True := hpre
 show HT (cx Tryd.prog 40 (tyOf Tryd.prog) gl []) _ [(0, .p (.str m)), (1, .p (.bs c)), (2, .p (.v (.int .i64 n)))] [] _
 have hl1 := longF_len (lbl ++ m)
 have hl2 := longF_len c
 have hl3 : (lbl ++ m).length = 8 + m.length := by rw [List.length_append]; rfl
 refine HT.seq (HT.region S_rinfo_ok (So.q rfl rfl (V.as (v := .p (.v (.slice none 0 0))) rfl (So.e (HT.seq (HT.seq (HT.region S_rinfo_ok (So.q rfl rfl (V.mv (v := .p (.v (.int .i64 _))) rfl (So.q rfl rfl (V.bin (a := .v (.int .i64 _)) (b := .v (.int .i64 0)) (r := .v (.bool _)) rfl rfl rfl trivial (So.q rfl rfl (V.mv (v := .p (.v (.bool _))) rfl ?_)))))))))))))
 refine So.gd rfl rfl (lk rfl) (lk rfl) (fun h1 => ?_) (fun h1 => ?_)
 ·have h1 := of_decide_eq_false h1
  refine A.v rfl (V.mv (v := .p (.v (.int .i64 _))) rfl (So.gy rfl rfl (lk rfl) (lk rfl) (A.v rfl (V.bin (a := .v (.int .i64 _)) (b := .v (.int .i64 8160)) (r := .v (.bool _)) rfl rfl rfl trivial (So.q rfl rfl (V.pkFalse (u := .p (.v (.bool _))) rfl rfl (So.q rfl rfl (V.mv (v := .p (.v (.bool _))) rfl ?_))))))))
  refine So.gd rfl rfl (lk rfl) (lk rfl) (fun h2 => ?_) (fun h2 => ?_)
  ·have h2 := of_decide_eq_false h2
   refine A.v rfl (V.mv (v := .p (.str _)) rfl (So.gy rfl rfl (lk rfl) (lk rfl) (A.v rfl (V.lenStr ty9 rfl (So.gy rfl rfl (lk rfl) (lk rfl) (A.v rfl (V.bin (a := .v (.int .i64 _)) (b := .v (.int .i64 40)) (r := .v (.bool _)) rfl rfl rfl trivial (So.q rfl rfl (V.pkFalse (u := .p (.v (.bool _))) rfl rfl (So.q rfl rfl (V.mv (v := .p (.v (.bool _))) rfl ?_)))))))))))
   refine So.gd rfl rfl (lk rfl) (lk rfl) (fun h3 => ?_) (fun h3 => ?_)
   ·have h3 := of_decide_eq_false h3
    refine A.v rfl (V.mv (v := .p (.bs _)) rfl (So.gy rfl rfl (lk rfl) (lk rfl) (A.v rfl (V.len ty22 (v := .p (.bs _)) rfl rfl (So.gy rfl rfl (lk rfl) (lk rfl) (A.v rfl (V.bin (a := .v (.int .i64 _)) (b := .v (.int .i64 16000)) (r := .v (.bool _)) rfl rfl rfl trivial (So.q rfl rfl (V.pkFalse (u := .p (.v (.bool _))) rfl rfl (So.e ?_))))))))))
    show HT _ _ _ _ _
    refine R.cond rfl rfl (fun h4 => ?_) (fun h4 => ?_)
    ·have h4 := of_decide_eq_true h4
     refine HT.seq (HT.region S_rinfo_ok (So.q rfl rfl (V.as (v := .p (.v (.slice none 0 0))) rfl (So.e ?_))))
     show HT _ _ _ _ _
     refine R.phan 6 1 5 1 (.bs []) rfl rfl rfl ⟨rfl, rfl⟩ ?_
     refine HT.ret ?_
     exact ret_ok (sg [(2, 1)]) h rfl rfl rfl ⟨trivial, trivial⟩ ⟨rfl, trivial⟩ rfl ⟨⟨⟨le_own2 (by rfl) (by (show (_ : Nat) = _; (rw [infoF_no (by omega)]; rfl))), rfl⟩, trivial⟩, ⟨⟨_, rfl, .inl (ob_bs (by ((try dsimp only); ((show (_ : Nat) = _; (rw [infoF_no (by omega)]; rfl))))) (by ((try dsimp only); ((show (_ : List UInt8) = _; (rw [infoF_no (by omega)]; done)))))), trivial⟩, trivial⟩⟩
    ·have h4 := of_decide_eq_false h4
     refine HT.skip (HT.seq (HT.region S_rinfo_ok (So.q rfl rfl (V.mv (v := .p (.v (.int .i64 _))) rfl (So.q rfl rfl (V.shrI (n := 8) (M := 256) rfl rfl rfl (by decide) (So.q rfl rfl (V.cvN ty5 ty3 (a := .v (.int .i64 _)) (r := .u8 _) rfl rfl (So.q rfl rfl (V.mv (v := .p (.v (.int .i64 _))) rfl (So.q rfl rfl (V.cvN ty5 ty3 (a := .v (.int .i64 _)) (r := .u8 _) rfl rfl (So.n (lk rfl) (A.bsl 1 ty22 ty5 rfl (lk rfl) (lk rfl) (fun _ => rfl) rfl rfl trivial ⟨trivial, trivial, trivial⟩ rfl (N := 2) rfl (c := .bs [_, _]) rfl (So.q rfl rfl (V.as (v := .own 1 0 _) rfl ?_))))))))))))))))
     refine So.e (HT.seq (HT.region S_rinfo_ok (So.q rfl rfl (V.mv (v := .own 1 0 _) rfl (So.q rfl rfl (V.mv (v := .p (.str _)) rfl (So.q rfl rfl (V.bin (a := .str [71, 75, 65, 32, 49, 46, 48, 32]) (b := .str _) (r := .str _) rfl rfl rfl (by (simp [maxLen]; omega)) (So.n (lk rfl) (A.cvS 2 ty22 ty5 ty9 rfl rfl (by (simp; omega)) rfl trivial ?_))))))))))
     refine So.n (lk rfl) (A.call0 [.p (.bs _)] 3 rfl rfl rfl rfl ⟨trivial, trivial⟩ trivial (lbl ++ m) ⟨le_bs (by rw [take_full]; rfl), trivial⟩ trivial (by omega) (Φ := fun _ => True) (fun _ _ => trivial) (.inr ⟨trivial, by simp [Hp.scal, OC.scal, PV.scal, BV.scal]⟩) (v := .own 5 0 _) rfl (O' := (5, ⟨5, 1, _, true, .bs _⟩) :: _) rfl (fun h5 => ?_))
     refine So.n (lk rfl) (A.apOwn ty22 ty5 rfl rfl rfl rfl (u := .own 5 0 _) rfl rfl (l' := [UInt8.ofInt (n / 256), UInt8.ofInt n] ++ longF (lbl ++ m)) (by simp) (mn := 2 + (longF (lbl ++ m)).length) (by rfl) (by omega) rfl rfl rfl (So.q rfl rfl (V.as (v := .own 1 0 _) rfl (So.e (HT.seq (HT.region S_rinfo_ok (So.q rfl rfl (V.mv (v := .own 1 0 _) rfl (So.q rfl rfl (V.mv (v := .p (.bs _)) rfl ?_))))))))))
     refine So.n (lk rfl) (A.call0 [.p (.bs _)] 6 rfl rfl rfl rfl ⟨trivial, trivial⟩ trivial _ ⟨.refl _, trivial⟩ trivial (by omega) (Φ := fun _ => True) (fun _ _ => trivial) (.inl rfl) (v := .own 8 0 _) rfl (O' := (8, ⟨5, 1, _, true, .bs _⟩) :: _) rfl (fun h6 => ?_))
     refine So.n (lk rfl) (A.apOwn ty22 ty5 rfl rfl rfl rfl (u := .own 8 0 _) rfl rfl (l' := infoG m c n) (by rw [ap_full (by simp; omega), take_full (longF c)]; unfold infoG; rfl) (mn := 2 + (longF (lbl ++ m)).length + (longF c).length) (by rfl) (by omega) rfl rfl rfl (So.q rfl rfl (V.as (v := .own 1 0 _) rfl (So.e ?_))))
     show HT _ _ _ _ _
     refine HT.ret ?_
     exact ret_ok (sg [(2, 1)]) h rfl rfl rfl ⟨trivial, trivial⟩ ⟨rfl, trivial⟩ rfl ⟨⟨⟨le_own2 (by rfl) (by (show (_ : Nat) = _; (rw [infoF_yes (by omega)]; unfold infoG; simp; omega))), rfl⟩, trivial⟩, ⟨⟨_, rfl, .inl (ob_bs (by ((try dsimp only); ((show (_ : Nat) = _; (rw [infoF_yes (by omega)]; unfold infoG; simp; omega))))) (by ((try dsimp only); ((show (_ : List UInt8) = _; (rw [infoF_yes (by omega)]; done)))))), trivial⟩, trivial⟩⟩
   ·have h3 := of_decide_eq_true h3
    refine So.gn (b := true) rfl rfl rfl (lk rfl) (lk rfl) (So.gn (b := true) rfl rfl rfl (lk rfl) (lk rfl) (So.q rfl rfl (V.pkTrue (u := .p (.v (.bool true))) rfl rfl (So.e ?_))))
    show HT _ _ _ _ _
    refine R.condT rfl ?_
    refine HT.seq (HT.region S_rinfo_ok (So.q rfl rfl (V.as (v := .p (.v (.slice none 0 0))) rfl (So.e ?_))))
    show HT _ _ _ _ _
    refine R.phan 6 1 5 1 (.bs []) rfl rfl rfl ⟨rfl, rfl⟩ ?_
    refine HT.ret ?_
    exact ret_ok (sg [(2, 1)]) h rfl rfl rfl ⟨trivial, trivial⟩ ⟨rfl, trivial⟩ rfl ⟨⟨⟨le_own2 (by rfl) (by (show (_ : Nat) = _; (rw [infoF_no (by omega)]; rfl))), rfl⟩, trivial⟩, ⟨⟨_, rfl, .inl (ob_bs (by ((try dsimp only); ((show (_ : Nat) = _; (rw [infoF_no (by omega)]; rfl))))) (by ((try dsimp only); ((show (_ : List UInt8) = _; (rw [infoF_no (by omega)]; done)))))), trivial⟩, trivial⟩⟩
  ·have h2 := of_decide_eq_true h2
   refine So.gn (b := true) rfl rfl rfl (lk rfl) (lk rfl) (So.gn (b := true) rfl rfl rfl (lk rfl) (lk rfl) (So.q rfl rfl (V.pkTrue (u := .p (.v (.bool true))) rfl rfl (So.q rfl rfl (V.mv (v := .p (.v (.bool true))) rfl (So.gn (b := true) rfl rfl rfl (lk rfl) (lk rfl) (So.gn (b := true) rfl rfl rfl (lk rfl) (lk rfl) (So.gn (b := true) rfl rfl rfl (lk rfl) (lk rfl) (So.q rfl rfl (V.pkTrue (u := .p (.v (.bool true))) rfl rfl (So.e ?_)))))))))))
   show HT _ _ _ _ _
   refine R.condT rfl ?_
   refine HT.seq (HT.region S_rinfo_ok (So.q rfl rfl (V.as (v := .p (.v (.slice none 0 0))) rfl (So.e ?_))))
   show HT _ _ _ _ _
   refine R.phan 6 1 5 1 (.bs []) rfl rfl rfl ⟨rfl, rfl⟩ ?_
   refine HT.ret ?_
   exact ret_ok (sg [(2, 1)]) h rfl rfl rfl ⟨trivial, trivial⟩ ⟨rfl, trivial⟩ rfl ⟨⟨⟨le_own2 (by rfl) (by (show (_ : Nat) = _; (rw [infoF_no (by omega)]; rfl))), rfl⟩, trivial⟩, ⟨⟨_, rfl, .inl (ob_bs (by ((try dsimp only); ((show (_ : Nat) = _; (rw [infoF_no (by omega)]; rfl))))) (by ((try dsimp only); ((show (_ : List UInt8) = _; (rw [infoF_no (by omega)]; done)))))), trivial⟩, trivial⟩⟩
 ·have h1 := of_decide_eq_true h1
  refine So.gn (b := true) rfl rfl rfl (lk rfl) (lk rfl) (So.q rfl rfl (V.pkTrue (u := .p (.v (.bool true))) rfl rfl (So.q rfl rfl (V.mv (v := .p (.v (.bool true))) rfl (So.gn (b := true) rfl rfl rfl (lk rfl) (lk rfl) (So.gn (b := true) rfl rfl rfl (lk rfl) (lk rfl) (So.gn (b := true) rfl rfl rfl (lk rfl) (lk rfl) (So.q rfl rfl (V.pkTrue (u := .p (.v (.bool true))) rfl rfl (So.q rfl rfl (V.mv (v := .p (.v (.bool true))) rfl (So.gn (b := true) rfl rfl rfl (lk rfl) (lk rfl) (So.gn (b := true) rfl rfl rfl (lk rfl) (lk rfl) ?_)))))))))))))
  refine So.gn (b := true) rfl rfl rfl (lk rfl) (lk rfl) (So.q rfl rfl (V.pkTrue (u := .p (.v (.bool true))) rfl rfl (So.e ?_)))
  show HT _ _ _ _ _
  refine R.condT rfl ?_
  refine HT.seq (HT.region S_rinfo_ok (So.q rfl rfl (V.as (v := .p (.v (.slice none 0 0))) rfl (So.e ?_))))
  show HT _ _ _ _ _
  refine R.phan 6 1 5 1 (.bs []) rfl rfl rfl ⟨rfl, rfl⟩ ?_
  refine HT.ret ?_
  exact ret_ok (sg [(2, 1)]) h rfl rfl rfl ⟨trivial, trivial⟩ ⟨rfl, trivial⟩ rfl ⟨⟨⟨le_own2 (by rfl) (by (show (_ : Nat) = _; (rw [infoF_no (by omega)]; rfl))), rfl⟩, trivial⟩, ⟨⟨_, rfl, .inl (ob_bs (by ((try dsimp only); ((show (_ : Nat) = _; (rw [infoF_no (by omega)]; rfl))))) (by ((try dsimp only); ((show (_ : List UInt8) = _; (rw [infoF_no (by omega)]; done)))))), trivial⟩, trivial⟩⟩
end Go.Vh
