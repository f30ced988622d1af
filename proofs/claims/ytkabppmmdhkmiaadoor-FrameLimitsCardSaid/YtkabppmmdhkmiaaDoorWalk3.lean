/- What is proved: each function of the seat's program does what its contract says, wherever it is called; no condition. -/
import Derived.Test.YtkabppmmdhkmiaaDoorWalk0
import Derived.Test.YtkabppmmdhkmiaaDoorWalk1
import Derived.Test.YtkabppmmdhkmiaaDoorWalk2
set_option linter.unusedVariables false
set_option linter.unusedSimpArgs false
set_option linter.unusedVariables false
set_option linter.unusedSimpArgs false
namespace Go.Vh
open Go Go.Vc Go.Proofs Go.Vw
def lawLimitsSp : Sp := ⟨[], mkE (α := (List UInt8) × Int × Int × Int × (List UInt8) × (List UInt8) × (List UInt8) × (List UInt8)) (fun (g, ep, fr, kd, bd, sn, cf, mb) => [.agg 8 (fun j => ([.bs g, .v (.int .i64 ep), .v (.int .i64 fr), .v (.int .i64 kd), .bs bd, .bs sn, .bs cf, .bs mb] : List PV).getD j (.v undef))]) (fun (g, ep, fr, kd, bd, sn, cf, mb) => []) (fun (g, ep, fr, kd, bd, sn, cf, mb) => True) (fun (g, ep, fr, kd, bd, sn, cf, mb) => [.p (.v (.bool true))]) (fun (g, ep, fr, kd, bd, sn, cf, mb) => [])⟩
def S_lawLimits : FuncId → Option Sp := fun f => if f = 8 then some headSp else if f = 9 then some greatSp else if f = 10 then some fputSp else if f = 11 then some rmsgSp else if f = 12 then some frightSp else none
theorem S_lawLimits_ok : ∀ f s, S_lawLimits f = some s → FOK Tryd.prog gl f s := fun f s h => by
  unfold S_lawLimits at h
  split at h
  · rename_i e; cases h; subst e; exact head_ok
  split at h
  · rename_i e; cases h; subst e; exact great_ok
  split at h
  · rename_i e; cases h; subst e; exact fput_ok
  split at h
  · rename_i e; cases h; subst e; exact rmsg_ok
  split at h
  · rename_i e; cases h; subst e; exact fright_ok
  cases h
set_option maxHeartbeats 1000000 in
set_option maxRecDepth 20000 in
theorem lawLimits_ok : FOK Tryd.prog gl 3 lawLimitsSp := by
  refine FOK.ofE (tyOf_ok Tryd.prog) (slots := [2]) (nt := 136) Tryd.func3 rfl rfl rfl rfl (by decide) 1 (fun ⟨_, _, _, _, _, _, _, _⟩ => rfl) (by decide) (fun ⟨_, _, _, _, _, _, _, _⟩ => ⟨trivial, trivial⟩) ?_
  rintro ⟨g, ep, fr, kd, bd, sn, cf, mb⟩ kk hlen hpre h
  replace hpre : True := hpre
  show HT (cx Tryd.prog 136 (tyOf Tryd.prog) gl []) _ [(0, .agg 8 (fun j => ([.bs g, .v (.int .i64 ep), .v (.int .i64 fr), .v (.int .i64 kd), .bs bd, .bs sn, .bs cf, .bs mb] : List PV).getD j (.v undef)))] [] _
  obtain ⟨N33, hN33⟩ : ∃ N : Nat, N = 33 := ⟨33, rfl⟩
  obtain ⟨N31, hN31⟩ : ∃ N : Nat, N = 31 := ⟨31, rfl⟩
  obtain ⟨Nbig, hNbig⟩ : ∃ N : Nat, N = 30001 := ⟨30001, rfl⟩
  refine HT.seq ?_
  refine HT.region S_lawLimits_ok ?_
  refine So.n (Nat.le_of_ble_eq_true rfl) (A.boxAg 1 1 (n := 8) rfl (by intro j hj; first | rfl | trivial | (match j, hj with | 0, _ => (first | trivial | rfl) | 1, _ => (first | trivial | rfl) | 2, _ => (first | trivial | rfl) | 3, _ => (first | trivial | rfl) | 4, _ => (first | trivial | rfl) | 5, _ => (first | trivial | rfl) | 6, _ => (first | trivial | rfl) | 7, _ => (first | trivial | rfl)) | (split <;> first | rfl | trivial | (split <;> first | rfl | trivial))) rfl trivial ?_)
  refine So.n (Nat.le_of_ble_eq_true rfl) (A.v rfl (V.as (v := .p (.v (.bool false))) rfl ?_))
  refine So.e ?_
  show HT _ _ _ _ _
  refine HT.seq ?_
  refine HT.region S_lawLimits_ok ?_
  refine So.n (Nat.le_of_ble_eq_true rfl) (A.call0 [] 2 rfl rfl rfl rfl trivial trivial () trivial trivial (by trivial) (Φ := fun _ => True) (fun _ _ => trivial) (.inl rfl) (v := .p (.v (.bool true))) rfl (O' := _) rfl (fun h1 => ?_))
  refine So.n (Nat.le_of_ble_eq_true rfl) (A.v rfl (V.as (v := .p (.v (.bool true))) rfl ?_))
  refine So.e ?_
  show HT _ _ _ _ _
  refine HT.seq ?_
  refine HT.seq ?_
  refine HT.region S_lawLimits_ok ?_
  refine So.n (Nat.le_of_ble_eq_true rfl) (A.v rfl (V.faPtr ty26 rfl ty24 (Nat.le_of_ble_eq_true rfl) rfl rfl (by first | exact Nat.le_of_ble_eq_true rfl | first | rfl | omega | (simp; done) | (simp; omega)) ?_))
  refine So.n (Nat.le_of_ble_eq_true rfl) (A.v rfl (V.faPtr ty24 rfl ty22 (Nat.le_of_ble_eq_true rfl) rfl rfl (by first | exact Nat.le_of_ble_eq_true rfl | first | rfl | omega | (simp; done) | (simp; omega)) ?_))
  refine So.n (Nat.le_of_ble_eq_true rfl) (A.v rfl (V.ldPtr ty22 rfl rfl rfl (by first | exact Nat.le_of_ble_eq_true rfl | (first | rfl | omega | (simp; done) | (simp; omega))) (v := .p (.bs _)) rfl ?_))
  refine So.n (Nat.le_of_ble_eq_true rfl) (A.v rfl (V.faPtr ty26 rfl ty24 (Nat.le_of_ble_eq_true rfl) rfl rfl (by first | exact Nat.le_of_ble_eq_true rfl | first | rfl | omega | (simp; done) | (simp; omega)) ?_))
  refine So.n (Nat.le_of_ble_eq_true rfl) (A.v rfl (V.faPtr ty24 rfl ty22 (Nat.le_of_ble_eq_true rfl) rfl rfl (by first | exact Nat.le_of_ble_eq_true rfl | first | rfl | omega | (simp; done) | (simp; omega)) ?_))
  refine So.n (Nat.le_of_ble_eq_true rfl) (A.v rfl (V.ldPtr ty22 rfl rfl rfl (by first | exact Nat.le_of_ble_eq_true rfl | (first | rfl | omega | (simp; done) | (simp; omega))) (v := .p (.bs _)) rfl ?_))
  refine So.n (Nat.le_of_ble_eq_true rfl) (A.v rfl (V.faPtr ty26 rfl ty22 (Nat.le_of_ble_eq_true rfl) rfl rfl (by first | exact Nat.le_of_ble_eq_true rfl | first | rfl | omega | (simp; done) | (simp; omega)) ?_))
  refine So.n (Nat.le_of_ble_eq_true rfl) (A.v rfl (V.ldPtr ty22 rfl rfl rfl (by first | exact Nat.le_of_ble_eq_true rfl | (first | rfl | omega | (simp; done) | (simp; omega))) (v := .p (.bs _)) rfl ?_))
  refine So.n (Nat.le_of_ble_eq_true rfl) (A.v rfl (V.faPtr ty26 rfl ty22 (Nat.le_of_ble_eq_true rfl) rfl rfl (by first | exact Nat.le_of_ble_eq_true rfl | first | rfl | omega | (simp; done) | (simp; omega)) ?_))
  refine So.n (Nat.le_of_ble_eq_true rfl) (A.v rfl (V.ldPtr ty22 rfl rfl rfl (by first | exact Nat.le_of_ble_eq_true rfl | (first | rfl | omega | (simp; done) | (simp; omega))) (v := .p (.bs _)) rfl ?_))
  refine So.n (Nat.le_of_ble_eq_true rfl) (A.v rfl (V.faPtr ty26 rfl ty22 (Nat.le_of_ble_eq_true rfl) rfl rfl (by first | exact Nat.le_of_ble_eq_true rfl | first | rfl | omega | (simp; done) | (simp; omega)) ?_))
  refine So.n (Nat.le_of_ble_eq_true rfl) (A.v rfl (V.ldPtr ty22 rfl rfl rfl (by first | exact Nat.le_of_ble_eq_true rfl | (first | rfl | omega | (simp; done) | (simp; omega))) (v := .p (.bs _)) rfl ?_))
  refine So.n (Nat.le_of_ble_eq_true rfl) (A.bsl 2 ty51 ty22 rfl (Nat.le_of_ble_eq_true rfl) (Nat.le_of_ble_eq_true rfl) (fun _ => rfl) rfl rfl trivial ⟨trivial, trivial, trivial, trivial, trivial, trivial⟩ rfl (N := 5) rfl (c := .rows _) rfl ?_)
  refine So.n (Nat.le_of_ble_eq_true rfl) (A.call0 [.p (.sl _ _ _)] 3 rfl rfl rfl rfl ⟨trivial, trivial⟩ trivial [g, bd, sn, cf, mb] ⟨le_sl rfl (by intro j hj; match j, hj with | 0, _ => rfl | 1, _ => rfl | 2, _ => rfl | 3, _ => rfl | 4, _ => rfl), trivial⟩ trivial (by trivial) (Φ := fun _ => True) (fun _ _ => trivial) (.inr ⟨trivial, by simp [Hp.scal, OC.scal, PV.scal, BV.scal]⟩) (v := .p (.v (.bool _))) rfl (O' := _) rfl (fun h2 => ?_))
  refine So.e ?_
  show HT _ _ _ _ _
  refine R.cond rfl rfl (fun h3 => ?_) (fun h3 => ?_)
  · have h3 := great_t h3
    refine HT.seq ?_
    refine HT.region S_lawLimits_ok ?_
    refine So.n (Nat.le_of_ble_eq_true rfl) (A.v rfl (V.mv (v := .p (.v (.bool true))) rfl ?_))
    refine So.n (Nat.le_of_ble_eq_true rfl) (A.v rfl (V.as (v := .p (.v (.bool true))) rfl ?_))
    refine So.e ?_
    show HT _ _ _ _ _
    refine HT.ret ?_
    exact ret_ok (sg []) h rfl rfl rfl trivial ⟨trivial, trivial⟩ rfl ⟨⟨⟨le_bool (by first | rfl | exact decide_eq_true hno.1 | exact decide_eq_true (by first | exact hm | exact hm.1 | exact no_g | exact no_G (by rw [List.drop_zero, List.length_take, List.length_replicate]; omega) | exact no_e | exact no_f | exact no_k | exact no_b (by rw [List.drop_zero, List.length_take, List.length_replicate]; omega) | exact no_s (by rw [List.length_drop]; omega) | exact no_m (by rw [List.drop_zero, List.length_take, List.length_replicate]; omega))), trivial⟩, trivial⟩, trivial⟩
  · have h3 := great_f h3
    refine HT.skip ?_
    show HT _ _ _ _ _
    refine HT.seq ?_
    refine HT.region S_lawLimits_ok ?_
    refine So.n (Nat.le_of_ble_eq_true rfl) (A.v rfl (V.ldPtrA ty26 rfl rfl rfl rfl (by first | exact Nat.le_of_ble_eq_true rfl | (first | rfl | omega | (simp; done) | (simp; omega))) ?_))
    refine So.n (Nat.le_of_ble_eq_true rfl) (A.call0 [.agg 8 _] 3 rfl rfl rfl rfl ⟨trivial, trivial⟩ trivial (g, ep, fr, kd, bd, sn, cf, mb) ⟨le_agg (fun j hj => by match j, hj with | 0, _ => rfl | 1, _ => rfl | 2, _ => rfl | 3, _ => rfl | 4, _ => rfl | 5, _ => rfl | 6, _ => rfl | 7, _ => rfl), trivial⟩ trivial (by trivial) (Φ := fun _ => True) (fun _ _ => trivial) (.inl rfl) (v := .tup 2 _) rfl (O' := (5, ⟨5, 1, _, true, .bs _⟩) :: _) rfl (fun h4 => ?_))
    refine So.n (Nat.le_of_ble_eq_true rfl) (A.v rfl (V.mv (v := .tup 2 _) rfl ?_))
    refine So.n (Nat.le_of_ble_eq_true rfl) (A.v rfl (V.ext rfl (Nat.le_of_ble_eq_true rfl) (v := .own 5 0 _) rfl ?_))
    refine So.n (Nat.le_of_ble_eq_true rfl) (A.v rfl (V.ext rfl (Nat.le_of_ble_eq_true rfl) (v := .p (.v (.int .i64 _))) rfl ?_))
    refine So.n (Nat.le_of_ble_eq_true rfl) (A.v rfl (V.as (v := .own 5 0 _) rfl ?_))
    refine So.n (Nat.le_of_ble_eq_true rfl) (A.v rfl (V.as (v := .p (.v (.int .i64 _))) rfl ?_))
    refine So.e ?_
    show HT _ _ _ _ _
    refine HT.seq ?_
    refine HT.seq ?_
    refine HT.region S_lawLimits_ok ?_
    refine So.n (Nat.le_of_ble_eq_true rfl) (A.v rfl (V.mv (v := .p (.v (.int .i64 _))) rfl ?_))
    refine So.n (Nat.le_of_ble_eq_true rfl) (A.v rfl (V.bin (a := (.v (.int .i64 _))) (b := (.v (.int .i64 (0)))) (r := .v (.bool _)) rfl rfl rfl trivial ?_))
    refine So.e ?_
    show HT _ _ _ _ _
    refine R.cond rfl rfl (fun h5 => ?_) (fun h5 => ?_)
    · have h5 := of_decide_eq_false (bnT h5)
      refine HT.seq ?_
      refine HT.region S_lawLimits_ok ?_
      have hno := put_bad (by assumption)
      refine So.n (Nat.le_of_ble_eq_true rfl) (A.v rfl (V.mv (v := .p (.v (.bool true))) rfl ?_))
      refine So.n (Nat.le_of_ble_eq_true rfl) (A.v rfl (V.mv (v := .p (.v (.bool true))) rfl ?_))
      refine So.gy rfl rfl (Nat.le_of_ble_eq_true rfl) (Nat.le_of_ble_eq_true rfl) ?_
      refine A.v rfl (V.mv (v := .own 5 0 _) rfl ?_)
      refine So.gy rfl rfl (Nat.le_of_ble_eq_true rfl) (Nat.le_of_ble_eq_true rfl) ?_
      refine A.v rfl (V.len ty22 (v := .own 5 0 _) rfl rfl ?_)
      refine So.gy rfl rfl (Nat.le_of_ble_eq_true rfl) (Nat.le_of_ble_eq_true rfl) ?_
      refine A.v rfl (V.bin (a := (.v (.int .i64 _))) (b := (.v (.int .i64 (0)))) (r := .v (.bool _)) rfl rfl rfl trivial ?_)
      refine So.n (Nat.le_of_ble_eq_true rfl) (A.v rfl (V.pkTrue (u := .p (.v (.bool _))) rfl rfl ?_))
      refine So.n (Nat.le_of_ble_eq_true rfl) (A.v rfl (V.mv (v := .p (.v (.bool _))) rfl ?_))
      refine So.gd rfl rfl (Nat.le_of_ble_eq_true rfl) (Nat.le_of_ble_eq_true rfl) (fun h6 => ?_) (fun h6 => ?_)
      · have h6 := of_decide_eq_true h6
        refine A.v rfl (V.mv (v := .p (.v (.int .i64 _))) rfl ?_)
        refine So.gy rfl rfl (Nat.le_of_ble_eq_true rfl) (Nat.le_of_ble_eq_true rfl) ?_
        refine A.v rfl (V.bin (a := (.v (.int .i64 _))) (b := (.v (.int .i64 (181)))) (r := .v (.bool _)) rfl rfl rfl trivial ?_)
        refine So.n (Nat.le_of_ble_eq_true rfl) (A.v rfl (V.pkTrue (u := .p (.v (.bool _))) rfl rfl ?_))
        refine So.n (Nat.le_of_ble_eq_true rfl) (A.v rfl (V.as (v := .p (.v (.bool _))) rfl ?_))
        refine So.e ?_
        show HT _ _ _ _ _
        refine HT.ret ?_
        exact ret_ok (sg []) h rfl rfl rfl trivial ⟨trivial, trivial⟩ rfl ⟨⟨⟨le_bool (by first | rfl | exact decide_eq_true hno.1 | exact decide_eq_true (by first | exact hm | exact hm.1 | exact no_g | exact no_G (by rw [List.drop_zero, List.length_take, List.length_replicate]; omega) | exact no_e | exact no_f | exact no_k | exact no_b (by rw [List.drop_zero, List.length_take, List.length_replicate]; omega) | exact no_s (by rw [List.length_drop]; omega) | exact no_m (by rw [List.drop_zero, List.length_take, List.length_replicate]; omega))), trivial⟩, trivial⟩, trivial⟩
      · have h6 := of_decide_eq_false h6
        first | exact absurd (by first | (rw [hno.2]; rfl) | exact hno.1) h6 | exact absurd h6 (by first | (rw [hno.2]; rfl) | exact hno.1)
    · have h5 := of_decide_eq_true (bnF h5)
      refine HT.skip ?_
      show HT _ _ _ _ _
      refine HT.seq ?_
      refine HT.seq ?_
      refine HT.region S_lawLimits_ok ?_
      have hm := put_good (by assumption)
      have hsn := hm.2.1
      refine So.n (Nat.le_of_ble_eq_true rfl) (A.v rfl (V.ldPtrA ty26 rfl rfl rfl rfl (by first | exact Nat.le_of_ble_eq_true rfl | (first | rfl | omega | (simp; done) | (simp; omega))) ?_))
      refine So.n (Nat.le_of_ble_eq_true rfl) (A.call0 [.agg 8 _] 6 rfl rfl rfl rfl ⟨trivial, trivial⟩ trivial (g, ep, fr, kd, bd, sn, cf, mb) ⟨le_agg (fun j hj => by match j, hj with | 0, _ => rfl | 1, _ => rfl | 2, _ => rfl | 3, _ => rfl | 4, _ => rfl | 5, _ => rfl | 6, _ => rfl | 7, _ => rfl), trivial⟩ trivial (by trivial) (Φ := fun _ => True) (fun _ _ => trivial) (.inl rfl) (v := .p (.v (.bool _))) rfl (O' := _) rfl (fun h7 => ?_))
      refine So.n (Nat.le_of_ble_eq_true rfl) (A.v rfl (V.not rfl ?_))
      refine So.e ?_
      show HT _ _ _ _ _
      refine R.cond rfl rfl (fun h8 => ?_) (fun h8 => ?_)
      · have h8 := of_decide_eq_false (bnT h8)
        exact absurd hm h8
      · have h8 := of_decide_eq_true (bnF h8)
        refine HT.skip ?_
        show HT _ _ _ _ _
        refine HT.seq ?_
        refine HT.region S_lawLimits_ok ?_
        refine So.n (Nat.le_of_ble_eq_true rfl) (A.v rfl (V.faPtr ty26 rfl ty24 (Nat.le_of_ble_eq_true rfl) rfl rfl (by first | exact Nat.le_of_ble_eq_true rfl | first | rfl | omega | (simp; done) | (simp; omega)) ?_))
        refine So.n (Nat.le_of_ble_eq_true rfl) (A.v rfl (V.ldPtrA ty24 rfl rfl rfl rfl (by first | exact Nat.le_of_ble_eq_true rfl | (first | rfl | omega | (simp; done) | (simp; omega))) ?_))
        refine So.n (Nat.le_of_ble_eq_true rfl) (A.alloc 6 1 ty24 rfl trivial (f := fun j => ([.v (.slice none 0 0), .v (.int .i64 0), .v (.int .i64 0), .v (.int .i64 0), .v (.slice none 0 0)] : List PV).getD j (.v undef)) (fun j hj => by match j, hj with | 0, _ => rfl | 1, _ => rfl | 2, _ => rfl | 3, _ => rfl | 4, _ => rfl) ?_)
        refine So.s (A.stoAg ty24 rfl (n := 5) rfl (by decide) (by intro j hj; first | rfl | trivial | (match j, hj with | 0, _ => (first | trivial | rfl) | 1, _ => (first | trivial | rfl) | 2, _ => (first | trivial | rfl) | 3, _ => (first | trivial | rfl) | 4, _ => (first | trivial | rfl))) rfl rfl rfl ?_)
        refine So.e ?_
        show HT _ _ _ _ _
        refine HT.seq ?_
        refine HT.region S_lawLimits_ok ?_
        refine So.n (Nat.le_of_ble_eq_true rfl) (A.v rfl (V.faPtr ty24 rfl ty22 (Nat.le_of_ble_eq_true rfl) rfl rfl (by first | exact Nat.le_of_ble_eq_true rfl | first | rfl | omega | (simp; done) | (simp; omega)) ?_))
        refine So.s (A.sto ty22 rfl rfl rfl (v := .p (.v (.slice none 0 0))) rfl rfl rfl (by first | exact Nat.le_of_ble_eq_true rfl | (first | rfl | omega | (simp; done) | (simp; omega))) rfl rfl ?_)
        refine So.e ?_
        show HT _ _ _ _ _
        refine HT.seq ?_
        refine HT.region S_lawLimits_ok ?_
        refine So.n (Nat.le_of_ble_eq_true rfl) (A.v rfl (V.faPtr ty26 rfl ty24 (Nat.le_of_ble_eq_true rfl) rfl rfl (by first | exact Nat.le_of_ble_eq_true rfl | first | rfl | omega | (simp; done) | (simp; omega)) ?_))
        refine So.n (Nat.le_of_ble_eq_true rfl) (A.v rfl (V.ldPtrA ty24 rfl rfl rfl rfl (by first | exact Nat.le_of_ble_eq_true rfl | (first | rfl | omega | (simp; done) | (simp; omega))) ?_))
        refine So.n (Nat.le_of_ble_eq_true rfl) (A.alloc 7 1 ty24 rfl trivial (f := fun j => ([.v (.slice none 0 0), .v (.int .i64 0), .v (.int .i64 0), .v (.int .i64 0), .v (.slice none 0 0)] : List PV).getD j (.v undef)) (fun j hj => by match j, hj with | 0, _ => rfl | 1, _ => rfl | 2, _ => rfl | 3, _ => rfl | 4, _ => rfl) ?_)
        refine So.s (A.stoAg ty24 rfl (n := 5) rfl (by decide) (by intro j hj; first | rfl | trivial | (match j, hj with | 0, _ => (first | trivial | rfl) | 1, _ => (first | trivial | rfl) | 2, _ => (first | trivial | rfl) | 3, _ => (first | trivial | rfl) | 4, _ => (first | trivial | rfl))) rfl rfl rfl ?_)
        refine So.e ?_
        show HT _ _ _ _ _
        refine HT.seq ?_
        refine HT.region S_lawLimits_ok ?_
        refine So.n (Nat.le_of_ble_eq_true rfl) (A.mkB 8 ty22 ty5 rfl rfl rfl (by omega) (n := N33) (by omega) rfl trivial ?_)
        refine So.n (Nat.le_of_ble_eq_true rfl) (A.v rfl (V.faPtr ty24 rfl ty22 (Nat.le_of_ble_eq_true rfl) rfl rfl (by first | exact Nat.le_of_ble_eq_true rfl | first | rfl | omega | (simp; done) | (simp; omega)) ?_))
        refine So.s (A.stoF ty22 rfl rfl rfl rfl rfl rfl rfl (v := .p (.bs _)) rfl trivial rfl (by first | exact Nat.le_of_ble_eq_true rfl | (first | rfl | omega | (simp; done) | (simp; omega))) rfl rfl ?_)
        refine So.e ?_
        show HT _ _ _ _ _
        refine HT.seq ?_
        refine HT.region S_lawLimits_ok ?_
        refine So.n (Nat.le_of_ble_eq_true rfl) (A.v rfl (V.faPtr ty26 rfl ty24 (Nat.le_of_ble_eq_true rfl) rfl rfl (by first | exact Nat.le_of_ble_eq_true rfl | first | rfl | omega | (simp; done) | (simp; omega)) ?_))
        refine So.n (Nat.le_of_ble_eq_true rfl) (A.v rfl (V.ldPtrA ty24 rfl rfl rfl rfl (by first | exact Nat.le_of_ble_eq_true rfl | (first | rfl | omega | (simp; done) | (simp; omega))) ?_))
        refine So.n (Nat.le_of_ble_eq_true rfl) (A.alloc 8 1 ty24 rfl trivial (f := fun j => ([.v (.slice none 0 0), .v (.int .i64 0), .v (.int .i64 0), .v (.int .i64 0), .v (.slice none 0 0)] : List PV).getD j (.v undef)) (fun j hj => by match j, hj with | 0, _ => rfl | 1, _ => rfl | 2, _ => rfl | 3, _ => rfl | 4, _ => rfl) ?_)
        refine So.s (A.stoAg ty24 rfl (n := 5) rfl (by decide) (by intro j hj; first | rfl | trivial | (match j, hj with | 0, _ => (first | trivial | rfl) | 1, _ => (first | trivial | rfl) | 2, _ => (first | trivial | rfl) | 3, _ => (first | trivial | rfl) | 4, _ => (first | trivial | rfl))) rfl rfl rfl ?_)
        refine So.e ?_
        show HT _ _ _ _ _
        refine HT.seq ?_
        refine HT.region S_lawLimits_ok ?_
        refine So.n (Nat.le_of_ble_eq_true rfl) (A.v rfl (V.faPtr ty24 rfl ty2 (Nat.le_of_ble_eq_true rfl) rfl rfl (by first | exact Nat.le_of_ble_eq_true rfl | first | rfl | omega | (simp; done) | (simp; omega)) ?_))
        refine So.s (A.sto ty2 rfl rfl rfl (v := .p (.v (.int .i64 _))) rfl rfl rfl (by first | exact Nat.le_of_ble_eq_true rfl | (first | rfl | omega | (simp; done) | (simp; omega))) rfl rfl ?_)
        refine So.e ?_
        show HT _ _ _ _ _
        refine HT.seq ?_
        refine HT.region S_lawLimits_ok ?_
        refine So.n (Nat.le_of_ble_eq_true rfl) (A.v rfl (V.faPtr ty26 rfl ty24 (Nat.le_of_ble_eq_true rfl) rfl rfl (by first | exact Nat.le_of_ble_eq_true rfl | first | rfl | omega | (simp; done) | (simp; omega)) ?_))
        refine So.n (Nat.le_of_ble_eq_true rfl) (A.v rfl (V.ldPtrA ty24 rfl rfl rfl rfl (by first | exact Nat.le_of_ble_eq_true rfl | (first | rfl | omega | (simp; done) | (simp; omega))) ?_))
        refine So.n (Nat.le_of_ble_eq_true rfl) (A.alloc 9 1 ty24 rfl trivial (f := fun j => ([.v (.slice none 0 0), .v (.int .i64 0), .v (.int .i64 0), .v (.int .i64 0), .v (.slice none 0 0)] : List PV).getD j (.v undef)) (fun j hj => by match j, hj with | 0, _ => rfl | 1, _ => rfl | 2, _ => rfl | 3, _ => rfl | 4, _ => rfl) ?_)
        refine So.s (A.stoAg ty24 rfl (n := 5) rfl (by decide) (by intro j hj; first | rfl | trivial | (match j, hj with | 0, _ => (first | trivial | rfl) | 1, _ => (first | trivial | rfl) | 2, _ => (first | trivial | rfl) | 3, _ => (first | trivial | rfl) | 4, _ => (first | trivial | rfl))) rfl rfl rfl ?_)
        refine So.e ?_
        show HT _ _ _ _ _
        refine HT.seq ?_
        refine HT.region S_lawLimits_ok ?_
        refine So.n (Nat.le_of_ble_eq_true rfl) (A.v rfl (V.faPtr ty24 rfl ty3 (Nat.le_of_ble_eq_true rfl) rfl rfl (by first | exact Nat.le_of_ble_eq_true rfl | first | rfl | omega | (simp; done) | (simp; omega)) ?_))
        refine So.s (A.sto ty3 rfl rfl rfl (v := .p (.v (.int .i64 _))) rfl rfl rfl (by first | exact Nat.le_of_ble_eq_true rfl | (first | rfl | omega | (simp; done) | (simp; omega))) rfl rfl ?_)
        refine So.e ?_
        show HT _ _ _ _ _
        refine HT.seq ?_
        refine HT.region S_lawLimits_ok ?_
        refine So.n (Nat.le_of_ble_eq_true rfl) (A.v rfl (V.faPtr ty26 rfl ty24 (Nat.le_of_ble_eq_true rfl) rfl rfl (by first | exact Nat.le_of_ble_eq_true rfl | first | rfl | omega | (simp; done) | (simp; omega)) ?_))
        refine So.n (Nat.le_of_ble_eq_true rfl) (A.v rfl (V.ldPtrA ty24 rfl rfl rfl rfl (by first | exact Nat.le_of_ble_eq_true rfl | (first | rfl | omega | (simp; done) | (simp; omega))) ?_))
        refine So.n (Nat.le_of_ble_eq_true rfl) (A.alloc 10 1 ty24 rfl trivial (f := fun j => ([.v (.slice none 0 0), .v (.int .i64 0), .v (.int .i64 0), .v (.int .i64 0), .v (.slice none 0 0)] : List PV).getD j (.v undef)) (fun j hj => by match j, hj with | 0, _ => rfl | 1, _ => rfl | 2, _ => rfl | 3, _ => rfl | 4, _ => rfl) ?_)
        refine So.s (A.stoAg ty24 rfl (n := 5) rfl (by decide) (by intro j hj; first | rfl | trivial | (match j, hj with | 0, _ => (first | trivial | rfl) | 1, _ => (first | trivial | rfl) | 2, _ => (first | trivial | rfl) | 3, _ => (first | trivial | rfl) | 4, _ => (first | trivial | rfl))) rfl rfl rfl ?_)
        refine So.e ?_
        show HT _ _ _ _ _
        refine HT.seq ?_
        refine HT.region S_lawLimits_ok ?_
        refine So.n (Nat.le_of_ble_eq_true rfl) (A.v rfl (V.faPtr ty24 rfl ty3 (Nat.le_of_ble_eq_true rfl) rfl rfl (by first | exact Nat.le_of_ble_eq_true rfl | first | rfl | omega | (simp; done) | (simp; omega)) ?_))
        refine So.s (A.sto ty3 rfl rfl rfl (v := .p (.v (.int .i64 _))) rfl rfl rfl (by first | exact Nat.le_of_ble_eq_true rfl | (first | rfl | omega | (simp; done) | (simp; omega))) rfl rfl ?_)
        refine So.e ?_
        show HT _ _ _ _ _
        refine HT.seq ?_
        refine HT.region S_lawLimits_ok ?_
        refine So.n (Nat.le_of_ble_eq_true rfl) (A.v rfl (V.faPtr ty26 rfl ty24 (Nat.le_of_ble_eq_true rfl) rfl rfl (by first | exact Nat.le_of_ble_eq_true rfl | first | rfl | omega | (simp; done) | (simp; omega)) ?_))
        refine So.n (Nat.le_of_ble_eq_true rfl) (A.v rfl (V.ldPtrA ty24 rfl rfl rfl rfl (by first | exact Nat.le_of_ble_eq_true rfl | (first | rfl | omega | (simp; done) | (simp; omega))) ?_))
        refine So.n (Nat.le_of_ble_eq_true rfl) (A.alloc 11 1 ty24 rfl trivial (f := fun j => ([.v (.slice none 0 0), .v (.int .i64 0), .v (.int .i64 0), .v (.int .i64 0), .v (.slice none 0 0)] : List PV).getD j (.v undef)) (fun j hj => by match j, hj with | 0, _ => rfl | 1, _ => rfl | 2, _ => rfl | 3, _ => rfl | 4, _ => rfl) ?_)
        refine So.s (A.stoAg ty24 rfl (n := 5) rfl (by decide) (by intro j hj; first | rfl | trivial | (match j, hj with | 0, _ => (first | trivial | rfl) | 1, _ => (first | trivial | rfl) | 2, _ => (first | trivial | rfl) | 3, _ => (first | trivial | rfl) | 4, _ => (first | trivial | rfl))) rfl rfl rfl ?_)
        refine So.e ?_
        show HT _ _ _ _ _
        refine HT.seq ?_
        refine HT.region S_lawLimits_ok ?_
        refine So.n (Nat.le_of_ble_eq_true rfl) (A.mkB 12 ty22 ty5 rfl rfl rfl (by omega) (n := Nbig) (by omega) rfl trivial ?_)
        refine So.n (Nat.le_of_ble_eq_true rfl) (A.v rfl (V.faPtr ty24 rfl ty22 (Nat.le_of_ble_eq_true rfl) rfl rfl (by first | exact Nat.le_of_ble_eq_true rfl | first | rfl | omega | (simp; done) | (simp; omega)) ?_))
        refine So.s (A.stoF ty22 rfl rfl rfl rfl rfl rfl rfl (v := .p (.bs _)) rfl trivial rfl (by first | exact Nat.le_of_ble_eq_true rfl | (first | rfl | omega | (simp; done) | (simp; omega))) rfl rfl ?_)
        refine So.e ?_
        show HT _ _ _ _ _
        refine HT.seq ?_
        refine HT.region S_lawLimits_ok ?_
        refine So.n (Nat.le_of_ble_eq_true rfl) (A.v rfl (V.ldPtrA ty26 rfl rfl rfl rfl (by first | exact Nat.le_of_ble_eq_true rfl | (first | rfl | omega | (simp; done) | (simp; omega))) ?_))
        refine So.n (Nat.le_of_ble_eq_true rfl) (A.alloc 12 1 ty26 rfl trivial (f := fun j => ([.v (.slice none 0 0), .v (.int .i64 0), .v (.int .i64 0), .v (.int .i64 0), .v (.slice none 0 0), .v (.slice none 0 0), .v (.slice none 0 0), .v (.slice none 0 0)] : List PV).getD j (.v undef)) (fun j hj => by match j, hj with | 0, _ => rfl | 1, _ => rfl | 2, _ => rfl | 3, _ => rfl | 4, _ => rfl | 5, _ => rfl | 6, _ => rfl | 7, _ => rfl) ?_)
        refine So.s (A.stoAg ty26 rfl (n := 8) rfl (by decide) (by intro j hj; first | rfl | trivial | (match j, hj with | 0, _ => (first | trivial | rfl) | 1, _ => (first | trivial | rfl) | 2, _ => (first | trivial | rfl) | 3, _ => (first | trivial | rfl) | 4, _ => (first | trivial | rfl) | 5, _ => (first | trivial | rfl) | 6, _ => (first | trivial | rfl) | 7, _ => (first | trivial | rfl))) rfl rfl rfl ?_)
        refine So.e ?_
        show HT _ _ _ _ _
        refine HT.seq ?_
        refine HT.region S_lawLimits_ok ?_
        refine So.n (Nat.le_of_ble_eq_true rfl) (A.v rfl (V.faPtr ty26 rfl ty22 (Nat.le_of_ble_eq_true rfl) rfl rfl (by first | exact Nat.le_of_ble_eq_true rfl | first | rfl | omega | (simp; done) | (simp; omega)) ?_))
        refine So.n (Nat.le_of_ble_eq_true rfl) (A.v rfl (V.ldPtr ty22 rfl rfl rfl (by first | exact Nat.le_of_ble_eq_true rfl | (first | rfl | omega | (simp; done) | (simp; omega))) (v := .p (.bs _)) rfl ?_))
        refine So.n (Nat.le_of_ble_eq_true rfl) (A.v rfl (V.cutBsL (mx := none) ty22 ty5 rfl rfl rfl (by omega) rfl ?_))
        refine So.n (Nat.le_of_ble_eq_true rfl) (A.v rfl (V.faPtr ty26 rfl ty22 (Nat.le_of_ble_eq_true rfl) rfl rfl (by first | exact Nat.le_of_ble_eq_true rfl | first | rfl | omega | (simp; done) | (simp; omega)) ?_))
        refine So.s (A.sto ty22 rfl rfl rfl (v := .p (.bs _)) rfl trivial rfl (by first | exact Nat.le_of_ble_eq_true rfl | (first | rfl | omega | (simp; done) | (simp; omega))) rfl rfl ?_)
        refine So.e ?_
        show HT _ _ _ _ _
        refine HT.seq ?_
        refine HT.region S_lawLimits_ok ?_
        refine So.n (Nat.le_of_ble_eq_true rfl) (A.v rfl (V.ldPtrA ty26 rfl rfl rfl rfl (by first | exact Nat.le_of_ble_eq_true rfl | (first | rfl | omega | (simp; done) | (simp; omega))) ?_))
        refine So.n (Nat.le_of_ble_eq_true rfl) (A.alloc 13 1 ty26 rfl trivial (f := fun j => ([.v (.slice none 0 0), .v (.int .i64 0), .v (.int .i64 0), .v (.int .i64 0), .v (.slice none 0 0), .v (.slice none 0 0), .v (.slice none 0 0), .v (.slice none 0 0)] : List PV).getD j (.v undef)) (fun j hj => by match j, hj with | 0, _ => rfl | 1, _ => rfl | 2, _ => rfl | 3, _ => rfl | 4, _ => rfl | 5, _ => rfl | 6, _ => rfl | 7, _ => rfl) ?_)
        refine So.s (A.stoAg ty26 rfl (n := 8) rfl (by decide) (by intro j hj; first | rfl | trivial | (match j, hj with | 0, _ => (first | trivial | rfl) | 1, _ => (first | trivial | rfl) | 2, _ => (first | trivial | rfl) | 3, _ => (first | trivial | rfl) | 4, _ => (first | trivial | rfl) | 5, _ => (first | trivial | rfl) | 6, _ => (first | trivial | rfl) | 7, _ => (first | trivial | rfl))) rfl rfl rfl ?_)
        refine So.e ?_
        show HT _ _ _ _ _
        refine HT.seq ?_
        refine HT.region S_lawLimits_ok ?_
        refine So.n (Nat.le_of_ble_eq_true rfl) (A.mkB 14 ty22 ty5 rfl rfl rfl (by omega) (n := N31) (by omega) rfl trivial ?_)
        refine So.n (Nat.le_of_ble_eq_true rfl) (A.v rfl (V.faPtr ty26 rfl ty22 (Nat.le_of_ble_eq_true rfl) rfl rfl (by first | exact Nat.le_of_ble_eq_true rfl | first | rfl | omega | (simp; done) | (simp; omega)) ?_))
        refine So.s (A.stoF ty22 rfl rfl rfl rfl rfl rfl rfl (v := .p (.bs _)) rfl trivial rfl (by first | exact Nat.le_of_ble_eq_true rfl | (first | rfl | omega | (simp; done) | (simp; omega))) rfl rfl ?_)
        refine So.e ?_
        show HT _ _ _ _ _
        refine HT.seq ?_
        refine HT.region S_lawLimits_ok ?_
        refine So.n (Nat.le_of_ble_eq_true rfl) (A.v rfl (V.ldPtrA ty26 rfl rfl rfl rfl (by first | exact Nat.le_of_ble_eq_true rfl | (first | rfl | omega | (simp; done) | (simp; omega))) ?_))
        refine So.n (Nat.le_of_ble_eq_true rfl) (A.call0 [.agg 8 _] 14 rfl rfl rfl rfl ⟨trivial, trivial⟩ trivial (g, ep, fr, kd, bd, sn.drop 1, cf, mb) ⟨le_agg (fun j hj => by match j, hj with | 0, _ => rfl | 1, _ => rfl | 2, _ => rfl | 3, _ => rfl | 4, _ => rfl | 5, _ => rfl | 6, _ => rfl | 7, _ => rfl), trivial⟩ trivial (by trivial) (Φ := fun _ => True) (fun _ _ => trivial) (.inl rfl) (v := .tup 2 _) rfl (O' := (16, ⟨5, 1, _, true, .bs _⟩) :: _) rfl (fun h9 => ?_))
        refine So.n (Nat.le_of_ble_eq_true rfl) (A.v rfl (V.mv (v := .tup 2 _) rfl ?_))
        refine So.n (Nat.le_of_ble_eq_true rfl) (A.v rfl (V.ext rfl (Nat.le_of_ble_eq_true rfl) (v := .own 16 0 _) rfl ?_))
        refine So.n (Nat.le_of_ble_eq_true rfl) (A.v rfl (V.ext rfl (Nat.le_of_ble_eq_true rfl) (v := .p (.v (.int .i64 _))) rfl ?_))
        refine So.n (Nat.le_of_ble_eq_true rfl) (A.v rfl (V.as (v := .own 16 0 _) rfl ?_))
        refine So.n (Nat.le_of_ble_eq_true rfl) (A.v rfl (V.as (v := .p (.v (.int .i64 _))) rfl ?_))
        refine So.e ?_
        show HT _ _ _ _ _
        refine HT.seq ?_
        refine HT.region S_lawLimits_ok ?_
        refine So.n (Nat.le_of_ble_eq_true rfl) (A.v rfl (V.ldPtrA ty26 rfl rfl rfl rfl (by first | exact Nat.le_of_ble_eq_true rfl | (first | rfl | omega | (simp; done) | (simp; omega))) ?_))
        refine So.n (Nat.le_of_ble_eq_true rfl) (A.call0 [.agg 8 _] 17 rfl rfl rfl rfl ⟨trivial, trivial⟩ trivial (g, ep, fr, kd, bd, sn, cf, (((List.replicate N31 (0 : UInt8)).drop 0).take N31)) ⟨le_agg (fun j hj => by match j, hj with | 0, _ => rfl | 1, _ => rfl | 2, _ => rfl | 3, _ => rfl | 4, _ => rfl | 5, _ => rfl | 6, _ => rfl | 7, _ => rfl), trivial⟩ trivial (by trivial) (Φ := fun _ => True) (fun _ _ => trivial) (.inl rfl) (v := .tup 2 _) rfl (O' := (19, ⟨5, 1, _, true, .bs _⟩) :: _) rfl (fun h10 => ?_))
        refine So.n (Nat.le_of_ble_eq_true rfl) (A.v rfl (V.mv (v := .tup 2 _) rfl ?_))
        refine So.n (Nat.le_of_ble_eq_true rfl) (A.v rfl (V.ext rfl (Nat.le_of_ble_eq_true rfl) (v := .own 19 0 _) rfl ?_))
        refine So.n (Nat.le_of_ble_eq_true rfl) (A.v rfl (V.ext rfl (Nat.le_of_ble_eq_true rfl) (v := .p (.v (.int .i64 _))) rfl ?_))
        refine So.n (Nat.le_of_ble_eq_true rfl) (A.v rfl (V.as (v := .own 19 0 _) rfl ?_))
        refine So.n (Nat.le_of_ble_eq_true rfl) (A.v rfl (V.as (v := .p (.v (.int .i64 _))) rfl ?_))
        refine So.e ?_
        show HT _ _ _ _ _
        refine HT.seq ?_
        refine R.tell [] [(6, ⟨24, 1, 5, true, .rows (fun j => ([.v (.slice none 0 0), .v (.int .i64 ep), .v (.int .i64 fr), .v (.int .i64 kd), .bs bd] : List PV).getD j (.v undef))⟩), (7, ⟨24, 1, 5, true, .rows (fun j => ([.bs ((((List.replicate N33 (0 : UInt8)).drop 0).take N33)), .v (.int .i64 ep), .v (.int .i64 fr), .v (.int .i64 kd), .bs bd] : List PV).getD j (.v undef))⟩), (8, ⟨24, 1, 5, true, .rows (fun j => ([.bs g, .v (.int .i64 1099511627777), .v (.int .i64 fr), .v (.int .i64 kd), .bs bd] : List PV).getD j (.v undef))⟩), (9, ⟨24, 1, 5, true, .rows (fun j => ([.bs g, .v (.int .i64 ep), .v (.int .i64 65536), .v (.int .i64 kd), .bs bd] : List PV).getD j (.v undef))⟩), (10, ⟨24, 1, 5, true, .rows (fun j => ([.bs g, .v (.int .i64 ep), .v (.int .i64 fr), .v (.int .i64 6), .bs bd] : List PV).getD j (.v undef))⟩), (11, ⟨24, 1, 5, true, .rows (fun j => ([.bs g, .v (.int .i64 ep), .v (.int .i64 fr), .v (.int .i64 kd), .bs ((((List.replicate Nbig (0 : UInt8)).drop 0).take Nbig))] : List PV).getD j (.v undef))⟩)] [1, 2, 3, 6, 7, 8, 9, 10, 11, 15, 17] [1] (fr0 := [(1, .ptr 1 0), (2, .p (.v (.bool false))), (3, .p (.v (.bool true))), (6, .ptr 6 0), (7, .ptr 7 0), (8, .ptr 8 0), (9, .ptr 9 0), (10, .ptr 10 0), (11, .ptr 11 0), (15, .p (.v (.int .i64 _))), (17, .p (.v (.int .i64 _)))]) (O0 := [(1, ⟨_, _, _, _, .rows _⟩)]) rfl rfl ⟨⟨⟨.refl _, rfl⟩, ⟨.refl _, trivial⟩, ⟨.refl _, trivial⟩, ⟨.refl _, rfl⟩, ⟨.refl _, rfl⟩, ⟨.refl _, rfl⟩, ⟨.refl _, rfl⟩, ⟨.refl _, rfl⟩, ⟨.refl _, rfl⟩, ⟨.refl _, trivial⟩, ⟨.refl _, trivial⟩, trivial⟩, ⟨⟨_, rfl, .inr (ob_rowsL (by intro j hj; match j, hj with | 0, _ => exact .refl _ | 1, _ => exact .refl _ | 2, _ => exact .refl _ | 3, _ => exact .refl _ | 4, _ => exact .refl _)), trivial⟩, ⟨_, rfl, .inr (ob_rowsL (by intro j hj; match j, hj with | 0, _ => exact .refl _ | 1, _ => exact .refl _ | 2, _ => exact .refl _ | 3, _ => exact .refl _ | 4, _ => exact .refl _)), trivial⟩, ⟨_, rfl, .inr (ob_rowsL (by intro j hj; match j, hj with | 0, _ => exact .refl _ | 1, _ => exact .refl _ | 2, _ => exact .refl _ | 3, _ => exact .refl _ | 4, _ => exact .refl _)), trivial⟩, ⟨_, rfl, .inr (ob_rowsL (by intro j hj; match j, hj with | 0, _ => exact .refl _ | 1, _ => exact .refl _ | 2, _ => exact .refl _ | 3, _ => exact .refl _ | 4, _ => exact .refl _)), trivial⟩, ⟨_, rfl, .inr (ob_rowsL (by intro j hj; match j, hj with | 0, _ => exact .refl _ | 1, _ => exact .refl _ | 2, _ => exact .refl _ | 3, _ => exact .refl _ | 4, _ => exact .refl _)), trivial⟩, ⟨_, rfl, .inr (ob_rowsL (by intro j hj; match j, hj with | 0, _ => exact .refl _ | 1, _ => exact .refl _ | 2, _ => exact .refl _ | 3, _ => exact .refl _ | 4, _ => exact .refl _)), trivial⟩, ⟨_, rfl, .inl rfl, trivial⟩, trivial⟩⟩ ?_
        show HT _ _ _ _ _
        refine HT.region S_lawLimits_ok ?_
        refine So.n (Nat.le_of_ble_eq_true rfl) (A.v rfl (V.mv (v := .p (.v (.bool true))) rfl ?_))
        refine So.n (Nat.le_of_ble_eq_true rfl) (A.v rfl (V.mv (v := .p (.v (.bool true))) rfl ?_))
        refine So.gy rfl rfl (Nat.le_of_ble_eq_true rfl) (Nat.le_of_ble_eq_true rfl) ?_
        refine A.v rfl (V.faPtr ty26 rfl ty24 (Nat.le_of_ble_eq_true rfl) rfl rfl (by first | exact Nat.le_of_ble_eq_true rfl | first | rfl | omega | (simp; done) | (simp; omega)) ?_)
        refine So.gy rfl rfl (Nat.le_of_ble_eq_true rfl) (Nat.le_of_ble_eq_true rfl) ?_
        refine A.v rfl (V.ldPtrA ty24 rfl rfl rfl rfl (by first | exact Nat.le_of_ble_eq_true rfl | (first | rfl | omega | (simp; done) | (simp; omega))) ?_)
        refine So.gy rfl rfl (Nat.le_of_ble_eq_true rfl) (Nat.le_of_ble_eq_true rfl) ?_
        refine A.call0 [.agg 5 _] 12 rfl rfl rfl rfl ⟨trivial, trivial⟩ trivial (g, ep, fr, kd, bd) ⟨le_agg (fun j hj => by match j, hj with | 0, _ => rfl | 1, _ => rfl | 2, _ => rfl | 3, _ => rfl | 4, _ => rfl), trivial⟩ trivial (by trivial) (Φ := fun _ => True) (fun _ _ => trivial) (.inl rfl) (v := .p (.v (.bool _))) rfl (O' := _) rfl (fun h11 => ?_)
        refine So.n (Nat.le_of_ble_eq_true rfl) (A.v rfl (V.pkTrue (u := .p (.v (.bool _))) rfl rfl ?_))
        refine So.n (Nat.le_of_ble_eq_true rfl) (A.v rfl (V.mv (v := .p (.v (.bool _))) rfl ?_))
        refine So.gd rfl rfl (Nat.le_of_ble_eq_true rfl) (Nat.le_of_ble_eq_true rfl) (fun h12 => ?_) (fun h12 => ?_)
        · have h12 := of_decide_eq_true h12
          refine A.v rfl (V.ldPtrA ty24 rfl rfl rfl rfl (by first | exact Nat.le_of_ble_eq_true rfl | (first | rfl | omega | (simp; done) | (simp; omega))) ?_)
          refine So.gy rfl rfl (Nat.le_of_ble_eq_true rfl) (Nat.le_of_ble_eq_true rfl) ?_
          refine A.call0 [.agg 5 _] 12 rfl rfl rfl rfl ⟨trivial, trivial⟩ trivial ([], ep, fr, kd, bd) ⟨.agg _ _ _ (fun j hj => by match j, hj with | 0, _ => exact .nilBs | 1, _ => exact .refl _ | 2, _ => exact .refl _ | 3, _ => exact .refl _ | 4, _ => exact .refl _), trivial⟩ trivial (by trivial) (Φ := fun _ => True) (fun _ _ => trivial) (.inl rfl) (v := .p (.v (.bool _))) rfl (O' := _) rfl (fun h13 => ?_)
          refine So.gy rfl rfl (Nat.le_of_ble_eq_true rfl) (Nat.le_of_ble_eq_true rfl) ?_
          refine A.v rfl (V.not rfl ?_)
          refine So.n (Nat.le_of_ble_eq_true rfl) (A.v rfl (V.pkTrue (u := .p (.v (.bool _))) rfl rfl ?_))
          refine So.n (Nat.le_of_ble_eq_true rfl) (A.v rfl (V.mv (v := .p (.v (.bool _))) rfl ?_))
          refine So.gd rfl rfl (Nat.le_of_ble_eq_true rfl) (Nat.le_of_ble_eq_true rfl) (fun h14 => ?_) (fun h14 => ?_)
          · have h14 := of_decide_eq_false (bnT h14)
            refine A.v rfl (V.ldPtrA ty24 rfl rfl rfl rfl (by first | exact Nat.le_of_ble_eq_true rfl | (first | rfl | omega | (simp; done) | (simp; omega))) ?_)
            refine So.gy rfl rfl (Nat.le_of_ble_eq_true rfl) (Nat.le_of_ble_eq_true rfl) ?_
            refine A.call0 [.agg 5 _] 12 rfl rfl rfl rfl ⟨trivial, trivial⟩ trivial ((((List.replicate N33 (0 : UInt8)).drop 0).take N33), ep, fr, kd, bd) ⟨le_agg (fun j hj => by match j, hj with | 0, _ => rfl | 1, _ => rfl | 2, _ => rfl | 3, _ => rfl | 4, _ => rfl), trivial⟩ trivial (by trivial) (Φ := fun _ => True) (fun _ _ => trivial) (.inl rfl) (v := .p (.v (.bool _))) rfl (O' := _) rfl (fun h15 => ?_)
            refine So.gy rfl rfl (Nat.le_of_ble_eq_true rfl) (Nat.le_of_ble_eq_true rfl) ?_
            refine A.v rfl (V.not rfl ?_)
            refine So.n (Nat.le_of_ble_eq_true rfl) (A.v rfl (V.pkTrue (u := .p (.v (.bool _))) rfl rfl ?_))
            refine So.n (Nat.le_of_ble_eq_true rfl) (A.v rfl (V.mv (v := .p (.v (.bool _))) rfl ?_))
            refine So.gd rfl rfl (Nat.le_of_ble_eq_true rfl) (Nat.le_of_ble_eq_true rfl) (fun h16 => ?_) (fun h16 => ?_)
            · have h16 := of_decide_eq_false (bnT h16)
              refine A.v rfl (V.ldPtrA ty24 rfl rfl rfl rfl (by first | exact Nat.le_of_ble_eq_true rfl | (first | rfl | omega | (simp; done) | (simp; omega))) ?_)
              refine So.gy rfl rfl (Nat.le_of_ble_eq_true rfl) (Nat.le_of_ble_eq_true rfl) ?_
              refine A.call0 [.agg 5 _] 12 rfl rfl rfl rfl ⟨trivial, trivial⟩ trivial (g, 1099511627777, fr, kd, bd) ⟨le_agg (fun j hj => by match j, hj with | 0, _ => rfl | 1, _ => rfl | 2, _ => rfl | 3, _ => rfl | 4, _ => rfl), trivial⟩ trivial (by trivial) (Φ := fun _ => True) (fun _ _ => trivial) (.inl rfl) (v := .p (.v (.bool _))) rfl (O' := _) rfl (fun h17 => ?_)
              refine So.gy rfl rfl (Nat.le_of_ble_eq_true rfl) (Nat.le_of_ble_eq_true rfl) ?_
              refine A.v rfl (V.not rfl ?_)
              refine So.n (Nat.le_of_ble_eq_true rfl) (A.v rfl (V.pkTrue (u := .p (.v (.bool _))) rfl rfl ?_))
              refine So.n (Nat.le_of_ble_eq_true rfl) (A.v rfl (V.mv (v := .p (.v (.bool _))) rfl ?_))
              refine So.gd rfl rfl (Nat.le_of_ble_eq_true rfl) (Nat.le_of_ble_eq_true rfl) (fun h18 => ?_) (fun h18 => ?_)
              · have h18 := of_decide_eq_false (bnT h18)
                refine A.v rfl (V.ldPtrA ty24 rfl rfl rfl rfl (by first | exact Nat.le_of_ble_eq_true rfl | (first | rfl | omega | (simp; done) | (simp; omega))) ?_)
                refine So.gy rfl rfl (Nat.le_of_ble_eq_true rfl) (Nat.le_of_ble_eq_true rfl) ?_
                refine A.call0 [.agg 5 _] 12 rfl rfl rfl rfl ⟨trivial, trivial⟩ trivial (g, ep, 65536, kd, bd) ⟨le_agg (fun j hj => by match j, hj with | 0, _ => rfl | 1, _ => rfl | 2, _ => rfl | 3, _ => rfl | 4, _ => rfl), trivial⟩ trivial (by trivial) (Φ := fun _ => True) (fun _ _ => trivial) (.inl rfl) (v := .p (.v (.bool _))) rfl (O' := _) rfl (fun h19 => ?_)
                refine So.gy rfl rfl (Nat.le_of_ble_eq_true rfl) (Nat.le_of_ble_eq_true rfl) ?_
                refine A.v rfl (V.not rfl ?_)
                refine So.n (Nat.le_of_ble_eq_true rfl) (A.v rfl (V.pkTrue (u := .p (.v (.bool _))) rfl rfl ?_))
                refine So.n (Nat.le_of_ble_eq_true rfl) (A.v rfl (V.mv (v := .p (.v (.bool _))) rfl ?_))
                refine So.gd rfl rfl (Nat.le_of_ble_eq_true rfl) (Nat.le_of_ble_eq_true rfl) (fun h20 => ?_) (fun h20 => ?_)
                · have h20 := of_decide_eq_false (bnT h20)
                  refine A.v rfl (V.ldPtrA ty24 rfl rfl rfl rfl (by first | exact Nat.le_of_ble_eq_true rfl | (first | rfl | omega | (simp; done) | (simp; omega))) ?_)
                  refine So.gy rfl rfl (Nat.le_of_ble_eq_true rfl) (Nat.le_of_ble_eq_true rfl) ?_
                  refine A.call0 [.agg 5 _] 12 rfl rfl rfl rfl ⟨trivial, trivial⟩ trivial (g, ep, fr, 6, bd) ⟨le_agg (fun j hj => by match j, hj with | 0, _ => rfl | 1, _ => rfl | 2, _ => rfl | 3, _ => rfl | 4, _ => rfl), trivial⟩ trivial (by trivial) (Φ := fun _ => True) (fun _ _ => trivial) (.inl rfl) (v := .p (.v (.bool _))) rfl (O' := _) rfl (fun h21 => ?_)
                  refine So.gy rfl rfl (Nat.le_of_ble_eq_true rfl) (Nat.le_of_ble_eq_true rfl) ?_
                  refine A.v rfl (V.not rfl ?_)
                  refine So.n (Nat.le_of_ble_eq_true rfl) (A.v rfl (V.pkTrue (u := .p (.v (.bool _))) rfl rfl ?_))
                  refine So.n (Nat.le_of_ble_eq_true rfl) (A.v rfl (V.mv (v := .p (.v (.bool _))) rfl ?_))
                  refine So.gd rfl rfl (Nat.le_of_ble_eq_true rfl) (Nat.le_of_ble_eq_true rfl) (fun h22 => ?_) (fun h22 => ?_)
                  · have h22 := of_decide_eq_false (bnT h22)
                    refine A.v rfl (V.ldPtrA ty24 rfl rfl rfl rfl (by first | exact Nat.le_of_ble_eq_true rfl | (first | rfl | omega | (simp; done) | (simp; omega))) ?_)
                    refine So.gy rfl rfl (Nat.le_of_ble_eq_true rfl) (Nat.le_of_ble_eq_true rfl) ?_
                    refine A.call0 [.agg 5 _] 12 rfl rfl rfl rfl ⟨trivial, trivial⟩ trivial (g, ep, fr, kd, (((List.replicate Nbig (0 : UInt8)).drop 0).take Nbig)) ⟨le_agg (fun j hj => by match j, hj with | 0, _ => rfl | 1, _ => rfl | 2, _ => rfl | 3, _ => rfl | 4, _ => rfl), trivial⟩ trivial (by trivial) (Φ := fun _ => True) (fun _ _ => trivial) (.inl rfl) (v := .p (.v (.bool _))) rfl (O' := _) rfl (fun h23 => ?_)
                    refine So.gy rfl rfl (Nat.le_of_ble_eq_true rfl) (Nat.le_of_ble_eq_true rfl) ?_
                    refine A.v rfl (V.not rfl ?_)
                    refine So.n (Nat.le_of_ble_eq_true rfl) (A.v rfl (V.pkTrue (u := .p (.v (.bool _))) rfl rfl ?_))
                    refine So.n (Nat.le_of_ble_eq_true rfl) (A.v rfl (V.mv (v := .p (.v (.bool _))) rfl ?_))
                    refine So.gd rfl rfl (Nat.le_of_ble_eq_true rfl) (Nat.le_of_ble_eq_true rfl) (fun h24 => ?_) (fun h24 => ?_)
                    · have h24 := of_decide_eq_false (bnT h24)
                      refine A.v rfl (V.mv (v := .p (.v (.int .i64 _))) rfl ?_)
                      refine So.gy rfl rfl (Nat.le_of_ble_eq_true rfl) (Nat.le_of_ble_eq_true rfl) ?_
                      refine A.v rfl (V.bin (a := (.v (.int .i64 _))) (b := (.v (.int .i64 (181)))) (r := .v (.bool _)) rfl rfl rfl trivial ?_)
                      refine So.n (Nat.le_of_ble_eq_true rfl) (A.v rfl (V.pkTrue (u := .p (.v (.bool _))) rfl rfl ?_))
                      refine So.n (Nat.le_of_ble_eq_true rfl) (A.v rfl (V.mv (v := .p (.v (.bool _))) rfl ?_))
                      refine So.gd rfl rfl (Nat.le_of_ble_eq_true rfl) (Nat.le_of_ble_eq_true rfl) (fun h25 => ?_) (fun h25 => ?_)
                      · have h25 := of_decide_eq_true h25
                        refine A.v rfl (V.mv (v := .p (.v (.int .i64 _))) rfl ?_)
                        refine So.gy rfl rfl (Nat.le_of_ble_eq_true rfl) (Nat.le_of_ble_eq_true rfl) ?_
                        refine A.v rfl (V.bin (a := (.v (.int .i64 _))) (b := (.v (.int .i64 (181)))) (r := .v (.bool _)) rfl rfl rfl trivial ?_)
                        refine So.n (Nat.le_of_ble_eq_true rfl) (A.v rfl (V.pkTrue (u := .p (.v (.bool _))) rfl rfl ?_))
                        refine So.n (Nat.le_of_ble_eq_true rfl) (A.v rfl (V.as (v := .p (.v (.bool _))) rfl ?_))
                        refine So.e ?_
                        show HT _ _ _ _ _
                        refine HT.ret ?_
                        exact ret_ok (sg []) h rfl rfl rfl trivial ⟨trivial, trivial⟩ rfl ⟨⟨⟨le_bool (by first | rfl | exact decide_eq_true hno.1 | exact decide_eq_true (by first | exact hm | exact hm.1 | exact no_g | exact no_G (by rw [List.drop_zero, List.length_take, List.length_replicate]; omega) | exact no_e | exact no_f | exact no_k | exact no_b (by rw [List.drop_zero, List.length_take, List.length_replicate]; omega) | exact no_s (by rw [List.length_drop]; omega) | exact no_m (by rw [List.drop_zero, List.length_take, List.length_replicate]; omega))), trivial⟩, trivial⟩, trivial⟩
                      · have h25 := of_decide_eq_false h25
                        first | exact absurd (by first | exact hm | exact hm.1 | exact no_g | exact no_G (by rw [List.drop_zero, List.length_take, List.length_replicate]; omega) | exact no_e | exact no_f | exact no_k | exact no_b (by rw [List.drop_zero, List.length_take, List.length_replicate]; omega) | exact no_s (by rw [List.length_drop]; omega) | exact no_m (by rw [List.drop_zero, List.length_take, List.length_replicate]; omega)) h25 | exact absurd h25 (by first | exact hm | exact hm.1 | exact no_g | exact no_G (by rw [List.drop_zero, List.length_take, List.length_replicate]; omega) | exact no_e | exact no_f | exact no_k | exact no_b (by rw [List.drop_zero, List.length_take, List.length_replicate]; omega) | exact no_s (by rw [List.length_drop]; omega) | exact no_m (by rw [List.drop_zero, List.length_take, List.length_replicate]; omega))
                    · have h24 := of_decide_eq_true (bnF h24)
                      first | exact absurd (by first | exact hm | exact hm.1 | exact no_g | exact no_G (by rw [List.drop_zero, List.length_take, List.length_replicate]; omega) | exact no_e | exact no_f | exact no_k | exact no_b (by rw [List.drop_zero, List.length_take, List.length_replicate]; omega) | exact no_s (by rw [List.length_drop]; omega) | exact no_m (by rw [List.drop_zero, List.length_take, List.length_replicate]; omega)) h24 | exact absurd h24 (by first | exact hm | exact hm.1 | exact no_g | exact no_G (by rw [List.drop_zero, List.length_take, List.length_replicate]; omega) | exact no_e | exact no_f | exact no_k | exact no_b (by rw [List.drop_zero, List.length_take, List.length_replicate]; omega) | exact no_s (by rw [List.length_drop]; omega) | exact no_m (by rw [List.drop_zero, List.length_take, List.length_replicate]; omega))
                  · have h22 := of_decide_eq_true (bnF h22)
                    first | exact absurd (by first | exact hm | exact hm.1 | exact no_g | exact no_G (by rw [List.drop_zero, List.length_take, List.length_replicate]; omega) | exact no_e | exact no_f | exact no_k | exact no_b (by rw [List.drop_zero, List.length_take, List.length_replicate]; omega) | exact no_s (by rw [List.length_drop]; omega) | exact no_m (by rw [List.drop_zero, List.length_take, List.length_replicate]; omega)) h22 | exact absurd h22 (by first | exact hm | exact hm.1 | exact no_g | exact no_G (by rw [List.drop_zero, List.length_take, List.length_replicate]; omega) | exact no_e | exact no_f | exact no_k | exact no_b (by rw [List.drop_zero, List.length_take, List.length_replicate]; omega) | exact no_s (by rw [List.length_drop]; omega) | exact no_m (by rw [List.drop_zero, List.length_take, List.length_replicate]; omega))
                · have h20 := of_decide_eq_true (bnF h20)
                  first | exact absurd (by first | exact hm | exact hm.1 | exact no_g | exact no_G (by rw [List.drop_zero, List.length_take, List.length_replicate]; omega) | exact no_e | exact no_f | exact no_k | exact no_b (by rw [List.drop_zero, List.length_take, List.length_replicate]; omega) | exact no_s (by rw [List.length_drop]; omega) | exact no_m (by rw [List.drop_zero, List.length_take, List.length_replicate]; omega)) h20 | exact absurd h20 (by first | exact hm | exact hm.1 | exact no_g | exact no_G (by rw [List.drop_zero, List.length_take, List.length_replicate]; omega) | exact no_e | exact no_f | exact no_k | exact no_b (by rw [List.drop_zero, List.length_take, List.length_replicate]; omega) | exact no_s (by rw [List.length_drop]; omega) | exact no_m (by rw [List.drop_zero, List.length_take, List.length_replicate]; omega))
              · have h18 := of_decide_eq_true (bnF h18)
                first | exact absurd (by first | exact hm | exact hm.1 | exact no_g | exact no_G (by rw [List.drop_zero, List.length_take, List.length_replicate]; omega) | exact no_e | exact no_f | exact no_k | exact no_b (by rw [List.drop_zero, List.length_take, List.length_replicate]; omega) | exact no_s (by rw [List.length_drop]; omega) | exact no_m (by rw [List.drop_zero, List.length_take, List.length_replicate]; omega)) h18 | exact absurd h18 (by first | exact hm | exact hm.1 | exact no_g | exact no_G (by rw [List.drop_zero, List.length_take, List.length_replicate]; omega) | exact no_e | exact no_f | exact no_k | exact no_b (by rw [List.drop_zero, List.length_take, List.length_replicate]; omega) | exact no_s (by rw [List.length_drop]; omega) | exact no_m (by rw [List.drop_zero, List.length_take, List.length_replicate]; omega))
            · have h16 := of_decide_eq_true (bnF h16)
              first | exact absurd (by first | exact hm | exact hm.1 | exact no_g | exact no_G (by rw [List.drop_zero, List.length_take, List.length_replicate]; omega) | exact no_e | exact no_f | exact no_k | exact no_b (by rw [List.drop_zero, List.length_take, List.length_replicate]; omega) | exact no_s (by rw [List.length_drop]; omega) | exact no_m (by rw [List.drop_zero, List.length_take, List.length_replicate]; omega)) h16 | exact absurd h16 (by first | exact hm | exact hm.1 | exact no_g | exact no_G (by rw [List.drop_zero, List.length_take, List.length_replicate]; omega) | exact no_e | exact no_f | exact no_k | exact no_b (by rw [List.drop_zero, List.length_take, List.length_replicate]; omega) | exact no_s (by rw [List.length_drop]; omega) | exact no_m (by rw [List.drop_zero, List.length_take, List.length_replicate]; omega))
          · have h14 := of_decide_eq_true (bnF h14)
            first | exact absurd (by first | exact hm | exact hm.1 | exact no_g | exact no_G (by rw [List.drop_zero, List.length_take, List.length_replicate]; omega) | exact no_e | exact no_f | exact no_k | exact no_b (by rw [List.drop_zero, List.length_take, List.length_replicate]; omega) | exact no_s (by rw [List.length_drop]; omega) | exact no_m (by rw [List.drop_zero, List.length_take, List.length_replicate]; omega)) h14 | exact absurd h14 (by first | exact hm | exact hm.1 | exact no_g | exact no_G (by rw [List.drop_zero, List.length_take, List.length_replicate]; omega) | exact no_e | exact no_f | exact no_k | exact no_b (by rw [List.drop_zero, List.length_take, List.length_replicate]; omega) | exact no_s (by rw [List.length_drop]; omega) | exact no_m (by rw [List.drop_zero, List.length_take, List.length_replicate]; omega))
        · have h12 := of_decide_eq_false h12
          first | exact absurd (by first | exact hm | exact hm.1 | exact no_g | exact no_G (by rw [List.drop_zero, List.length_take, List.length_replicate]; omega) | exact no_e | exact no_f | exact no_k | exact no_b (by rw [List.drop_zero, List.length_take, List.length_replicate]; omega) | exact no_s (by rw [List.length_drop]; omega) | exact no_m (by rw [List.drop_zero, List.length_take, List.length_replicate]; omega)) h12 | exact absurd h12 (by first | exact hm | exact hm.1 | exact no_g | exact no_G (by rw [List.drop_zero, List.length_take, List.length_replicate]; omega) | exact no_e | exact no_f | exact no_k | exact no_b (by rw [List.drop_zero, List.length_take, List.length_replicate]; omega) | exact no_s (by rw [List.length_drop]; omega) | exact no_m (by rw [List.drop_zero, List.length_take, List.length_replicate]; omega))
end Go.Vh
