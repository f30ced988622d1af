/- What is proved: each function of the seat's program does what its contract says, wherever it is called; no condition. -/
import Derived.Test.YtkabppmmdhkmiaaDoorWalk0
import Derived.Test.YtkabppmmdhkmiaaDoorWalk1
set_option linter.unusedVariables false
set_option linter.unusedSimpArgs false
set_option linter.unusedVariables false
set_option linter.unusedSimpArgs false
namespace Go.Vh
open Go Go.Vc Go.Proofs Go.Vw
def lawBackSp : Sp := ⟨[], mkE (α := (List UInt8) × Int × Int × Int × (List UInt8) × (List UInt8) × (List UInt8) × (List UInt8) × (List UInt8) × Int × Int × Int × (List UInt8) × (List UInt8) × (List UInt8) × (List UInt8) × (List UInt8) × Int × Int × Int × (List UInt8) × (List UInt8) × Int × Int × Int × (List UInt8)) (fun (g, ep, fr, kd, bd, sn, cf, mb, g2, ep2, fr2, kd2, bd2, sn2, cf2, mb2, g3, ep3, fr3, gn3, cl3, g4, ep4, fr4, gn4, cl4) => [.agg 8 (fun j => ([.bs g, .v (.int .i64 ep), .v (.int .i64 fr), .v (.int .i64 kd), .bs bd, .bs sn, .bs cf, .bs mb] : List PV).getD j (.v undef)), .agg 8 (fun j => ([.bs g2, .v (.int .i64 ep2), .v (.int .i64 fr2), .v (.int .i64 kd2), .bs bd2, .bs sn2, .bs cf2, .bs mb2] : List PV).getD j (.v undef)), .agg 5 (fun j => ([.bs g3, .v (.int .i64 ep3), .v (.int .i64 fr3), .v (.int .i64 gn3), .bs cl3] : List PV).getD j (.v undef)), .agg 5 (fun j => ([.bs g4, .v (.int .i64 ep4), .v (.int .i64 fr4), .v (.int .i64 gn4), .bs cl4] : List PV).getD j (.v undef))]) (fun (g, ep, fr, kd, bd, sn, cf, mb, g2, ep2, fr2, kd2, bd2, sn2, cf2, mb2, g3, ep3, fr3, gn3, cl3, g4, ep4, fr4, gn4, cl4) => []) (fun (g, ep, fr, kd, bd, sn, cf, mb, g2, ep2, fr2, kd2, bd2, sn2, cf2, mb2, g3, ep3, fr3, gn3, cl3, g4, ep4, fr4, gn4, cl4) => True) (fun (g, ep, fr, kd, bd, sn, cf, mb, g2, ep2, fr2, kd2, bd2, sn2, cf2, mb2, g3, ep3, fr3, gn3, cl3, g4, ep4, fr4, gn4, cl4) => [.p (.v (.bool true))]) (fun (g, ep, fr, kd, bd, sn, cf, mb, g2, ep2, fr2, kd2, bd2, sn2, cf2, mb2, g3, ep3, fr3, gn3, cl3, g4, ep4, fr4, gn4, cl4) => [])⟩
def S_lawBack : FuncId → Option Sp := fun f => if f = 8 then some headSp else if f = 9 then some greatSp else if f = 10 then some fputSp else if f = 20 then some fgetSp else if f = 21 then some samemSp else if f = 13 then some fputsSp else if f = 15 then some fgetsSp else if f = 17 then some samesSp else none
theorem S_lawBack_ok : ∀ f s, S_lawBack f = some s → FOK Tryd.prog gl f s := fun f s h => by
 unfold S_lawBack at h
 split at h
 ·rename_i e; cases h; subst e; exact head_ok
 split at h
 ·rename_i e; cases h; subst e; exact great_ok
 split at h
 ·rename_i e; cases h; subst e; exact fput_ok
 split at h
 ·rename_i e; cases h; subst e; exact fget_ok
 split at h
 ·rename_i e; cases h; subst e; exact samem_ok
 split at h
 ·rename_i e; cases h; subst e; exact fputs_ok
 split at h
 ·rename_i e; cases h; subst e; exact fgets_ok
 split at h
 ·rename_i e; cases h; subst e; exact sames_ok
 cases h
theorem S_lawBack_det : ∀ f s, S_lawBack f = some s → SpDet s.sp := fun f s h => by
 unfold S_lawBack at h
 split at h
 ·cases h; exact mkE_det _ _ _ _ _
 split at h
 ·cases h; exact mkE_det _ _ _ _ _
 split at h
 ·cases h; exact mkE_det _ _ _ _ _
 split at h
 ·cases h; exact mkE_det _ _ _ _ _
 split at h
 ·cases h; exact mkE_det _ _ _ _ _
 split at h
 ·cases h; exact mkE_det _ _ _ _ _
 split at h
 ·cases h; exact mkE_det _ _ _ _ _
 split at h
 ·cases h; exact mkE_det _ _ _ _ _
 cases h
set_option maxHeartbeats 4000000 in
set_option maxRecDepth 20000 in
theorem lawBack_ok : FOK Tryd.prog gl 5 lawBackSp := by
 refine FOK.ofE (tyOf_ok Tryd.prog) (slots := [8]) (nt := 150) Tryd.func5 rfl rfl rfl rfl (by decide) 4 (fun ⟨_, _, _, _, _, _, _, _, _, _, _, _, _, _, _, _, _, _, _, _, _, _, _, _, _, _⟩ => rfl) (by decide) (fun ⟨_, _, _, _, _, _, _, _, _, _, _, _, _, _, _, _, _, _, _, _, _, _, _, _, _, _⟩ => ⟨trivial, trivial, trivial, trivial, trivial⟩) ?_
 rintro ⟨g, ep, fr, kd, bd, sn, cf, mb, g2, ep2, fr2, kd2, bd2, sn2, cf2, mb2, g3, ep3, fr3, gn3, cl3, g4, ep4, fr4, gn4, cl4⟩ kk hlen hpre h
 replace hpre : True := hpre
 show HT (cx Tryd.prog 150 (tyOf Tryd.prog) gl []) _ [(0, .agg 8 (fun j => ([.bs g, .v (.int .i64 ep), .v (.int .i64 fr), .v (.int .i64 kd), .bs bd, .bs sn, .bs cf, .bs mb] : List PV).getD j (.v undef))), (1, .agg 8 (fun j => ([.bs g2, .v (.int .i64 ep2), .v (.int .i64 fr2), .v (.int .i64 kd2), .bs bd2, .bs sn2, .bs cf2, .bs mb2] : List PV).getD j (.v undef))), (2, .agg 5 (fun j => ([.bs g3, .v (.int .i64 ep3), .v (.int .i64 fr3), .v (.int .i64 gn3), .bs cl3] : List PV).getD j (.v undef))), (3, .agg 5 (fun j => ([.bs g4, .v (.int .i64 ep4), .v (.int .i64 fr4), .v (.int .i64 gn4), .bs cl4] : List PV).getD j (.v undef)))] [] _
 refine HT.seq ?_
 refine HT.region S_lawBack_ok ?_
 refine So.n (lk rfl) (A.boxAg 1 1 (n := 8) rfl (by intro j hj; first | rfl | trivial | (match j, hj with | 0, _ => (first | trivial | rfl) | 1, _ => (first | trivial | rfl) | 2, _ => (first | trivial | rfl) | 3, _ => (first | trivial | rfl) | 4, _ => (first | trivial | rfl) | 5, _ => (first | trivial | rfl) | 6, _ => (first | trivial | rfl) | 7, _ => (first | trivial | rfl)) | (split <;> first | rfl | trivial | (split <;> first | rfl | trivial))) rfl trivial ?_)
 refine So.n (lk rfl) (A.boxAg 2 1 (n := 8) rfl (by intro j hj; first | rfl | trivial | (match j, hj with | 0, _ => (first | trivial | rfl) | 1, _ => (first | trivial | rfl) | 2, _ => (first | trivial | rfl) | 3, _ => (first | trivial | rfl) | 4, _ => (first | trivial | rfl) | 5, _ => (first | trivial | rfl) | 6, _ => (first | trivial | rfl) | 7, _ => (first | trivial | rfl)) | (split <;> first | rfl | trivial | (split <;> first | rfl | trivial))) rfl trivial ?_)
 refine So.n (lk rfl) (A.boxAg 3 1 (n := 5) rfl (by intro j hj; first | rfl | trivial | (match j, hj with | 0, _ => (first | trivial | rfl) | 1, _ => (first | trivial | rfl) | 2, _ => (first | trivial | rfl) | 3, _ => (first | trivial | rfl) | 4, _ => (first | trivial | rfl)) | (split <;> first | rfl | trivial | (split <;> first | rfl | trivial))) rfl trivial ?_)
 refine So.n (lk rfl) (A.boxAg 4 1 (n := 5) rfl (by intro j hj; first | rfl | trivial | (match j, hj with | 0, _ => (first | trivial | rfl) | 1, _ => (first | trivial | rfl) | 2, _ => (first | trivial | rfl) | 3, _ => (first | trivial | rfl) | 4, _ => (first | trivial | rfl)) | (split <;> first | rfl | trivial | (split <;> first | rfl | trivial))) rfl trivial ?_)
 refine So.q rfl rfl (V.as (v := .p (.v (.bool false))) rfl ?_)
 refine So.e ?_
 show HT _ _ _ _ _
 refine HT.seq ?_
 refine HT.region S_lawBack_ok ?_
 refine So.n (lk rfl) (A.call0 [] 5 rfl rfl rfl rfl trivial trivial () trivial trivial (by trivial) (Φ := fun _ => True) (fun _ _ => trivial) (.inl rfl) (v := .p (.v (.bool true))) rfl (O' := _) rfl (fun h1 => ?_))
 refine So.q rfl rfl (V.as (v := .p (.v (.bool true))) rfl ?_)
 refine So.e ?_
 show HT _ _ _ _ _
 refine HT.seq ?_
 refine HT.seq ?_
 refine HT.region S_lawBack_ok ?_
 refine So.q rfl rfl (V.faPtr ty26 rfl ty24 (lk rfl) rfl rfl (lk rfl) ?_)
 refine So.q rfl rfl (V.faPtr ty24 rfl ty22 (lk rfl) rfl rfl (lk rfl) ?_)
 refine So.q rfl rfl (V.ldPtr ty22 rfl rfl rfl (lk rfl) (v := .p (.bs _)) rfl ?_)
 refine So.q rfl rfl (V.faPtr ty26 rfl ty24 (lk rfl) rfl rfl (lk rfl) ?_)
 refine So.q rfl rfl (V.faPtr ty24 rfl ty22 (lk rfl) rfl rfl (lk rfl) ?_)
 refine So.q rfl rfl (V.ldPtr ty22 rfl rfl rfl (lk rfl) (v := .p (.bs _)) rfl ?_)
 refine So.q rfl rfl (V.faPtr ty26 rfl ty22 (lk rfl) rfl rfl (lk rfl) ?_)
 refine So.q rfl rfl (V.ldPtr ty22 rfl rfl rfl (lk rfl) (v := .p (.bs _)) rfl ?_)
 refine So.q rfl rfl (V.faPtr ty26 rfl ty22 (lk rfl) rfl rfl (lk rfl) ?_)
 refine So.q rfl rfl (V.ldPtr ty22 rfl rfl rfl (lk rfl) (v := .p (.bs _)) rfl ?_)
 refine So.q rfl rfl (V.faPtr ty26 rfl ty22 (lk rfl) rfl rfl (lk rfl) ?_)
 refine So.q rfl rfl (V.ldPtr ty22 rfl rfl rfl (lk rfl) (v := .p (.bs _)) rfl ?_)
 refine So.q rfl rfl (V.faPtr ty35 rfl ty22 (lk rfl) rfl rfl (lk rfl) ?_)
 refine So.q rfl rfl (V.ldPtr ty22 rfl rfl rfl (lk rfl) (v := .p (.bs _)) rfl ?_)
 refine So.q rfl rfl (V.faPtr ty35 rfl ty22 (lk rfl) rfl rfl (lk rfl) ?_)
 refine So.q rfl rfl (V.ldPtr ty22 rfl rfl rfl (lk rfl) (v := .p (.bs _)) rfl ?_)
 refine So.n (lk rfl) (A.bsl 5 ty51 ty22 rfl (lk rfl) (lk rfl) (fun _ => rfl) rfl rfl trivial ⟨trivial, trivial, trivial, trivial, trivial, trivial, trivial, trivial⟩ rfl (N := 7) rfl (c := .rows _) rfl ?_)
 refine So.n (lk rfl) (A.call0 [.p (.sl _ _ _)] 6 rfl rfl rfl rfl ⟨trivial, trivial⟩ trivial [g, bd, sn, cf, mb, g3, cl3] ⟨le_sl rfl (by intro j hj; match j, hj with | 0, _ => rfl | 1, _ => rfl | 2, _ => rfl | 3, _ => rfl | 4, _ => rfl | 5, _ => rfl | 6, _ => rfl), trivial⟩ trivial (by trivial) (Φ := fun _ => True) (fun _ _ => trivial) (.inr ⟨trivial, by simp [Hp.scal, OC.scal, PV.scal, BV.scal]⟩) (v := .p (.v (.bool _))) rfl (O' := _) rfl (fun h2 => ?_))
 refine So.q rfl rfl (V.mv (v := .p (.v (.bool _))) rfl ?_)
 refine So.gd rfl rfl (lk rfl) (lk rfl) (fun h3 => ?_) (fun h3 => ?_)
 ·have h3 := great_f h3
  refine A.v rfl (V.faPtr ty26 rfl ty24 (lk rfl) rfl rfl (lk rfl) ?_)
  refine So.gy rfl rfl (lk rfl) (lk rfl) ?_
  refine A.v rfl (V.faPtr ty24 rfl ty22 (lk rfl) rfl rfl (lk rfl) ?_)
  refine So.gy rfl rfl (lk rfl) (lk rfl) ?_
  refine A.v rfl (V.ldPtr ty22 rfl rfl rfl (lk rfl) (v := .p (.bs _)) rfl ?_)
  refine So.gy rfl rfl (lk rfl) (lk rfl) ?_
  refine A.v rfl (V.faPtr ty26 rfl ty24 (lk rfl) rfl rfl (lk rfl) ?_)
  refine So.gy rfl rfl (lk rfl) (lk rfl) ?_
  refine A.v rfl (V.faPtr ty24 rfl ty22 (lk rfl) rfl rfl (lk rfl) ?_)
  refine So.gy rfl rfl (lk rfl) (lk rfl) ?_
  refine A.v rfl (V.ldPtr ty22 rfl rfl rfl (lk rfl) (v := .p (.bs _)) rfl ?_)
  refine So.gy rfl rfl (lk rfl) (lk rfl) ?_
  refine A.v rfl (V.faPtr ty26 rfl ty22 (lk rfl) rfl rfl (lk rfl) ?_)
  refine So.gy rfl rfl (lk rfl) (lk rfl) ?_
  refine A.v rfl (V.ldPtr ty22 rfl rfl rfl (lk rfl) (v := .p (.bs _)) rfl ?_)
  refine So.gy rfl rfl (lk rfl) (lk rfl) ?_
  refine A.v rfl (V.faPtr ty26 rfl ty22 (lk rfl) rfl rfl (lk rfl) ?_)
  refine So.gy rfl rfl (lk rfl) (lk rfl) ?_
  refine A.v rfl (V.ldPtr ty22 rfl rfl rfl (lk rfl) (v := .p (.bs _)) rfl ?_)
  refine So.gy rfl rfl (lk rfl) (lk rfl) ?_
  refine A.v rfl (V.faPtr ty26 rfl ty22 (lk rfl) rfl rfl (lk rfl) ?_)
  refine So.gy rfl rfl (lk rfl) (lk rfl) ?_
  refine A.v rfl (V.ldPtr ty22 rfl rfl rfl (lk rfl) (v := .p (.bs _)) rfl ?_)
  refine So.gy rfl rfl (lk rfl) (lk rfl) ?_
  refine A.v rfl (V.faPtr ty35 rfl ty22 (lk rfl) rfl rfl (lk rfl) ?_)
  refine So.gy rfl rfl (lk rfl) (lk rfl) ?_
  refine A.v rfl (V.ldPtr ty22 rfl rfl rfl (lk rfl) (v := .p (.bs _)) rfl ?_)
  refine So.gy rfl rfl (lk rfl) (lk rfl) ?_
  refine A.v rfl (V.faPtr ty35 rfl ty22 (lk rfl) rfl rfl (lk rfl) ?_)
  refine So.gy rfl rfl (lk rfl) (lk rfl) ?_
  refine A.v rfl (V.ldPtr ty22 rfl rfl rfl (lk rfl) (v := .p (.bs _)) rfl ?_)
  refine So.gy rfl rfl (lk rfl) (lk rfl) ?_
  refine A.bsl 6 ty51 ty22 rfl (lk rfl) (lk rfl) (fun _ => rfl) rfl rfl trivial ⟨trivial, trivial, trivial, trivial, trivial, trivial, trivial, trivial⟩ rfl (N := 7) rfl (c := .rows _) rfl ?_
  refine So.gy rfl rfl (lk rfl) (lk rfl) ?_
  refine A.call0 [.p (.sl _ _ _)] 7 rfl rfl rfl rfl ⟨trivial, trivial⟩ trivial [g2, bd2, sn2, cf2, mb2, g4, cl4] ⟨le_sl rfl (by intro j hj; match j, hj with | 0, _ => rfl | 1, _ => rfl | 2, _ => rfl | 3, _ => rfl | 4, _ => rfl | 5, _ => rfl | 6, _ => rfl), trivial⟩ trivial (by trivial) (Φ := fun _ => True) (fun _ _ => trivial) (.inr ⟨trivial, by simp [Hp.scal, OC.scal, PV.scal, BV.scal]⟩) (v := .p (.v (.bool _))) rfl (O' := _) rfl (fun h4 => ?_)
  refine So.q rfl rfl (V.pkFalse (u := .p (.v (.bool _))) rfl rfl ?_)
  refine So.e ?_
  show HT _ _ _ _ _
  refine R.cond rfl rfl (fun h5 => ?_) (fun h5 => ?_)
  ·have h5 := great_t h5
   refine HT.seq ?_
   refine HT.region S_lawBack_ok ?_
   refine So.q rfl rfl (V.mv (v := .p (.v (.bool true))) rfl ?_)
   refine So.q rfl rfl (V.as (v := .p (.v (.bool true))) rfl ?_)
   refine So.e ?_
   show HT _ _ _ _ _
   refine HT.ret ?_
   exact ret_ok (sg []) h rfl rfl rfl trivial ⟨trivial, trivial⟩ rfl ⟨⟨⟨le_bool (by first | rfl | exact decide_eq_true rfl | (rw [hno.2]; rfl) | exact beq_yes (seal_same hs (seal_good (by assumption)))), trivial⟩, trivial⟩, trivial⟩
  ·have h5 := great_f h5
   refine HT.skip ?_
   show HT _ _ _ _ _
   refine HT.seq ?_
   refine HT.region S_lawBack_ok ?_
   refine So.q rfl rfl (V.ldPtrA ty26 rfl rfl rfl rfl (lk rfl) ?_)
   refine So.n (lk rfl) (A.call0 [.agg 8 _] 7 rfl rfl rfl rfl ⟨trivial, trivial⟩ trivial (g, ep, fr, kd, bd, sn, cf, mb) ⟨le_agg (fun j hj => by match j, hj with | 0, _ => rfl | 1, _ => rfl | 2, _ => rfl | 3, _ => rfl | 4, _ => rfl | 5, _ => rfl | 6, _ => rfl | 7, _ => rfl), trivial⟩ trivial (by trivial) (Φ := fun _ => True) (fun _ _ => trivial) (.inl rfl) (v := .tup 2 _) rfl (O' := (9, ⟨5, 1, _, true, .bs _⟩) :: _) rfl (fun h6 => ?_))
   refine So.q rfl rfl (V.mv (v := .tup 2 _) rfl ?_)
   refine So.q rfl rfl (V.ext rfl (lk rfl) (v := .own 9 0 _) rfl ?_)
   refine So.q rfl rfl (V.ext rfl (lk rfl) (v := .p (.v (.int .i64 _))) rfl ?_)
   refine So.q rfl rfl (V.as (v := .own 9 0 _) rfl ?_)
   refine So.q rfl rfl (V.as (v := .p (.v (.int .i64 _))) rfl ?_)
   refine So.e ?_
   show HT _ _ _ _ _
   refine HT.frzS 9 rfl rfl rfl ?_
   show HT _ _ _ _ _
   refine HT.seq ?_
   refine R.tell [(10, .p (.bs (putF g ep fr kd bd sn cf mb)))] [] [4, 5, 6, 7, 8, 9, 11] [1, 2, 3, 4] (fr0 := [(4, .ptr 1 0), (5, .ptr 2 0), (6, .ptr 3 0), (7, .ptr 4 0), (8, .p (.v (.bool false))), (9, .p (.v (.bool true))), (11, .p (.v (.int .i64 _)))]) (O0 := [(1, ⟨_, _, _, _, .rows _⟩), (2, ⟨_, _, _, _, .rows _⟩), (3, ⟨_, _, _, _, .rows _⟩), (4, ⟨_, _, _, _, .rows _⟩)]) rfl rfl ⟨⟨⟨le_bs (by first | rfl | exact take_full _), trivial⟩, ⟨.refl _, rfl⟩, ⟨.refl _, rfl⟩, ⟨.refl _, rfl⟩, ⟨.refl _, rfl⟩, ⟨.refl _, trivial⟩, ⟨.refl _, trivial⟩, ⟨.refl _, trivial⟩, trivial⟩, ⟨⟨_, rfl, .inl rfl, trivial⟩, ⟨_, rfl, .inl rfl, trivial⟩, ⟨_, rfl, .inl rfl, trivial⟩, ⟨_, rfl, .inl rfl, trivial⟩, trivial⟩⟩ ?_
   show HT _ _ _ _ _
   refine HT.region S_lawBack_ok ?_
   refine So.q rfl rfl (V.ldPtrA ty26 rfl rfl rfl rfl (lk rfl) ?_)
   refine So.n (lk rfl) (A.call0 [.agg 8 _] 5 rfl rfl rfl rfl ⟨trivial, trivial⟩ trivial (g2, ep2, fr2, kd2, bd2, sn2, cf2, mb2) ⟨le_agg (fun j hj => by match j, hj with | 0, _ => rfl | 1, _ => rfl | 2, _ => rfl | 3, _ => rfl | 4, _ => rfl | 5, _ => rfl | 6, _ => rfl | 7, _ => rfl), trivial⟩ trivial (by trivial) (Φ := fun _ => True) (fun _ _ => trivial) (.inl rfl) (v := .tup 2 _) rfl (O' := (7, ⟨5, 1, _, true, .bs _⟩) :: _) rfl (fun h7 => ?_))
   refine So.q rfl rfl (V.mv (v := .tup 2 _) rfl ?_)
   refine So.q rfl rfl (V.ext rfl (lk rfl) (v := .own 7 0 _) rfl ?_)
   refine So.q rfl rfl (V.ext rfl (lk rfl) (v := .p (.v (.int .i64 _))) rfl ?_)
   refine So.q rfl rfl (V.as (v := .own 7 0 _) rfl ?_)
   refine So.q rfl rfl (V.as (v := .p (.v (.int .i64 _))) rfl ?_)
   refine So.e ?_
   show HT _ _ _ _ _
   refine HT.frzS 7 rfl rfl rfl ?_
   show HT _ _ _ _ _
   refine R.cut (True) [] [] [6, 7, 9] [3, 4] (fr0 := [(6, .ptr 3 0), (7, .ptr 4 0), (9, .p (.v (.bool true)))]) (O0 := [(3, ⟨_, _, _, _, .rows _⟩), (4, ⟨_, _, _, _, .rows _⟩)]) rfl rfl ?_ (fun hphi => ?_)
   ·refine HT.seq ?_
    refine R.tell [(12, .p (.bs (putF g2 ep2 fr2 kd2 bd2 sn2 cf2 mb2)))] [] [4, 5, 6, 7, 8, 9, 10, 11, 13] [1, 2, 3, 4] (fr0 := [(4, .ptr 1 0), (5, .ptr 2 0), (6, .ptr 3 0), (7, .ptr 4 0), (8, .p (.v (.bool false))), (9, .p (.v (.bool true))), (10, .p (.bs _)), (11, .p (.v (.int .i64 _))), (13, .p (.v (.int .i64 _)))]) (O0 := [(1, ⟨_, _, _, _, .rows _⟩), (2, ⟨_, _, _, _, .rows _⟩), (3, ⟨_, _, _, _, .rows _⟩), (4, ⟨_, _, _, _, .rows _⟩)]) rfl rfl ⟨⟨⟨le_bs (by first | rfl | exact take_full _), trivial⟩, ⟨.refl _, rfl⟩, ⟨.refl _, rfl⟩, ⟨.refl _, rfl⟩, ⟨.refl _, rfl⟩, ⟨.refl _, trivial⟩, ⟨.refl _, trivial⟩, ⟨.refl _, trivial⟩, ⟨.refl _, trivial⟩, ⟨.refl _, trivial⟩, trivial⟩, ⟨⟨_, rfl, .inl rfl, trivial⟩, ⟨_, rfl, .inl rfl, trivial⟩, ⟨_, rfl, .inl rfl, trivial⟩, ⟨_, rfl, .inl rfl, trivial⟩, trivial⟩⟩ ?_
    show HT _ _ _ _ _
    refine HT.region S_lawBack_ok ?_
    refine So.q rfl rfl (V.mv (v := .p (.v (.int .i64 _))) rfl ?_)
    refine So.q rfl rfl (V.bin (a := (.v (.int .i64 _))) (b := (.v (.int .i64 (0)))) (r := .v (.bool _)) rfl rfl rfl trivial ?_)
    refine So.e ?_
    show HT _ _ _ _ _
    refine R.cond rfl rfl (fun h8 => ?_) (fun h8 => ?_)
    ·have h8 := of_decide_eq_true h8
     refine HT.seq ?_
     refine HT.region S_lawBack_ok ?_
     have hm := put_good (by assumption)
     obtain ⟨hg0, hg1, hg2, hg3, hg4, hg5, hg6, hg7, hg8⟩ := msg_get hm
     refine So.q rfl rfl (V.mv (v := .p (.bs _)) rfl ?_)
     refine So.n (lk rfl) (A.call0 [.p (.bs _)] 5 rfl rfl rfl rfl ⟨trivial, trivial⟩ trivial _ ⟨.refl _, trivial⟩ trivial (by trivial) (Φ := fun _ => True) (fun _ _ => trivial) (.inl rfl) (v := .tup 2 _) rfl (O' := _) rfl (fun h9 => ?_))
     refine So.q rfl rfl (V.mv (v := .tup 2 _) rfl ?_)
     refine So.q rfl rfl (V.ext rfl (lk rfl) (v := .agg 8 _) rfl ?_)
     refine So.q rfl rfl (V.ext rfl (lk rfl) (v := .p (.v (.int .i64 _))) rfl ?_)
     refine So.n (lk rfl) (A.alloc 5 1 ty26 rfl trivial (f := fun j => ([.v (.slice none 0 0), .v (.int .i64 0), .v (.int .i64 0), .v (.int .i64 0), .v (.slice none 0 0), .v (.slice none 0 0), .v (.slice none 0 0), .v (.slice none 0 0)] : List PV).getD j (.v undef)) (fun j hj => by match j, hj with | 0, _ => rfl | 1, _ => rfl | 2, _ => rfl | 3, _ => rfl | 4, _ => rfl | 5, _ => rfl | 6, _ => rfl | 7, _ => rfl) ?_)
     refine So.s (A.stoAg ty26 rfl (n := 8) rfl (by decide) (by intro j hj; first | rfl | trivial | (match j, hj with | 0, _ => (first | trivial | rfl) | 1, _ => (first | trivial | rfl) | 2, _ => (first | trivial | rfl) | 3, _ => (first | trivial | rfl) | 4, _ => (first | trivial | rfl) | 5, _ => (first | trivial | rfl) | 6, _ => (first | trivial | rfl) | 7, _ => (first | trivial | rfl))) rfl rfl rfl ?_)
     refine So.q rfl rfl (V.as (v := .p (.v (.int .i64 _))) rfl ?_)
     refine So.e ?_
     show HT _ _ _ _ _
     refine HT.seq ?_
     refine HT.drawn S_lawBack_ok S_lawBack_det mixed (by kernel_rfl) ?_
     refine Sd.n (lk rfl) (V.mv (v := .p (.v (.int .i64 _))) rfl ?_)
     refine Sd.n (lk rfl) (V.bin (a := (.v (.int .i64 _))) (b := (.v (.int .i64 (0)))) (r := .v (.bool _)) rfl rfl rfl trivial ?_)
     refine Sd.n (lk rfl) (V.mv (v := .p (.v (.bool _))) rfl ?_)
     refine Sd.gd rfl rfl (lk rfl) (lk rfl) (fun h10 => ?_) (fun h10 => ?_)
     ·have h10 := of_decide_eq_true (bnF h10)
      refine V.ldPtrA ty26 rfl rfl rfl rfl (lk rfl) ?_
      refine Sd.gy rfl rfl (lk rfl) (lk rfl) ?_
      refine V.ldPtrA ty26 rfl rfl rfl rfl (lk rfl) ?_
      refine Sd.gy rfl rfl (lk rfl) (lk rfl) ?_
      refine V.call [.agg 8 _, .agg 8 _] 6 rfl rfl rfl rfl ⟨trivial, trivial, trivial⟩ trivial (gmG (putF g ep fr kd bd sn cf mb), gmP (putF g ep fr kd bd sn cf mb), gmF (putF g ep fr kd bd sn cf mb), gmK (putF g ep fr kd bd sn cf mb), gmB (putF g ep fr kd bd sn cf mb), gmS (putF g ep fr kd bd sn cf mb), gmC (putF g ep fr kd bd sn cf mb), gmM (putF g ep fr kd bd sn cf mb), g, ep, fr, kd, bd, sn, cf, mb) ⟨le_agg (fun j hj => by match j, hj with | 0, _ => rfl | 1, _ => rfl | 2, _ => rfl | 3, _ => rfl | 4, _ => rfl | 5, _ => rfl | 6, _ => rfl | 7, _ => rfl), le_agg (fun j hj => by match j, hj with | 0, _ => rfl | 1, _ => rfl | 2, _ => rfl | 3, _ => rfl | 4, _ => rfl | 5, _ => rfl | 6, _ => rfl | 7, _ => rfl), trivial⟩ trivial (by trivial) (Φ := fun _ => True) (fun _ _ => trivial) (.inl ⟨trivial, trivial, trivial⟩) (v := .p (.v (.bool _))) rfl (fun h11 => ?_)
      refine Sd.gy rfl rfl (lk rfl) (lk rfl) ?_
      refine V.not rfl ?_
      refine Sd.n (lk rfl) (V.pkFalse (u := .p (.v (.bool _))) rfl rfl ?_)
      refine Sd.n (lk rfl) (V.mv (v := .p (.v (.bool _))) rfl ?_)
      refine Sd.gd rfl rfl (lk rfl) (lk rfl) (fun h12 => ?_) (fun h12 => ?_)
      ·have h12 := of_decide_eq_true (bnF h12)
       refine V.mv (v := .p (.v (.int .i64 _))) rfl ?_
       refine Sd.gy rfl rfl (lk rfl) (lk rfl) ?_
       refine V.bin (a := (.v (.int .i64 _))) (b := (.v (.int .i64 (0)))) (r := .v (.bool _)) rfl rfl rfl trivial ?_
       refine Sd.gy rfl rfl (lk rfl) (lk rfl) ?_
       refine V.mv (v := .p (.v (.bool _))) rfl ?_
       refine Sd.gd rfl rfl (lk rfl) (lk rfl) (fun h13 => ?_) (fun h13 => ?_)
       ·have h13 := of_decide_eq_true h13
        refine V.mv (v := .p (.bs _)) rfl ?_
        refine Sd.gy rfl rfl (lk rfl) (lk rfl) ?_
        refine V.cvBs ty9 rfl rfl ?_
        refine Sd.gy rfl rfl (lk rfl) (lk rfl) ?_
        refine V.mv (v := .p (.bs _)) rfl ?_
        refine Sd.gy rfl rfl (lk rfl) (lk rfl) ?_
        refine V.cvBs ty9 rfl rfl ?_
        refine Sd.gy rfl rfl (lk rfl) (lk rfl) ?_
        refine V.bin (a := (.str _)) (b := (.str _)) (r := .v (.bool _)) rfl rfl rfl trivial ?_
        refine Sd.gy rfl rfl (lk rfl) (lk rfl) ?_
        refine V.ldPtrA ty26 rfl rfl rfl rfl (lk rfl) ?_
        refine Sd.gy rfl rfl (lk rfl) (lk rfl) ?_
        refine V.ldPtrA ty26 rfl rfl rfl rfl (lk rfl) ?_
        refine Sd.gy rfl rfl (lk rfl) (lk rfl) ?_
        refine V.call [.agg 8 _, .agg 8 _] 6 rfl rfl rfl rfl ⟨trivial, trivial, trivial⟩ trivial (g, ep, fr, kd, bd, sn, cf, mb, g2, ep2, fr2, kd2, bd2, sn2, cf2, mb2) ⟨le_agg (fun j hj => by match j, hj with | 0, _ => rfl | 1, _ => rfl | 2, _ => rfl | 3, _ => rfl | 4, _ => rfl | 5, _ => rfl | 6, _ => rfl | 7, _ => rfl), le_agg (fun j hj => by match j, hj with | 0, _ => rfl | 1, _ => rfl | 2, _ => rfl | 3, _ => rfl | 4, _ => rfl | 5, _ => rfl | 6, _ => rfl | 7, _ => rfl), trivial⟩ trivial (by trivial) (Φ := fun _ => True) (fun _ _ => trivial) (.inl ⟨trivial, trivial, trivial⟩) (v := .p (.v (.bool _))) rfl (fun h14 => ?_)
        refine Sd.gy rfl rfl (lk rfl) (lk rfl) ?_
        refine V.neBool ty4 rfl rfl ?_
        refine Sd.gy rfl rfl (lk rfl) (lk rfl) ?_
        refine V.pkTrue (u := .p (.v (.bool _))) rfl rfl ?_
        refine Sd.n (lk rfl) (V.pkFalse (u := .p (.v (.bool _))) rfl rfl ?_)
        refine Sd.e ?_
        show HT _ _ _ _ _
        refine R.cond rfl rfl (fun h15 => ?_) (fun h15 => ?_)
        ·exact bne_no (put_same hm (put_good (by assumption))) h15
        ·have h15 := eq_of_beq (bnF h15)
         refine HT.skip ?_
         exact ⟨by first | rfl | omega | (simp; done) | (simp; omega), ⟨⟨⟨.refl _, rfl⟩, ⟨.refl _, rfl⟩, ⟨.refl _, trivial⟩, trivial⟩, ⟨⟨_, rfl, .inl rfl, trivial⟩, ⟨_, rfl, .inl rfl, trivial⟩, trivial⟩⟩⟩
       ·have h13 := of_decide_eq_false h13
        refine Sd.gn (b := false) rfl rfl rfl (lk rfl) (lk rfl) ?_
        refine Sd.gn (b := false) rfl rfl rfl (lk rfl) (lk rfl) ?_
        refine Sd.gn (b := false) rfl rfl rfl (lk rfl) (lk rfl) ?_
        refine Sd.gn (b := false) rfl rfl rfl (lk rfl) (lk rfl) ?_
        refine Sd.gn (b := false) rfl rfl rfl (lk rfl) (lk rfl) ?_
        refine Sd.gn (b := false) rfl rfl rfl (lk rfl) (lk rfl) ?_
        refine Sd.gn (b := false) rfl rfl rfl (lk rfl) (lk rfl) ?_
        refine Sd.gn (b := false) rfl rfl rfl (lk rfl) (lk rfl) ?_
        refine Sd.gy rfl rfl (lk rfl) (lk rfl) ?_
        refine V.pkFalse (u := .p (.v (.bool false))) rfl rfl ?_
        refine Sd.n (lk rfl) (V.pkFalse (u := .p (.v (.bool false))) rfl rfl ?_)
        refine Sd.e ?_
        show HT _ _ _ _ _
        refine R.condF rfl ?_
        refine HT.skip ?_
        exact ⟨by first | rfl | omega | (simp; done) | (simp; omega), ⟨⟨⟨.refl _, rfl⟩, ⟨.refl _, rfl⟩, ⟨.refl _, trivial⟩, trivial⟩, ⟨⟨_, rfl, .inl rfl, trivial⟩, ⟨_, rfl, .inl rfl, trivial⟩, trivial⟩⟩⟩
      ·have h12 := of_decide_eq_false (bnT h12)
       first | exact absurd (by exact ⟨⟨hg1, hg2, hg3, hg4, hg5⟩, hg6, hg7, hg8⟩) h12 | exact absurd h12 (by exact ⟨⟨hg1, hg2, hg3, hg4, hg5⟩, hg6, hg7, hg8⟩)
     ·have h10 := of_decide_eq_false (bnT h10)
      first | exact absurd (by exact hg0) h10 | exact absurd h10 (by exact hg0)
    ·have h8 := of_decide_eq_false h8
     refine HT.skip ?_
     exact ⟨by first | rfl | omega | (simp; done) | (simp; omega), ⟨⟨⟨.refl _, rfl⟩, ⟨.refl _, rfl⟩, ⟨.refl _, trivial⟩, trivial⟩, ⟨⟨_, rfl, .inl rfl, trivial⟩, ⟨_, rfl, .inl rfl, trivial⟩, trivial⟩⟩⟩
   ·refine HT.seq ?_
    refine HT.region S_lawBack_ok ?_
    refine So.q rfl rfl (V.ldPtrA ty35 rfl rfl rfl rfl (lk rfl) ?_)
    refine So.n (lk rfl) (A.call0 [.agg 5 _] 5 rfl rfl rfl rfl ⟨trivial, trivial⟩ trivial (g3, ep3, fr3, gn3, cl3) ⟨le_agg (fun j hj => by match j, hj with | 0, _ => rfl | 1, _ => rfl | 2, _ => rfl | 3, _ => rfl | 4, _ => rfl), trivial⟩ trivial (by trivial) (Φ := fun _ => True) (fun _ _ => trivial) (.inl rfl) (v := .tup 2 _) rfl (O' := (7, ⟨5, 1, _, true, .bs _⟩) :: _) rfl (fun h16 => ?_))
    refine So.q rfl rfl (V.mv (v := .tup 2 _) rfl ?_)
    refine So.q rfl rfl (V.ext rfl (lk rfl) (v := .own 7 0 _) rfl ?_)
    refine So.q rfl rfl (V.ext rfl (lk rfl) (v := .p (.v (.int .i64 _))) rfl ?_)
    refine So.q rfl rfl (V.as (v := .own 7 0 _) rfl ?_)
    refine So.q rfl rfl (V.as (v := .p (.v (.int .i64 _))) rfl ?_)
    refine So.e ?_
    show HT _ _ _ _ _
    refine HT.frzS 7 rfl rfl rfl ?_
    show HT _ _ _ _ _
    refine HT.seq ?_
    refine R.tell [(16, .p (.bs (sealF g3 ep3 fr3 gn3 cl3)))] [] [6, 7, 9, 17] [3, 4] (fr0 := [(6, .ptr 3 0), (7, .ptr 4 0), (9, .p (.v (.bool true))), (17, .p (.v (.int .i64 _)))]) (O0 := [(3, ⟨_, _, _, _, .rows _⟩), (4, ⟨_, _, _, _, .rows _⟩)]) rfl rfl ⟨⟨⟨le_bs (by first | rfl | exact take_full _), trivial⟩, ⟨.refl _, rfl⟩, ⟨.refl _, rfl⟩, ⟨.refl _, trivial⟩, ⟨.refl _, trivial⟩, trivial⟩, ⟨⟨_, rfl, .inl rfl, trivial⟩, ⟨_, rfl, .inl rfl, trivial⟩, trivial⟩⟩ ?_
    show HT _ _ _ _ _
    refine HT.region S_lawBack_ok ?_
    refine So.q rfl rfl (V.ldPtrA ty35 rfl rfl rfl rfl (lk rfl) ?_)
    refine So.n (lk rfl) (A.call0 [.agg 5 _] 5 rfl rfl rfl rfl ⟨trivial, trivial⟩ trivial (g4, ep4, fr4, gn4, cl4) ⟨le_agg (fun j hj => by match j, hj with | 0, _ => rfl | 1, _ => rfl | 2, _ => rfl | 3, _ => rfl | 4, _ => rfl), trivial⟩ trivial (by trivial) (Φ := fun _ => True) (fun _ _ => trivial) (.inl rfl) (v := .tup 2 _) rfl (O' := (7, ⟨5, 1, _, true, .bs _⟩) :: _) rfl (fun h17 => ?_))
    refine So.q rfl rfl (V.mv (v := .tup 2 _) rfl ?_)
    refine So.q rfl rfl (V.ext rfl (lk rfl) (v := .own 7 0 _) rfl ?_)
    refine So.q rfl rfl (V.ext rfl (lk rfl) (v := .p (.v (.int .i64 _))) rfl ?_)
    refine So.q rfl rfl (V.as (v := .own 7 0 _) rfl ?_)
    refine So.q rfl rfl (V.as (v := .p (.v (.int .i64 _))) rfl ?_)
    refine So.e ?_
    show HT _ _ _ _ _
    refine HT.frzS 7 rfl rfl rfl ?_
    show HT _ _ _ _ _
    refine HT.seq ?_
    refine HT.seq ?_
    refine R.tell [(18, .p (.bs (sealF g4 ep4 fr4 gn4 cl4)))] [] [6, 7, 9, 16, 17, 19] [3, 4] (fr0 := [(6, .ptr 3 0), (7, .ptr 4 0), (9, .p (.v (.bool true))), (16, .p (.bs _)), (17, .p (.v (.int .i64 _))), (19, .p (.v (.int .i64 _)))]) (O0 := [(3, ⟨_, _, _, _, .rows _⟩), (4, ⟨_, _, _, _, .rows _⟩)]) rfl rfl ⟨⟨⟨le_bs (by first | rfl | exact take_full _), trivial⟩, ⟨.refl _, rfl⟩, ⟨.refl _, rfl⟩, ⟨.refl _, trivial⟩, ⟨.refl _, trivial⟩, ⟨.refl _, trivial⟩, ⟨.refl _, trivial⟩, trivial⟩, ⟨⟨_, rfl, .inl rfl, trivial⟩, ⟨_, rfl, .inl rfl, trivial⟩, trivial⟩⟩ ?_
    show HT _ _ _ _ _
    refine HT.region S_lawBack_ok ?_
    refine So.q rfl rfl (V.mv (v := .p (.v (.int .i64 _))) rfl ?_)
    refine So.q rfl rfl (V.bin (a := (.v (.int .i64 _))) (b := (.v (.int .i64 (0)))) (r := .v (.bool _)) rfl rfl rfl trivial ?_)
    refine So.e ?_
    show HT _ _ _ _ _
    refine R.cond rfl rfl (fun h18 => ?_) (fun h18 => ?_)
    ·have h18 := of_decide_eq_false (bnT h18)
     refine HT.seq ?_
     refine HT.region S_lawBack_ok ?_
     have hno := seal_bad (by assumption)
     refine So.q rfl rfl (V.mv (v := .p (.v (.bool true))) rfl ?_)
     refine So.q rfl rfl (V.mv (v := .p (.v (.bool true))) rfl ?_)
     refine So.gy rfl rfl (lk rfl) (lk rfl) ?_
     refine A.v rfl (V.mv (v := .p (.bs _)) rfl ?_)
     refine So.gy rfl rfl (lk rfl) (lk rfl) ?_
     refine A.v rfl (V.len ty22 (v := .p (.bs _)) rfl rfl ?_)
     refine So.gy rfl rfl (lk rfl) (lk rfl) ?_
     refine A.v rfl (V.bin (a := (.v (.int .i64 _))) (b := (.v (.int .i64 (0)))) (r := .v (.bool _)) rfl rfl rfl trivial ?_)
     refine So.q rfl rfl (V.pkTrue (u := .p (.v (.bool _))) rfl rfl ?_)
     refine So.q rfl rfl (V.as (v := .p (.v (.bool _))) rfl ?_)
     refine So.e ?_
     show HT _ _ _ _ _
     refine HT.ret ?_
     exact ret_ok (sg []) h rfl rfl rfl trivial ⟨trivial, trivial⟩ rfl ⟨⟨⟨le_bool (by first | rfl | exact decide_eq_true rfl | (rw [hno.2]; rfl) | exact beq_yes (seal_same hs (seal_good (by assumption)))), trivial⟩, trivial⟩, trivial⟩
    ·have h18 := of_decide_eq_true (bnF h18)
     refine HT.skip ?_
     show HT _ _ _ _ _
     refine HT.seq ?_
     refine HT.region S_lawBack_ok ?_
     have hs := seal_good (by assumption)
     obtain ⟨hq0, hq1, hq2, hq3, hq4, hq5⟩ := seal_get hs
     refine So.q rfl rfl (V.mv (v := .p (.bs _)) rfl ?_)
     refine So.n (lk rfl) (A.call0 [.p (.bs _)] 5 rfl rfl rfl rfl ⟨trivial, trivial⟩ trivial _ ⟨.refl _, trivial⟩ trivial (by trivial) (Φ := fun _ => True) (fun _ _ => trivial) (.inl rfl) (v := .tup 2 _) rfl (O' := _) rfl (fun h19 => ?_))
     refine So.q rfl rfl (V.mv (v := .tup 2 _) rfl ?_)
     refine So.q rfl rfl (V.ext rfl (lk rfl) (v := .agg 5 _) rfl ?_)
     refine So.q rfl rfl (V.ext rfl (lk rfl) (v := .p (.v (.int .i64 _))) rfl ?_)
     refine So.n (lk rfl) (A.alloc 5 1 ty35 rfl trivial (f := fun j => ([.v (.slice none 0 0), .v (.int .i64 0), .v (.int .i64 0), .v (.int .i64 0), .v (.slice none 0 0)] : List PV).getD j (.v undef)) (fun j hj => by match j, hj with | 0, _ => rfl | 1, _ => rfl | 2, _ => rfl | 3, _ => rfl | 4, _ => rfl) ?_)
     refine So.s (A.stoAg ty35 rfl (n := 5) rfl (by decide) (by intro j hj; first | rfl | trivial | (match j, hj with | 0, _ => (first | trivial | rfl) | 1, _ => (first | trivial | rfl) | 2, _ => (first | trivial | rfl) | 3, _ => (first | trivial | rfl) | 4, _ => (first | trivial | rfl))) rfl rfl rfl ?_)
     refine So.q rfl rfl (V.as (v := .p (.v (.int .i64 _))) rfl ?_)
     refine So.e ?_
     show HT _ _ _ _ _
     refine HT.seq ?_
     refine HT.drawn S_lawBack_ok S_lawBack_det mixed (by kernel_rfl) ?_
     refine Sd.n (lk rfl) (V.mv (v := .p (.v (.bool true))) rfl ?_)
     refine Sd.n (lk rfl) (V.mv (v := .p (.v (.bool true))) rfl ?_)
     refine Sd.gy rfl rfl (lk rfl) (lk rfl) ?_
     refine V.mv (v := .p (.v (.int .i64 _))) rfl ?_
     refine Sd.gy rfl rfl (lk rfl) (lk rfl) ?_
     refine V.bin (a := (.v (.int .i64 _))) (b := (.v (.int .i64 (0)))) (r := .v (.bool _)) rfl rfl rfl trivial ?_
     refine Sd.n (lk rfl) (V.pkTrue (u := .p (.v (.bool _))) rfl rfl ?_)
     refine Sd.n (lk rfl) (V.mv (v := .p (.v (.bool _))) rfl ?_)
     refine Sd.gd rfl rfl (lk rfl) (lk rfl) (fun h20 => ?_) (fun h20 => ?_)
     ·have h20 := of_decide_eq_true h20
      refine V.ldPtrA ty35 rfl rfl rfl rfl (lk rfl) ?_
      refine Sd.gy rfl rfl (lk rfl) (lk rfl) ?_
      refine V.ldPtrA ty35 rfl rfl rfl rfl (lk rfl) ?_
      refine Sd.gy rfl rfl (lk rfl) (lk rfl) ?_
      refine V.call [.agg 5 _, .agg 5 _] 6 rfl rfl rfl rfl ⟨trivial, trivial, trivial⟩ trivial (gs1 (sealF g3 ep3 fr3 gn3 cl3), gs2 (sealF g3 ep3 fr3 gn3 cl3), gs3 (sealF g3 ep3 fr3 gn3 cl3), gs4 (sealF g3 ep3 fr3 gn3 cl3), gs5 (sealF g3 ep3 fr3 gn3 cl3), g3, ep3, fr3, gn3, cl3) ⟨le_agg (fun j hj => by match j, hj with | 0, _ => rfl | 1, _ => rfl | 2, _ => rfl | 3, _ => rfl | 4, _ => rfl), le_agg (fun j hj => by match j, hj with | 0, _ => rfl | 1, _ => rfl | 2, _ => rfl | 3, _ => rfl | 4, _ => rfl), trivial⟩ trivial (by trivial) (Φ := fun _ => True) (fun _ _ => trivial) (.inl ⟨trivial, trivial, trivial⟩) (v := .p (.v (.bool _))) rfl (fun h21 => ?_)
      refine Sd.n (lk rfl) (V.pkTrue (u := .p (.v (.bool _))) rfl rfl ?_)
      refine Sd.n (lk rfl) (V.mv (v := .p (.v (.bool _))) rfl ?_)
      refine Sd.gd rfl rfl (lk rfl) (lk rfl) (fun h22 => ?_) (fun h22 => ?_)
      ·have h22 := of_decide_eq_true h22
       refine V.mv (v := .p (.v (.int .i64 _))) rfl ?_
       refine Sd.gy rfl rfl (lk rfl) (lk rfl) ?_
       refine V.bin (a := (.v (.int .i64 _))) (b := (.v (.int .i64 (0)))) (r := .v (.bool _)) rfl rfl rfl trivial ?_
       refine Sd.gy rfl rfl (lk rfl) (lk rfl) ?_
       refine V.mv (v := .p (.v (.bool _))) rfl ?_
       refine Sd.gd rfl rfl (lk rfl) (lk rfl) (fun h23 => ?_) (fun h23 => ?_)
       ·have h23 := of_decide_eq_true (bnF h23)
        refine V.mv (v := .p (.bs _)) rfl ?_
        refine Sd.gy rfl rfl (lk rfl) (lk rfl) ?_
        refine V.cvBs ty9 rfl rfl ?_
        refine Sd.gy rfl rfl (lk rfl) (lk rfl) ?_
        refine V.mv (v := .p (.bs _)) rfl ?_
        refine Sd.gy rfl rfl (lk rfl) (lk rfl) ?_
        refine V.cvBs ty9 rfl rfl ?_
        refine Sd.gy rfl rfl (lk rfl) (lk rfl) ?_
        refine V.bin (a := (.str _)) (b := (.str _)) (r := .v (.bool _)) rfl rfl rfl trivial ?_
        refine Sd.gy rfl rfl (lk rfl) (lk rfl) ?_
        refine V.ldPtrA ty35 rfl rfl rfl rfl (lk rfl) ?_
        refine Sd.gy rfl rfl (lk rfl) (lk rfl) ?_
        refine V.ldPtrA ty35 rfl rfl rfl rfl (lk rfl) ?_
        refine Sd.gy rfl rfl (lk rfl) (lk rfl) ?_
        refine V.call [.agg 5 _, .agg 5 _] 6 rfl rfl rfl rfl ⟨trivial, trivial, trivial⟩ trivial (g3, ep3, fr3, gn3, cl3, g4, ep4, fr4, gn4, cl4) ⟨le_agg (fun j hj => by match j, hj with | 0, _ => rfl | 1, _ => rfl | 2, _ => rfl | 3, _ => rfl | 4, _ => rfl), le_agg (fun j hj => by match j, hj with | 0, _ => rfl | 1, _ => rfl | 2, _ => rfl | 3, _ => rfl | 4, _ => rfl), trivial⟩ trivial (by trivial) (Φ := fun _ => True) (fun _ _ => trivial) (.inl ⟨trivial, trivial, trivial⟩) (v := .p (.v (.bool _))) rfl (fun h24 => ?_)
        refine Sd.gy rfl rfl (lk rfl) (lk rfl) ?_
        refine V.eqBool ty4 rfl rfl ?_
        refine Sd.gy rfl rfl (lk rfl) (lk rfl) ?_
        refine V.pkFalse (u := .p (.v (.bool _))) rfl rfl ?_
        refine Sd.n (lk rfl) (V.pkTrue (u := .p (.v (.bool _))) rfl rfl ?_)
        refine Sd.n (lk rfl) (V.as (v := .p (.v (.bool _))) rfl ?_)
        refine Sd.e ?_
        show HT _ _ _ _ _
        refine HT.ret ?_
        exact ret_ok (sg []) h rfl rfl rfl trivial ⟨trivial, trivial⟩ rfl ⟨⟨⟨le_bool (by first | rfl | exact decide_eq_true rfl | (rw [hno.2]; rfl) | exact beq_yes (seal_same hs (seal_good (by assumption)))), trivial⟩, trivial⟩, trivial⟩
       ·have h23 := of_decide_eq_false (bnT h23)
        refine Sd.gn (b := true) rfl rfl rfl (lk rfl) (lk rfl) ?_
        refine Sd.gn (b := true) rfl rfl rfl (lk rfl) (lk rfl) ?_
        refine Sd.gn (b := true) rfl rfl rfl (lk rfl) (lk rfl) ?_
        refine Sd.gn (b := true) rfl rfl rfl (lk rfl) (lk rfl) ?_
        refine Sd.gn (b := true) rfl rfl rfl (lk rfl) (lk rfl) ?_
        refine Sd.gn (b := true) rfl rfl rfl (lk rfl) (lk rfl) ?_
        refine Sd.gn (b := true) rfl rfl rfl (lk rfl) (lk rfl) ?_
        refine Sd.gn (b := true) rfl rfl rfl (lk rfl) (lk rfl) ?_
        refine Sd.gy rfl rfl (lk rfl) (lk rfl) ?_
        refine V.pkTrue (u := .p (.v (.bool true))) rfl rfl ?_
        refine Sd.n (lk rfl) (V.pkTrue (u := .p (.v (.bool true))) rfl rfl ?_)
        refine Sd.n (lk rfl) (V.as (v := .p (.v (.bool true))) rfl ?_)
        refine Sd.e ?_
        show HT _ _ _ _ _
        refine HT.ret ?_
        exact ret_ok (sg []) h rfl rfl rfl trivial ⟨trivial, trivial⟩ rfl ⟨⟨⟨le_bool (by first | rfl | exact decide_eq_true rfl | (rw [hno.2]; rfl) | exact beq_yes (seal_same hs (seal_good (by assumption)))), trivial⟩, trivial⟩, trivial⟩
      ·have h22 := of_decide_eq_false h22
       first | exact absurd (by exact ⟨hq1, hq2, hq3, hq4, hq5⟩) h22 | exact absurd h22 (by exact ⟨hq1, hq2, hq3, hq4, hq5⟩)
     ·have h20 := of_decide_eq_false h20
      first | exact absurd (by exact hq0) h20 | exact absurd h20 (by exact hq0)
 ·have h3 := great_t h3
  refine So.gn (b := true) rfl rfl rfl (lk rfl) (lk rfl) ?_
  refine So.gn (b := true) rfl rfl rfl (lk rfl) (lk rfl) ?_
  refine So.gn (b := true) rfl rfl rfl (lk rfl) (lk rfl) ?_
  refine So.gn (b := true) rfl rfl rfl (lk rfl) (lk rfl) ?_
  refine So.gn (b := true) rfl rfl rfl (lk rfl) (lk rfl) ?_
  refine So.gn (b := true) rfl rfl rfl (lk rfl) (lk rfl) ?_
  refine So.gn (b := true) rfl rfl rfl (lk rfl) (lk rfl) ?_
  refine So.gn (b := true) rfl rfl rfl (lk rfl) (lk rfl) ?_
  refine So.gn (b := true) rfl rfl rfl (lk rfl) (lk rfl) ?_
  refine So.gn (b := true) rfl rfl rfl (lk rfl) (lk rfl) ?_
  refine So.gn (b := true) rfl rfl rfl (lk rfl) (lk rfl) ?_
  refine So.gn (b := true) rfl rfl rfl (lk rfl) (lk rfl) ?_
  refine So.gn (b := true) rfl rfl rfl (lk rfl) (lk rfl) ?_
  refine So.gn (b := true) rfl rfl rfl (lk rfl) (lk rfl) ?_
  refine So.gn (b := true) rfl rfl rfl (lk rfl) (lk rfl) ?_
  refine So.gn (b := true) rfl rfl rfl (lk rfl) (lk rfl) ?_
  refine So.gn (b := true) rfl rfl rfl (lk rfl) (lk rfl) ?_
  refine So.q rfl rfl (V.pkTrue (u := .p (.v (.bool true))) rfl rfl ?_)
  refine So.e ?_
  show HT _ _ _ _ _
  refine R.condT rfl ?_
  refine HT.seq ?_
  refine HT.region S_lawBack_ok ?_
  refine So.q rfl rfl (V.mv (v := .p (.v (.bool true))) rfl ?_)
  refine So.q rfl rfl (V.as (v := .p (.v (.bool true))) rfl ?_)
  refine So.e ?_
  show HT _ _ _ _ _
  refine HT.ret ?_
  exact ret_ok (sg []) h rfl rfl rfl trivial ⟨trivial, trivial⟩ rfl ⟨⟨⟨le_bool (by first | rfl | exact decide_eq_true rfl | (rw [hno.2]; rfl) | exact beq_yes (seal_same hs (seal_good (by assumption)))), trivial⟩, trivial⟩, trivial⟩
end Go.Vh
