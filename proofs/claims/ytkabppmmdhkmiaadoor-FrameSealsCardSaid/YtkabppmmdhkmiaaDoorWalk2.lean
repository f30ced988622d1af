/- What is proved: each function of the seat's program does what its contract says, wherever it is called; no condition. -/
import Derived.Test.YtkabppmmdhkmiaaDoorWalk0
import Derived.Test.YtkabppmmdhkmiaaDoorWalk1
set_option linter.unusedVariables false
set_option linter.unusedSimpArgs false
set_option linter.unusedVariables false
set_option linter.unusedSimpArgs false
namespace Go.Vh
open Go Go.Vc Go.Proofs Go.Vw
def rtext_4Sp : Sp := ⟨[1, 2, 4], mkE (α := (List UInt8) × Int × Int × (Nat → PV) × (Nat → PV)) (fun (b, p, e, u, f) => [.ptr 1 (0), .own 3 (0) (4)]) (fun (b, p, e, u, f) => [(1, ⟨63, 1, 3, true, .rows (fun j => ([.bs b, .v (.int .i64 p), .v (.int .i64 e)] : List PV).getD j (.v undef))⟩), (2, ⟨63, 1, 3, true, .rows (fun j => if j = 0 then .bs [] else u j)⟩), (4, ⟨26, 1, 8, true, .rows (fun j => if j = 5 then .bs ([]) else if j = 6 then .bs ([]) else if j = 7 then .bs ([]) else f j)⟩), (3, ⟨67, 1, 4, true, .cells [.ptr 2 (0), .ptr 4 (5), .ptr 4 (6), .ptr 4 (7)]⟩)]) (fun (b, p, e, u, f) => True) (fun (b, p, e, u, f) => []) (fun (b, p, e, u, f) => [(1, ⟨63, 1, 3, true, .rows (fun j => ([.bs b, .v (.int .i64 (rd4 b p e).2.1), .v (.int .i64 (rd4 b p e).2.2)] : List PV).getD j (.v undef))⟩), (2, ⟨63, 1, 3, true, .rows (fun j => if j = 0 then .bs (rdT b p e).1 else u j)⟩), (4, ⟨26, 1, 8, true, .rows (fun j => if j = 5 then .bs ((rd2 b p e).1) else if j = 6 then .bs ((rd3 b p e).1) else if j = 7 then .bs ((rd4 b p e).1) else f j)⟩)])⟩
def S_rtext_4 : FuncId → Option Sp := fun f => if f = 49 then some getTextSp else none
theorem S_rtext_4_ok : ∀ f s, S_rtext_4 f = some s → FOK Tryd.prog gl f s := fun f s h => by
 unfold S_rtext_4 at h
 split at h
 ·rename_i e; cases h; subst e; exact getText_ok
 cases h
theorem S_rtext_4_det : ∀ f s, S_rtext_4 f = some s → SpDet s.sp := fun f s h => by
 unfold S_rtext_4 at h
 split at h
 ·cases h; exact mkE_det _ _ _ _ _
 cases h
set_option maxHeartbeats 4000000 in
set_option maxRecDepth 20000 in
theorem rtext_4_ok : FOK Tryd.prog gl 34 rtext_4Sp := by
 refine FOK.ofE (tyOf_ok Tryd.prog) (slots := []) (nt := 39) Tryd.func34 rfl rfl rfl rfl (by decide) 2 (fun ⟨_, _, _, _, _⟩ => rfl) (by decide) (fun ⟨_, _, _, _, _⟩ => ⟨rfl, rfl, trivial⟩) ?_
 rintro ⟨b, p, e, u, f⟩ kk hlen hpre h
 have hl1 : _ ≤ 9223372036854775807 := hlen.2.1
 replace hpre : True := hpre
 show HT (cx Tryd.prog 39 (tyOf Tryd.prog) gl [1, 2, 4]) _ [(0, .ptr 1 (0)), (1, .own 3 (0) (4))] [(1, ⟨63, 1, 3, true, .rows (fun j => ([.bs b, .v (.int .i64 p), .v (.int .i64 e)] : List PV).getD j (.v undef))⟩), (2, ⟨63, 1, 3, true, .rows (fun j => if j = 0 then .bs [] else u j)⟩), (4, ⟨26, 1, 8, true, .rows (fun j => if j = 5 then .bs ([]) else if j = 6 then .bs ([]) else if j = 7 then .bs ([]) else f j)⟩), (3, ⟨67, 1, 4, true, .cells [.ptr 2 (0), .ptr 4 (5), .ptr 4 (6), .ptr 4 (7)]⟩)] _
 refine HT.seq ?_
 refine HT.region S_rtext_4_ok ?_
 refine So.q rfl rfl (V.mv (v := .own 3 0 _) rfl ?_)
 refine So.q rfl rfl (V.len ty83 (v := .own 3 0 _) rfl rfl ?_)
 refine So.q rfl rfl (V.mv (v := .p (.v (.int .i64 (0)))) rfl ?_)
 refine So.e ?_
 show HT _ _ _ _ _
 refine HT.block ?_
 refine HT.rounds 5 ?_
 show HT _ _ _ _ _
 refine HT.seq ?_
 refine HT.region S_rtext_4_ok ?_
 refine So.q rfl rfl (V.bin (a := (.v (.int .i64 _))) (b := (.v (.int .i64 _))) (r := .v (.bool _)) rfl rfl rfl trivial ?_)
 refine So.e ?_
 show HT _ _ _ _ _
 refine HT.seq ?_
 refine R.cond rfl rfl (fun h1 => ?_) (fun h1 => ?_)
 ·have h1 := of_decide_eq_true h1
  refine HT.skip ?_
  show HT _ _ _ _ _
  refine R.cut (True) [] [(1, ⟨63, 1, 3, true, .rows (fun j => ([.bs b, .v (.int .i64 (rdT b p e).2.1), .v (.int .i64 (rdT b p e).2.2)] : List PV).getD j (.v undef))⟩), (2, ⟨63, 1, 3, true, .rows (fun j => if j = 0 then .bs ((rdT b p e).1) else u j)⟩)] [0, 6, 7, 8] [3, 4] (fr0 := [(0, .ptr 1 0), (6, .own 3 0 _), (7, .p (.v (.int .i64 _))), (8, .p (.v (.int .i64 _)))]) (O0 := [(3, ⟨_, _, _, _, .cells _⟩), (4, ⟨_, _, _, _, .rows _⟩)]) rfl rfl ?_ (fun hphi => ?_)
  ·refine HT.block ?_
   refine HT.seq ?_
   refine HT.region S_rtext_4_ok ?_
   refine So.q rfl rfl (V.ixOwn10 ty83 ty67 rfl rfl rfl rfl rfl (by omega) rfl ?_)
   refine So.q rfl rfl (V.ldPtr ty67 rfl rfl rfl (lk rfl) (v := .ptr 2 0) rfl ?_)
   refine So.q rfl rfl (V.as (v := .ptr 2 0) rfl ?_)
   refine So.e ?_
   show HT _ _ _ _ _
   refine HT.seq ?_
   refine HT.region S_rtext_4_ok ?_
   refine So.q rfl rfl (V.mv (v := .ptr 1 0) rfl ?_)
   refine So.q rfl rfl (V.ncPtr rfl ?_)
   refine So.q rfl rfl (V.faPtr ty63 rfl ty29 (lk rfl) rfl rfl (lk rfl) ?_)
   refine So.q rfl rfl (V.ldPtr ty29 rfl rfl rfl (lk rfl) (v := .p (.v (.int .i64 _))) rfl ?_)
   refine So.q rfl rfl (V.bin (a := (.v (.int .i64 _))) (b := (.v (.int .i64 (0)))) (r := .v (.bool _)) rfl rfl rfl trivial ?_)
   refine So.e ?_
   show HT _ _ _ _ _
   refine R.cond rfl rfl (fun h2 => ?_) (fun h2 => ?_)
   ·have h2 := of_decide_eq_true h2
    refine HT.planS S_rtext_4_ok S_rtext_4_det mixed [] [⟨[0, 1, 2, 3, 4, 5, 6, 7, 8, 9, 10, 11, 12, 13, 14, 15, 16], 17, [1, 2, 14, 15]⟩, ⟨[1, 2, 14, 15, 18, 19], 20, [2, 15]⟩, ⟨[2, 15, 21, 22], 23, []⟩] (by kernel_rfl) ?_
    refine Pl.lk ?_
    refine Si.n rfl (lk rfl) (V.mv (v := .ptr 2 0) rfl ?_)
    refine Si.n rfl (lk rfl) (V.mv (v := .ptr 1 0) rfl ?_)
    refine Si.n rfl (lk rfl) (V.mv (v := .ptr 1 0) rfl ?_)
    refine Si.n rfl (lk rfl) (V.mv (v := .ptr 1 0) rfl ?_)
    refine Si.n rfl (lk rfl) (V.ncPtr rfl ?_)
    refine Si.n rfl (lk rfl) (V.faPtr ty63 rfl ty22 (lk rfl) rfl rfl (lk rfl) ?_)
    refine Si.n rfl (lk rfl) (V.ldPtr ty22 rfl rfl rfl (lk rfl) (v := .p (.bs _)) rfl ?_)
    refine Si.n rfl (lk rfl) (V.mv (v := .ptr 1 0) rfl ?_)
    refine Si.n rfl (lk rfl) (V.ncPtr rfl ?_)
    refine Si.n rfl (lk rfl) (V.faPtr ty63 rfl ty3 (lk rfl) rfl rfl (lk rfl) ?_)
    refine Si.n rfl (lk rfl) (V.ldPtr ty3 rfl rfl rfl (lk rfl) (v := .p (.v (.int .i64 _))) rfl ?_)
    refine Si.n rfl (lk rfl) (V.call [.p (.bs _), .p (.v (.int .i64 _))] 5 rfl rfl rfl rfl ⟨trivial, trivial, trivial⟩ ⟨lk rfl, lk rfl, lk rfl, trivial⟩ (_, _) ⟨.refl _, .refl _, trivial⟩ trivial (by trivial) (Φ := fun (b, i) => ((getTextF b i).2.2 = 0 → 0 ≤ i ∧ i < (getTextF b i).2.1 ∧ (getTextF b i).2.1 ≤ b.length) ∧ (getTextF b i).1.length ≤ 1048576) (fun (b, i) _ => ⟨getTextF_ok b i, getTextF_len b i⟩) (.inl ⟨trivial, trivial, trivial⟩) (v := .tup 3 _) rfl (fun h3 => ?_))
    try dsimp only at h3
    refine Si.n rfl (lk rfl) (V.mv (v := .tup 3 _) rfl ?_)
    refine Si.n rfl (lk rfl) (V.ext rfl (lk rfl) (v := .p (.bs _)) rfl ?_)
    refine Si.n rfl (lk rfl) (V.ext rfl (lk rfl) (v := .p (.v (.int .i64 _))) rfl ?_)
    refine Si.n rfl (lk rfl) (V.ext rfl (lk rfl) (v := .p (.v (.int .i64 _))) rfl ?_)
    refine Si.n rfl (lk rfl) (V.ncPtr rfl ?_)
    refine Si.e ?_
    refine ⟨flEq_nil, fun ff => ?_⟩
    refine Lo.s rfl (A.sto ty22 rfl rfl rfl (v := .p (.bs _)) rfl trivial rfl (lk rfl) rfl rfl ?_)
    refine ⟨_, fun ff => ff, ap0, rfl, FG.id, ?_⟩
    show planA _ _ _ _ _ [(1, .ptr 1 0), (2, .ptr 1 0), (14, .p (.v (.int .i64 _))), (15, .p (.v (.int .i64 _)))] _ _ _
    refine Pl.lk ?_
    refine Si.n rfl (lk rfl) (V.mv (v := .ptr 1 0) rfl ?_)
    refine Si.n rfl (lk rfl) (V.mv (v := .ptr 1 0) rfl ?_)
    refine Si.n rfl (lk rfl) (V.ext rfl (lk rfl) (v := .p (.v (.int .i64 _))) rfl ?_)
    refine Si.n rfl (lk rfl) (V.ext rfl (lk rfl) (v := .p (.v (.int .i64 _))) rfl ?_)
    refine Si.n rfl (lk rfl) (V.ncPtr rfl ?_)
    refine Si.n rfl (lk rfl) (V.faPtr ty63 rfl ty3 (lk rfl) rfl rfl (lk rfl) ?_)
    refine Si.e ?_
    refine ⟨(flEq_cons rfl (flEq_cons rfl (flEq_cons rfl (flEq_cons rfl flEq_nil)))), fun ff => ?_⟩
    refine Lo.s rfl (A.sto ty3 rfl rfl rfl (v := .p (.v (.int .i64 _))) rfl rfl rfl (lk rfl) rfl rfl ?_)
    refine ⟨_, fun ff => ff, ap0, rfl, FG.id, ?_⟩
    show planA _ _ _ _ _ [(2, .ptr 1 0), (15, .p (.v (.int .i64 _)))] _ _ _
    refine Pl.l0 ?_
    refine Si.n rfl (lk rfl) (V.mv (v := .ptr 1 0) rfl ?_)
    refine Si.n rfl (lk rfl) (V.ext rfl (lk rfl) (v := .p (.v (.int .i64 _))) rfl ?_)
    refine Si.n rfl (lk rfl) (V.ncPtr rfl ?_)
    refine Si.n rfl (lk rfl) (V.faPtr ty63 rfl ty29 (lk rfl) rfl rfl (lk rfl) ?_)
    refine Si.e ?_
    refine ⟨(flEq_cons rfl (flEq_cons rfl flEq_nil)), ?_⟩
    refine Lo.s rfl (A.sto ty29 rfl rfl rfl (v := .p (.v (.int .i64 _))) rfl rfl rfl (lk rfl) rfl rfl ?_)
    refine Pl.e ?_
    refine Si.e ?_
    refine ⟨flEq_nil, ?_⟩
    exact ⟨by first | rfl | omega | (simp; done) | (simp; omega), ⟨⟨⟨.refl _, rfl⟩, ⟨.refl _, rfl⟩, ⟨.refl _, trivial⟩, ⟨.refl _, trivial⟩, trivial⟩, ⟨⟨_, rfl, .inr (ob_rows (by rfl) (by first | (rw [show rdT b p e = Go.Vh.gT b p from rdT_0 (e := e) (by assumption)]; (intro j hj; match j, hj with | 0, _ => rfl | 1, _ => rfl | 2, _ => rfl)) | (rw [show rdT b p e = ([], p, e) from rdT_1 (e := e) (by assumption)]; (intro j hj; match j, hj with | 0, _ => rfl | 1, _ => rfl | 2, _ => rfl)))), trivial⟩, ⟨_, rfl, .inr (ob_rows (by rfl) (by first | (rw [show rdT b p e = Go.Vh.gT b p from rdT_0 (e := e) (by assumption)]; intro j hj; by_cases h0 : j = 0 <;> first | (simp [h0, gT]; done) | (exfalso; omega)) | (rw [show rdT b p e = ([], p, e) from rdT_1 (e := e) (by assumption)]; intro j hj; by_cases h0 : j = 0 <;> first | (simp [h0, gT]; done) | (exfalso; omega)))), trivial⟩, ⟨_, rfl, .inl rfl, ⟨rfl, rfl, rfl, rfl, trivial⟩⟩, ⟨_, rfl, .inl rfl, trivial⟩, trivial⟩⟩⟩
   ·have h2 := of_decide_eq_false h2
    refine HT.skip ?_
    exact ⟨by first | rfl | omega | (simp; done) | (simp; omega), ⟨⟨⟨.refl _, rfl⟩, ⟨.refl _, rfl⟩, ⟨.refl _, trivial⟩, ⟨.refl _, trivial⟩, trivial⟩, ⟨⟨_, rfl, .inr (ob_rows (by rfl) (by first | (rw [show rdT b p e = Go.Vh.gT b p from rdT_0 (e := e) (by assumption)]; (intro j hj; match j, hj with | 0, _ => rfl | 1, _ => rfl | 2, _ => rfl)) | (rw [show rdT b p e = ([], p, e) from rdT_1 (e := e) (by assumption)]; (intro j hj; match j, hj with | 0, _ => rfl | 1, _ => rfl | 2, _ => rfl)))), trivial⟩, ⟨_, rfl, .inr (ob_rows (by rfl) (by first | (rw [show rdT b p e = Go.Vh.gT b p from rdT_0 (e := e) (by assumption)]; intro j hj; by_cases h0 : j = 0 <;> first | (simp [h0, gT]; done) | (exfalso; omega)) | (rw [show rdT b p e = ([], p, e) from rdT_1 (e := e) (by assumption)]; intro j hj; by_cases h0 : j = 0 <;> first | (simp [h0, gT]; done) | (exfalso; omega)))), trivial⟩, ⟨_, rfl, .inl rfl, ⟨rfl, rfl, rfl, rfl, trivial⟩⟩, ⟨_, rfl, .inl rfl, trivial⟩, trivial⟩⟩⟩
  ·refine HT.region S_rtext_4_ok ?_
   refine So.q rfl rfl (V.addI rfl rfl (by omega) ?_)
   refine So.q rfl rfl (V.mv (v := .p (.v (.int .i64 _))) rfl ?_)
   refine So.e ?_
   show HT _ _ _ _ _
   refine HT.seq ?_
   refine HT.region S_rtext_4_ok ?_
   refine So.q rfl rfl (V.bin (a := (.v (.int .i64 _))) (b := (.v (.int .i64 _))) (r := .v (.bool _)) rfl rfl rfl trivial ?_)
   refine So.e ?_
   show HT _ _ _ _ _
   refine HT.seq ?_
   refine R.cond rfl rfl (fun h4 => ?_) (fun h4 => ?_)
   ·have h4 := of_decide_eq_true h4
    refine HT.skip ?_
    show HT _ _ _ _ _
    refine R.cut (True) [] [(1, ⟨63, 1, 3, true, .rows (fun j => ([.bs b, .v (.int .i64 (rd2 b p e).2.1), .v (.int .i64 (rd2 b p e).2.2)] : List PV).getD j (.v undef))⟩), (4, ⟨26, 1, 8, true, .rows (fun j => if j = 5 then .bs ((rd2 b p e).1) else if j = 6 then .bs ([]) else if j = 7 then .bs ([]) else f j)⟩)] [0, 6, 7, 8] [2, 3] (fr0 := [(0, .ptr 1 0), (6, .own 3 0 _), (7, .p (.v (.int .i64 _))), (8, .p (.v (.int .i64 _)))]) (O0 := [(2, ⟨_, _, _, _, .rows _⟩), (3, ⟨_, _, _, _, .cells _⟩)]) rfl rfl ?_ (fun hphi => ?_)
    ·refine HT.block ?_
     refine HT.seq ?_
     refine HT.region S_rtext_4_ok ?_
     refine So.q rfl rfl (V.ixOwn10 ty83 ty67 rfl rfl rfl rfl rfl (by omega) rfl ?_)
     refine So.q rfl rfl (V.ldPtr ty67 rfl rfl rfl (lk rfl) (v := .ptr 4 5) rfl ?_)
     refine So.q rfl rfl (V.as (v := .ptr 4 5) rfl ?_)
     refine So.e ?_
     show HT _ _ _ _ _
     refine HT.seq ?_
     refine HT.region S_rtext_4_ok ?_
     refine So.q rfl rfl (V.mv (v := .ptr 1 0) rfl ?_)
     refine So.q rfl rfl (V.ncPtr rfl ?_)
     refine So.q rfl rfl (V.faPtr ty63 rfl ty29 (lk rfl) rfl rfl (lk rfl) ?_)
     refine So.q rfl rfl (V.ldPtr ty29 rfl rfl rfl (lk rfl) (v := .p (.v (.int .i64 _))) rfl ?_)
     refine So.q rfl rfl (V.bin (a := (.v (.int .i64 _))) (b := (.v (.int .i64 (0)))) (r := .v (.bool _)) rfl rfl rfl trivial ?_)
     refine So.e ?_
     show HT _ _ _ _ _
     refine R.cond rfl rfl (fun h5 => ?_) (fun h5 => ?_)
     ·have h5 := of_decide_eq_true h5
      refine HT.planS S_rtext_4_ok S_rtext_4_det mixed [] [⟨[0, 1, 2, 3, 4, 5, 6, 7, 8, 9, 10, 11, 12, 13, 14, 15, 16], 17, [1, 2, 14, 15]⟩, ⟨[1, 2, 14, 15, 18, 19], 20, [2, 15]⟩, ⟨[2, 15, 21, 22], 23, []⟩] (by kernel_rfl) ?_
      refine Pl.lk ?_
      refine Si.n rfl (lk rfl) (V.mv (v := .ptr 4 5) rfl ?_)
      refine Si.n rfl (lk rfl) (V.mv (v := .ptr 1 0) rfl ?_)
      refine Si.n rfl (lk rfl) (V.mv (v := .ptr 1 0) rfl ?_)
      refine Si.n rfl (lk rfl) (V.mv (v := .ptr 1 0) rfl ?_)
      refine Si.n rfl (lk rfl) (V.ncPtr rfl ?_)
      refine Si.n rfl (lk rfl) (V.faPtr ty63 rfl ty22 (lk rfl) rfl rfl (lk rfl) ?_)
      refine Si.n rfl (lk rfl) (V.ldPtr ty22 rfl rfl rfl (lk rfl) (v := .p (.bs _)) rfl ?_)
      refine Si.n rfl (lk rfl) (V.mv (v := .ptr 1 0) rfl ?_)
      refine Si.n rfl (lk rfl) (V.ncPtr rfl ?_)
      refine Si.n rfl (lk rfl) (V.faPtr ty63 rfl ty3 (lk rfl) rfl rfl (lk rfl) ?_)
      refine Si.n rfl (lk rfl) (V.ldPtr ty3 rfl rfl rfl (lk rfl) (v := .p (.v (.int .i64 _))) rfl ?_)
      refine Si.n rfl (lk rfl) (V.call [.p (.bs _), .p (.v (.int .i64 _))] 5 rfl rfl rfl rfl ⟨trivial, trivial, trivial⟩ ⟨lk rfl, lk rfl, lk rfl, trivial⟩ (_, _) ⟨.refl _, .refl _, trivial⟩ trivial (by trivial) (Φ := fun (b, i) => ((getTextF b i).2.2 = 0 → 0 ≤ i ∧ i < (getTextF b i).2.1 ∧ (getTextF b i).2.1 ≤ b.length) ∧ (getTextF b i).1.length ≤ 1048576) (fun (b, i) _ => ⟨getTextF_ok b i, getTextF_len b i⟩) (.inl ⟨trivial, trivial, trivial⟩) (v := .tup 3 _) rfl (fun h6 => ?_))
      try dsimp only at h6
      refine Si.n rfl (lk rfl) (V.mv (v := .tup 3 _) rfl ?_)
      refine Si.n rfl (lk rfl) (V.ext rfl (lk rfl) (v := .p (.bs _)) rfl ?_)
      refine Si.n rfl (lk rfl) (V.ext rfl (lk rfl) (v := .p (.v (.int .i64 _))) rfl ?_)
      refine Si.n rfl (lk rfl) (V.ext rfl (lk rfl) (v := .p (.v (.int .i64 _))) rfl ?_)
      refine Si.n rfl (lk rfl) (V.ncPtr rfl ?_)
      refine Si.e ?_
      refine ⟨flEq_nil, fun ff => ?_⟩
      refine Lo.s rfl (A.sto ty22 rfl rfl rfl (v := .p (.bs _)) rfl trivial rfl (lk rfl) rfl rfl ?_)
      refine ⟨_, fun ff => ff, ap0, rfl, FG.id, ?_⟩
      show planA _ _ _ _ _ [(1, .ptr 1 0), (2, .ptr 1 0), (14, .p (.v (.int .i64 _))), (15, .p (.v (.int .i64 _)))] _ _ _
      refine Pl.lk ?_
      refine Si.n rfl (lk rfl) (V.mv (v := .ptr 1 0) rfl ?_)
      refine Si.n rfl (lk rfl) (V.mv (v := .ptr 1 0) rfl ?_)
      refine Si.n rfl (lk rfl) (V.ext rfl (lk rfl) (v := .p (.v (.int .i64 _))) rfl ?_)
      refine Si.n rfl (lk rfl) (V.ext rfl (lk rfl) (v := .p (.v (.int .i64 _))) rfl ?_)
      refine Si.n rfl (lk rfl) (V.ncPtr rfl ?_)
      refine Si.n rfl (lk rfl) (V.faPtr ty63 rfl ty3 (lk rfl) rfl rfl (lk rfl) ?_)
      refine Si.e ?_
      refine ⟨(flEq_cons rfl (flEq_cons rfl (flEq_cons rfl (flEq_cons rfl flEq_nil)))), fun ff => ?_⟩
      refine Lo.s rfl (A.sto ty3 rfl rfl rfl (v := .p (.v (.int .i64 _))) rfl rfl rfl (lk rfl) rfl rfl ?_)
      refine ⟨_, fun ff => ff, ap0, rfl, FG.id, ?_⟩
      show planA _ _ _ _ _ [(2, .ptr 1 0), (15, .p (.v (.int .i64 _)))] _ _ _
      refine Pl.l0 ?_
      refine Si.n rfl (lk rfl) (V.mv (v := .ptr 1 0) rfl ?_)
      refine Si.n rfl (lk rfl) (V.ext rfl (lk rfl) (v := .p (.v (.int .i64 _))) rfl ?_)
      refine Si.n rfl (lk rfl) (V.ncPtr rfl ?_)
      refine Si.n rfl (lk rfl) (V.faPtr ty63 rfl ty29 (lk rfl) rfl rfl (lk rfl) ?_)
      refine Si.e ?_
      refine ⟨(flEq_cons rfl (flEq_cons rfl flEq_nil)), ?_⟩
      refine Lo.s rfl (A.sto ty29 rfl rfl rfl (v := .p (.v (.int .i64 _))) rfl rfl rfl (lk rfl) rfl rfl ?_)
      refine Pl.e ?_
      refine Si.e ?_
      refine ⟨flEq_nil, ?_⟩
      exact ⟨by first | rfl | omega | (simp; done) | (simp; omega), ⟨⟨⟨.refl _, rfl⟩, ⟨.refl _, rfl⟩, ⟨.refl _, trivial⟩, ⟨.refl _, trivial⟩, trivial⟩, ⟨⟨_, rfl, .inr (ob_rows (by rfl) (by first | (rw [show rd2 b p e = Go.Vh.gT b (rdT b p e).2.1 from rdT_0 (e := (rdT b p e).2.2) (by assumption)]; (intro j hj; match j, hj with | 0, _ => rfl | 1, _ => rfl | 2, _ => rfl)) | (rw [show rd2 b p e = ([], (rdT b p e).2.1, (rdT b p e).2.2) from rdT_1 (e := (rdT b p e).2.2) (by assumption)]; (intro j hj; match j, hj with | 0, _ => rfl | 1, _ => rfl | 2, _ => rfl)))), trivial⟩, ⟨_, rfl, .inr (ob_rows (by rfl) (by first | (rw [show rd2 b p e = Go.Vh.gT b (rdT b p e).2.1 from rdT_0 (e := (rdT b p e).2.2) (by assumption)]; intro j hj; by_cases h5 : j = 5 <;> by_cases h6 : j = 6 <;> by_cases h7 : j = 7 <;> first | (simp [h5, h6, h7, gT]; done) | (exfalso; omega)) | (rw [show rd2 b p e = ([], (rdT b p e).2.1, (rdT b p e).2.2) from rdT_1 (e := (rdT b p e).2.2) (by assumption)]; intro j hj; by_cases h5 : j = 5 <;> by_cases h6 : j = 6 <;> by_cases h7 : j = 7 <;> first | (simp [h5, h6, h7, gT]; done) | (exfalso; omega)))), trivial⟩, ⟨_, rfl, .inl rfl, trivial⟩, ⟨_, rfl, .inl rfl, ⟨rfl, rfl, rfl, rfl, trivial⟩⟩, trivial⟩⟩⟩
     ·have h5 := of_decide_eq_false h5
      refine HT.skip ?_
      exact ⟨by first | rfl | omega | (simp; done) | (simp; omega), ⟨⟨⟨.refl _, rfl⟩, ⟨.refl _, rfl⟩, ⟨.refl _, trivial⟩, ⟨.refl _, trivial⟩, trivial⟩, ⟨⟨_, rfl, .inr (ob_rows (by rfl) (by first | (rw [show rd2 b p e = Go.Vh.gT b (rdT b p e).2.1 from rdT_0 (e := (rdT b p e).2.2) (by assumption)]; (intro j hj; match j, hj with | 0, _ => rfl | 1, _ => rfl | 2, _ => rfl)) | (rw [show rd2 b p e = ([], (rdT b p e).2.1, (rdT b p e).2.2) from rdT_1 (e := (rdT b p e).2.2) (by assumption)]; (intro j hj; match j, hj with | 0, _ => rfl | 1, _ => rfl | 2, _ => rfl)))), trivial⟩, ⟨_, rfl, .inr (ob_rows (by rfl) (by first | (rw [show rd2 b p e = Go.Vh.gT b (rdT b p e).2.1 from rdT_0 (e := (rdT b p e).2.2) (by assumption)]; intro j hj; by_cases h5 : j = 5 <;> by_cases h6 : j = 6 <;> by_cases h7 : j = 7 <;> first | (simp [h5, h6, h7, gT]; done) | (exfalso; omega)) | (rw [show rd2 b p e = ([], (rdT b p e).2.1, (rdT b p e).2.2) from rdT_1 (e := (rdT b p e).2.2) (by assumption)]; intro j hj; by_cases h5 : j = 5 <;> by_cases h6 : j = 6 <;> by_cases h7 : j = 7 <;> first | (simp [h5, h6, h7, gT]; done) | (exfalso; omega)))), trivial⟩, ⟨_, rfl, .inl rfl, trivial⟩, ⟨_, rfl, .inl rfl, ⟨rfl, rfl, rfl, rfl, trivial⟩⟩, trivial⟩⟩⟩
    ·refine HT.region S_rtext_4_ok ?_
     refine So.q rfl rfl (V.addI rfl rfl (by omega) ?_)
     refine So.q rfl rfl (V.mv (v := .p (.v (.int .i64 _))) rfl ?_)
     refine So.e ?_
     show HT _ _ _ _ _
     refine HT.seq ?_
     refine HT.region S_rtext_4_ok ?_
     refine So.q rfl rfl (V.bin (a := (.v (.int .i64 _))) (b := (.v (.int .i64 _))) (r := .v (.bool _)) rfl rfl rfl trivial ?_)
     refine So.e ?_
     show HT _ _ _ _ _
     refine HT.seq ?_
     refine R.cond rfl rfl (fun h7 => ?_) (fun h7 => ?_)
     ·have h7 := of_decide_eq_true h7
      refine HT.skip ?_
      show HT _ _ _ _ _
      refine R.cut (True) [] [(1, ⟨63, 1, 3, true, .rows (fun j => ([.bs b, .v (.int .i64 (rd3 b p e).2.1), .v (.int .i64 (rd3 b p e).2.2)] : List PV).getD j (.v undef))⟩), (4, ⟨26, 1, 8, true, .rows (fun j => if j = 5 then .bs ((rd2 b p e).1) else if j = 6 then .bs ((rd3 b p e).1) else if j = 7 then .bs ([]) else f j)⟩)] [0, 6, 7, 8] [2, 3] (fr0 := [(0, .ptr 1 0), (6, .own 3 0 _), (7, .p (.v (.int .i64 _))), (8, .p (.v (.int .i64 _)))]) (O0 := [(2, ⟨_, _, _, _, .rows _⟩), (3, ⟨_, _, _, _, .cells _⟩)]) rfl rfl ?_ (fun hphi => ?_)
      ·refine HT.block ?_
       refine HT.seq ?_
       refine HT.region S_rtext_4_ok ?_
       refine So.q rfl rfl (V.ixOwn10 ty83 ty67 rfl rfl rfl rfl rfl (by omega) rfl ?_)
       refine So.q rfl rfl (V.ldPtr ty67 rfl rfl rfl (lk rfl) (v := .ptr 4 6) rfl ?_)
       refine So.q rfl rfl (V.as (v := .ptr 4 6) rfl ?_)
       refine So.e ?_
       show HT _ _ _ _ _
       refine HT.seq ?_
       refine HT.region S_rtext_4_ok ?_
       refine So.q rfl rfl (V.mv (v := .ptr 1 0) rfl ?_)
       refine So.q rfl rfl (V.ncPtr rfl ?_)
       refine So.q rfl rfl (V.faPtr ty63 rfl ty29 (lk rfl) rfl rfl (lk rfl) ?_)
       refine So.q rfl rfl (V.ldPtr ty29 rfl rfl rfl (lk rfl) (v := .p (.v (.int .i64 _))) rfl ?_)
       refine So.q rfl rfl (V.bin (a := (.v (.int .i64 _))) (b := (.v (.int .i64 (0)))) (r := .v (.bool _)) rfl rfl rfl trivial ?_)
       refine So.e ?_
       show HT _ _ _ _ _
       refine R.cond rfl rfl (fun h8 => ?_) (fun h8 => ?_)
       ·have h8 := of_decide_eq_true h8
        refine HT.planS S_rtext_4_ok S_rtext_4_det mixed [] [⟨[0, 1, 2, 3, 4, 5, 6, 7, 8, 9, 10, 11, 12, 13, 14, 15, 16], 17, [1, 2, 14, 15]⟩, ⟨[1, 2, 14, 15, 18, 19], 20, [2, 15]⟩, ⟨[2, 15, 21, 22], 23, []⟩] (by kernel_rfl) ?_
        refine Pl.lk ?_
        refine Si.n rfl (lk rfl) (V.mv (v := .ptr 4 6) rfl ?_)
        refine Si.n rfl (lk rfl) (V.mv (v := .ptr 1 0) rfl ?_)
        refine Si.n rfl (lk rfl) (V.mv (v := .ptr 1 0) rfl ?_)
        refine Si.n rfl (lk rfl) (V.mv (v := .ptr 1 0) rfl ?_)
        refine Si.n rfl (lk rfl) (V.ncPtr rfl ?_)
        refine Si.n rfl (lk rfl) (V.faPtr ty63 rfl ty22 (lk rfl) rfl rfl (lk rfl) ?_)
        refine Si.n rfl (lk rfl) (V.ldPtr ty22 rfl rfl rfl (lk rfl) (v := .p (.bs _)) rfl ?_)
        refine Si.n rfl (lk rfl) (V.mv (v := .ptr 1 0) rfl ?_)
        refine Si.n rfl (lk rfl) (V.ncPtr rfl ?_)
        refine Si.n rfl (lk rfl) (V.faPtr ty63 rfl ty3 (lk rfl) rfl rfl (lk rfl) ?_)
        refine Si.n rfl (lk rfl) (V.ldPtr ty3 rfl rfl rfl (lk rfl) (v := .p (.v (.int .i64 _))) rfl ?_)
        refine Si.n rfl (lk rfl) (V.call [.p (.bs _), .p (.v (.int .i64 _))] 5 rfl rfl rfl rfl ⟨trivial, trivial, trivial⟩ ⟨lk rfl, lk rfl, lk rfl, trivial⟩ (_, _) ⟨.refl _, .refl _, trivial⟩ trivial (by trivial) (Φ := fun (b, i) => ((getTextF b i).2.2 = 0 → 0 ≤ i ∧ i < (getTextF b i).2.1 ∧ (getTextF b i).2.1 ≤ b.length) ∧ (getTextF b i).1.length ≤ 1048576) (fun (b, i) _ => ⟨getTextF_ok b i, getTextF_len b i⟩) (.inl ⟨trivial, trivial, trivial⟩) (v := .tup 3 _) rfl (fun h9 => ?_))
        try dsimp only at h9
        refine Si.n rfl (lk rfl) (V.mv (v := .tup 3 _) rfl ?_)
        refine Si.n rfl (lk rfl) (V.ext rfl (lk rfl) (v := .p (.bs _)) rfl ?_)
        refine Si.n rfl (lk rfl) (V.ext rfl (lk rfl) (v := .p (.v (.int .i64 _))) rfl ?_)
        refine Si.n rfl (lk rfl) (V.ext rfl (lk rfl) (v := .p (.v (.int .i64 _))) rfl ?_)
        refine Si.n rfl (lk rfl) (V.ncPtr rfl ?_)
        refine Si.e ?_
        refine ⟨flEq_nil, fun ff => ?_⟩
        refine Lo.s rfl (A.sto ty22 rfl rfl rfl (v := .p (.bs _)) rfl trivial rfl (lk rfl) rfl rfl ?_)
        refine ⟨_, fun ff => ff, ap0, rfl, FG.id, ?_⟩
        show planA _ _ _ _ _ [(1, .ptr 1 0), (2, .ptr 1 0), (14, .p (.v (.int .i64 _))), (15, .p (.v (.int .i64 _)))] _ _ _
        refine Pl.lk ?_
        refine Si.n rfl (lk rfl) (V.mv (v := .ptr 1 0) rfl ?_)
        refine Si.n rfl (lk rfl) (V.mv (v := .ptr 1 0) rfl ?_)
        refine Si.n rfl (lk rfl) (V.ext rfl (lk rfl) (v := .p (.v (.int .i64 _))) rfl ?_)
        refine Si.n rfl (lk rfl) (V.ext rfl (lk rfl) (v := .p (.v (.int .i64 _))) rfl ?_)
        refine Si.n rfl (lk rfl) (V.ncPtr rfl ?_)
        refine Si.n rfl (lk rfl) (V.faPtr ty63 rfl ty3 (lk rfl) rfl rfl (lk rfl) ?_)
        refine Si.e ?_
        refine ⟨(flEq_cons rfl (flEq_cons rfl (flEq_cons rfl (flEq_cons rfl flEq_nil)))), fun ff => ?_⟩
        refine Lo.s rfl (A.sto ty3 rfl rfl rfl (v := .p (.v (.int .i64 _))) rfl rfl rfl (lk rfl) rfl rfl ?_)
        refine ⟨_, fun ff => ff, ap0, rfl, FG.id, ?_⟩
        show planA _ _ _ _ _ [(2, .ptr 1 0), (15, .p (.v (.int .i64 _)))] _ _ _
        refine Pl.l0 ?_
        refine Si.n rfl (lk rfl) (V.mv (v := .ptr 1 0) rfl ?_)
        refine Si.n rfl (lk rfl) (V.ext rfl (lk rfl) (v := .p (.v (.int .i64 _))) rfl ?_)
        refine Si.n rfl (lk rfl) (V.ncPtr rfl ?_)
        refine Si.n rfl (lk rfl) (V.faPtr ty63 rfl ty29 (lk rfl) rfl rfl (lk rfl) ?_)
        refine Si.e ?_
        refine ⟨(flEq_cons rfl (flEq_cons rfl flEq_nil)), ?_⟩
        refine Lo.s rfl (A.sto ty29 rfl rfl rfl (v := .p (.v (.int .i64 _))) rfl rfl rfl (lk rfl) rfl rfl ?_)
        refine Pl.e ?_
        refine Si.e ?_
        refine ⟨flEq_nil, ?_⟩
        exact ⟨by first | rfl | omega | (simp; done) | (simp; omega), ⟨⟨⟨.refl _, rfl⟩, ⟨.refl _, rfl⟩, ⟨.refl _, trivial⟩, ⟨.refl _, trivial⟩, trivial⟩, ⟨⟨_, rfl, .inr (ob_rows (by rfl) (by first | (rw [show rd3 b p e = Go.Vh.gT b (rd2 b p e).2.1 from rdT_0 (e := (rd2 b p e).2.2) (by assumption)]; (intro j hj; match j, hj with | 0, _ => rfl | 1, _ => rfl | 2, _ => rfl)) | (rw [show rd3 b p e = ([], (rd2 b p e).2.1, (rd2 b p e).2.2) from rdT_1 (e := (rd2 b p e).2.2) (by assumption)]; (intro j hj; match j, hj with | 0, _ => rfl | 1, _ => rfl | 2, _ => rfl)))), trivial⟩, ⟨_, rfl, .inr (ob_rows (by rfl) (by first | (rw [show rd3 b p e = Go.Vh.gT b (rd2 b p e).2.1 from rdT_0 (e := (rd2 b p e).2.2) (by assumption)]; intro j hj; by_cases h5 : j = 5 <;> by_cases h6 : j = 6 <;> by_cases h7 : j = 7 <;> first | (simp [h5, h6, h7, gT]; done) | (exfalso; omega)) | (rw [show rd3 b p e = ([], (rd2 b p e).2.1, (rd2 b p e).2.2) from rdT_1 (e := (rd2 b p e).2.2) (by assumption)]; intro j hj; by_cases h5 : j = 5 <;> by_cases h6 : j = 6 <;> by_cases h7 : j = 7 <;> first | (simp [h5, h6, h7, gT]; done) | (exfalso; omega)))), trivial⟩, ⟨_, rfl, .inl rfl, trivial⟩, ⟨_, rfl, .inl rfl, ⟨rfl, rfl, rfl, rfl, trivial⟩⟩, trivial⟩⟩⟩
       ·have h8 := of_decide_eq_false h8
        refine HT.skip ?_
        exact ⟨by first | rfl | omega | (simp; done) | (simp; omega), ⟨⟨⟨.refl _, rfl⟩, ⟨.refl _, rfl⟩, ⟨.refl _, trivial⟩, ⟨.refl _, trivial⟩, trivial⟩, ⟨⟨_, rfl, .inr (ob_rows (by rfl) (by first | (rw [show rd3 b p e = Go.Vh.gT b (rd2 b p e).2.1 from rdT_0 (e := (rd2 b p e).2.2) (by assumption)]; (intro j hj; match j, hj with | 0, _ => rfl | 1, _ => rfl | 2, _ => rfl)) | (rw [show rd3 b p e = ([], (rd2 b p e).2.1, (rd2 b p e).2.2) from rdT_1 (e := (rd2 b p e).2.2) (by assumption)]; (intro j hj; match j, hj with | 0, _ => rfl | 1, _ => rfl | 2, _ => rfl)))), trivial⟩, ⟨_, rfl, .inr (ob_rows (by rfl) (by first | (rw [show rd3 b p e = Go.Vh.gT b (rd2 b p e).2.1 from rdT_0 (e := (rd2 b p e).2.2) (by assumption)]; intro j hj; by_cases h5 : j = 5 <;> by_cases h6 : j = 6 <;> by_cases h7 : j = 7 <;> first | (simp [h5, h6, h7, gT]; done) | (exfalso; omega)) | (rw [show rd3 b p e = ([], (rd2 b p e).2.1, (rd2 b p e).2.2) from rdT_1 (e := (rd2 b p e).2.2) (by assumption)]; intro j hj; by_cases h5 : j = 5 <;> by_cases h6 : j = 6 <;> by_cases h7 : j = 7 <;> first | (simp [h5, h6, h7, gT]; done) | (exfalso; omega)))), trivial⟩, ⟨_, rfl, .inl rfl, trivial⟩, ⟨_, rfl, .inl rfl, ⟨rfl, rfl, rfl, rfl, trivial⟩⟩, trivial⟩⟩⟩
      ·refine HT.region S_rtext_4_ok ?_
       refine So.q rfl rfl (V.addI rfl rfl (by omega) ?_)
       refine So.q rfl rfl (V.mv (v := .p (.v (.int .i64 _))) rfl ?_)
       refine So.e ?_
       show HT _ _ _ _ _
       refine HT.seq ?_
       refine HT.region S_rtext_4_ok ?_
       refine So.q rfl rfl (V.bin (a := (.v (.int .i64 _))) (b := (.v (.int .i64 _))) (r := .v (.bool _)) rfl rfl rfl trivial ?_)
       refine So.e ?_
       show HT _ _ _ _ _
       refine HT.seq ?_
       refine R.cond rfl rfl (fun h10 => ?_) (fun h10 => ?_)
       ·have h10 := of_decide_eq_true h10
        refine HT.skip ?_
        show HT _ _ _ _ _
        refine R.cut (True) [] [(1, ⟨63, 1, 3, true, .rows (fun j => ([.bs b, .v (.int .i64 (rd4 b p e).2.1), .v (.int .i64 (rd4 b p e).2.2)] : List PV).getD j (.v undef))⟩), (4, ⟨26, 1, 8, true, .rows (fun j => if j = 5 then .bs ((rd2 b p e).1) else if j = 6 then .bs ((rd3 b p e).1) else if j = 7 then .bs ((rd4 b p e).1) else f j)⟩)] [0, 6, 7, 8] [2, 3] (fr0 := [(0, .ptr 1 0), (6, .own 3 0 _), (7, .p (.v (.int .i64 _))), (8, .p (.v (.int .i64 _)))]) (O0 := [(2, ⟨_, _, _, _, .rows _⟩), (3, ⟨_, _, _, _, .cells _⟩)]) rfl rfl ?_ (fun hphi => ?_)
        ·refine HT.block ?_
         refine HT.seq ?_
         refine HT.region S_rtext_4_ok ?_
         refine So.q rfl rfl (V.ixOwn10 ty83 ty67 rfl rfl rfl rfl rfl (by omega) rfl ?_)
         refine So.q rfl rfl (V.ldPtr ty67 rfl rfl rfl (lk rfl) (v := .ptr 4 7) rfl ?_)
         refine So.q rfl rfl (V.as (v := .ptr 4 7) rfl ?_)
         refine So.e ?_
         show HT _ _ _ _ _
         refine HT.seq ?_
         refine HT.region S_rtext_4_ok ?_
         refine So.q rfl rfl (V.mv (v := .ptr 1 0) rfl ?_)
         refine So.q rfl rfl (V.ncPtr rfl ?_)
         refine So.q rfl rfl (V.faPtr ty63 rfl ty29 (lk rfl) rfl rfl (lk rfl) ?_)
         refine So.q rfl rfl (V.ldPtr ty29 rfl rfl rfl (lk rfl) (v := .p (.v (.int .i64 _))) rfl ?_)
         refine So.q rfl rfl (V.bin (a := (.v (.int .i64 _))) (b := (.v (.int .i64 (0)))) (r := .v (.bool _)) rfl rfl rfl trivial ?_)
         refine So.e ?_
         show HT _ _ _ _ _
         refine R.cond rfl rfl (fun h11 => ?_) (fun h11 => ?_)
         ·have h11 := of_decide_eq_true h11
          refine HT.planS S_rtext_4_ok S_rtext_4_det mixed [] [⟨[0, 1, 2, 3, 4, 5, 6, 7, 8, 9, 10, 11, 12, 13, 14, 15, 16], 17, [1, 2, 14, 15]⟩, ⟨[1, 2, 14, 15, 18, 19], 20, [2, 15]⟩, ⟨[2, 15, 21, 22], 23, []⟩] (by kernel_rfl) ?_
          refine Pl.lk ?_
          refine Si.n rfl (lk rfl) (V.mv (v := .ptr 4 7) rfl ?_)
          refine Si.n rfl (lk rfl) (V.mv (v := .ptr 1 0) rfl ?_)
          refine Si.n rfl (lk rfl) (V.mv (v := .ptr 1 0) rfl ?_)
          refine Si.n rfl (lk rfl) (V.mv (v := .ptr 1 0) rfl ?_)
          refine Si.n rfl (lk rfl) (V.ncPtr rfl ?_)
          refine Si.n rfl (lk rfl) (V.faPtr ty63 rfl ty22 (lk rfl) rfl rfl (lk rfl) ?_)
          refine Si.n rfl (lk rfl) (V.ldPtr ty22 rfl rfl rfl (lk rfl) (v := .p (.bs _)) rfl ?_)
          refine Si.n rfl (lk rfl) (V.mv (v := .ptr 1 0) rfl ?_)
          refine Si.n rfl (lk rfl) (V.ncPtr rfl ?_)
          refine Si.n rfl (lk rfl) (V.faPtr ty63 rfl ty3 (lk rfl) rfl rfl (lk rfl) ?_)
          refine Si.n rfl (lk rfl) (V.ldPtr ty3 rfl rfl rfl (lk rfl) (v := .p (.v (.int .i64 _))) rfl ?_)
          refine Si.n rfl (lk rfl) (V.call [.p (.bs _), .p (.v (.int .i64 _))] 5 rfl rfl rfl rfl ⟨trivial, trivial, trivial⟩ ⟨lk rfl, lk rfl, lk rfl, trivial⟩ (_, _) ⟨.refl _, .refl _, trivial⟩ trivial (by trivial) (Φ := fun (b, i) => ((getTextF b i).2.2 = 0 → 0 ≤ i ∧ i < (getTextF b i).2.1 ∧ (getTextF b i).2.1 ≤ b.length) ∧ (getTextF b i).1.length ≤ 1048576) (fun (b, i) _ => ⟨getTextF_ok b i, getTextF_len b i⟩) (.inl ⟨trivial, trivial, trivial⟩) (v := .tup 3 _) rfl (fun h12 => ?_))
          try dsimp only at h12
          refine Si.n rfl (lk rfl) (V.mv (v := .tup 3 _) rfl ?_)
          refine Si.n rfl (lk rfl) (V.ext rfl (lk rfl) (v := .p (.bs _)) rfl ?_)
          refine Si.n rfl (lk rfl) (V.ext rfl (lk rfl) (v := .p (.v (.int .i64 _))) rfl ?_)
          refine Si.n rfl (lk rfl) (V.ext rfl (lk rfl) (v := .p (.v (.int .i64 _))) rfl ?_)
          refine Si.n rfl (lk rfl) (V.ncPtr rfl ?_)
          refine Si.e ?_
          refine ⟨flEq_nil, fun ff => ?_⟩
          refine Lo.s rfl (A.sto ty22 rfl rfl rfl (v := .p (.bs _)) rfl trivial rfl (lk rfl) rfl rfl ?_)
          refine ⟨_, fun ff => ff, ap0, rfl, FG.id, ?_⟩
          show planA _ _ _ _ _ [(1, .ptr 1 0), (2, .ptr 1 0), (14, .p (.v (.int .i64 _))), (15, .p (.v (.int .i64 _)))] _ _ _
          refine Pl.lk ?_
          refine Si.n rfl (lk rfl) (V.mv (v := .ptr 1 0) rfl ?_)
          refine Si.n rfl (lk rfl) (V.mv (v := .ptr 1 0) rfl ?_)
          refine Si.n rfl (lk rfl) (V.ext rfl (lk rfl) (v := .p (.v (.int .i64 _))) rfl ?_)
          refine Si.n rfl (lk rfl) (V.ext rfl (lk rfl) (v := .p (.v (.int .i64 _))) rfl ?_)
          refine Si.n rfl (lk rfl) (V.ncPtr rfl ?_)
          refine Si.n rfl (lk rfl) (V.faPtr ty63 rfl ty3 (lk rfl) rfl rfl (lk rfl) ?_)
          refine Si.e ?_
          refine ⟨(flEq_cons rfl (flEq_cons rfl (flEq_cons rfl (flEq_cons rfl flEq_nil)))), fun ff => ?_⟩
          refine Lo.s rfl (A.sto ty3 rfl rfl rfl (v := .p (.v (.int .i64 _))) rfl rfl rfl (lk rfl) rfl rfl ?_)
          refine ⟨_, fun ff => ff, ap0, rfl, FG.id, ?_⟩
          show planA _ _ _ _ _ [(2, .ptr 1 0), (15, .p (.v (.int .i64 _)))] _ _ _
          refine Pl.l0 ?_
          refine Si.n rfl (lk rfl) (V.mv (v := .ptr 1 0) rfl ?_)
          refine Si.n rfl (lk rfl) (V.ext rfl (lk rfl) (v := .p (.v (.int .i64 _))) rfl ?_)
          refine Si.n rfl (lk rfl) (V.ncPtr rfl ?_)
          refine Si.n rfl (lk rfl) (V.faPtr ty63 rfl ty29 (lk rfl) rfl rfl (lk rfl) ?_)
          refine Si.e ?_
          refine ⟨(flEq_cons rfl (flEq_cons rfl flEq_nil)), ?_⟩
          refine Lo.s rfl (A.sto ty29 rfl rfl rfl (v := .p (.v (.int .i64 _))) rfl rfl rfl (lk rfl) rfl rfl ?_)
          refine Pl.e ?_
          refine Si.e ?_
          refine ⟨flEq_nil, ?_⟩
          exact ⟨by first | rfl | omega | (simp; done) | (simp; omega), ⟨⟨⟨.refl _, rfl⟩, ⟨.refl _, rfl⟩, ⟨.refl _, trivial⟩, ⟨.refl _, trivial⟩, trivial⟩, ⟨⟨_, rfl, .inr (ob_rows (by rfl) (by first | (rw [show rd4 b p e = Go.Vh.gT b (rd3 b p e).2.1 from rdT_0 (e := (rd3 b p e).2.2) (by assumption)]; (intro j hj; match j, hj with | 0, _ => rfl | 1, _ => rfl | 2, _ => rfl)) | (rw [show rd4 b p e = ([], (rd3 b p e).2.1, (rd3 b p e).2.2) from rdT_1 (e := (rd3 b p e).2.2) (by assumption)]; (intro j hj; match j, hj with | 0, _ => rfl | 1, _ => rfl | 2, _ => rfl)))), trivial⟩, ⟨_, rfl, .inr (ob_rows (by rfl) (by first | (rw [show rd4 b p e = Go.Vh.gT b (rd3 b p e).2.1 from rdT_0 (e := (rd3 b p e).2.2) (by assumption)]; intro j hj; by_cases h5 : j = 5 <;> by_cases h6 : j = 6 <;> by_cases h7 : j = 7 <;> first | (simp [h5, h6, h7, gT]; done) | (exfalso; omega)) | (rw [show rd4 b p e = ([], (rd3 b p e).2.1, (rd3 b p e).2.2) from rdT_1 (e := (rd3 b p e).2.2) (by assumption)]; intro j hj; by_cases h5 : j = 5 <;> by_cases h6 : j = 6 <;> by_cases h7 : j = 7 <;> first | (simp [h5, h6, h7, gT]; done) | (exfalso; omega)))), trivial⟩, ⟨_, rfl, .inl rfl, trivial⟩, ⟨_, rfl, .inl rfl, ⟨rfl, rfl, rfl, rfl, trivial⟩⟩, trivial⟩⟩⟩
         ·have h11 := of_decide_eq_false h11
          refine HT.skip ?_
          exact ⟨by first | rfl | omega | (simp; done) | (simp; omega), ⟨⟨⟨.refl _, rfl⟩, ⟨.refl _, rfl⟩, ⟨.refl _, trivial⟩, ⟨.refl _, trivial⟩, trivial⟩, ⟨⟨_, rfl, .inr (ob_rows (by rfl) (by first | (rw [show rd4 b p e = Go.Vh.gT b (rd3 b p e).2.1 from rdT_0 (e := (rd3 b p e).2.2) (by assumption)]; (intro j hj; match j, hj with | 0, _ => rfl | 1, _ => rfl | 2, _ => rfl)) | (rw [show rd4 b p e = ([], (rd3 b p e).2.1, (rd3 b p e).2.2) from rdT_1 (e := (rd3 b p e).2.2) (by assumption)]; (intro j hj; match j, hj with | 0, _ => rfl | 1, _ => rfl | 2, _ => rfl)))), trivial⟩, ⟨_, rfl, .inr (ob_rows (by rfl) (by first | (rw [show rd4 b p e = Go.Vh.gT b (rd3 b p e).2.1 from rdT_0 (e := (rd3 b p e).2.2) (by assumption)]; intro j hj; by_cases h5 : j = 5 <;> by_cases h6 : j = 6 <;> by_cases h7 : j = 7 <;> first | (simp [h5, h6, h7, gT]; done) | (exfalso; omega)) | (rw [show rd4 b p e = ([], (rd3 b p e).2.1, (rd3 b p e).2.2) from rdT_1 (e := (rd3 b p e).2.2) (by assumption)]; intro j hj; by_cases h5 : j = 5 <;> by_cases h6 : j = 6 <;> by_cases h7 : j = 7 <;> first | (simp [h5, h6, h7, gT]; done) | (exfalso; omega)))), trivial⟩, ⟨_, rfl, .inl rfl, trivial⟩, ⟨_, rfl, .inl rfl, ⟨rfl, rfl, rfl, rfl, trivial⟩⟩, trivial⟩⟩⟩
        ·refine HT.region S_rtext_4_ok ?_
         refine So.q rfl rfl (V.addI rfl rfl (by omega) ?_)
         refine So.q rfl rfl (V.mv (v := .p (.v (.int .i64 _))) rfl ?_)
         refine So.e ?_
         show HT _ _ _ _ _
         refine HT.seq ?_
         refine HT.region S_rtext_4_ok ?_
         refine So.q rfl rfl (V.bin (a := (.v (.int .i64 _))) (b := (.v (.int .i64 _))) (r := .v (.bool _)) rfl rfl rfl trivial ?_)
         refine So.e ?_
         show HT _ _ _ _ _
         refine HT.seq ?_
         refine R.cond rfl rfl (fun h13 => ?_) (fun h13 => ?_)
         ·have h13 := of_decide_eq_true h13
          exfalso; omega
         ·have h13 := of_decide_eq_false h13
          refine HT.exit ?_
          exact ret_ok (sg [(1, 1), (2, 2), (4, 4)]) h rfl rfl rfl ⟨trivial, trivial, trivial, trivial⟩ trivial rfl ⟨trivial, ⟨⟨_, rfl, .inr (ob_rows (by first | rfl | ((try dsimp only); (first | with_reducible rfl | (intro j hj; rfl)))) (by first | rfl | ((try dsimp only); (first | with_reducible rfl | (intro j hj; rfl))))), trivial⟩, ⟨_, rfl, .inr (ob_rows (by first | rfl | ((try dsimp only); (first | with_reducible rfl | (intro j hj; rfl)))) (by first | rfl | ((try dsimp only); (first | with_reducible rfl | (intro j hj; rfl))))), trivial⟩, ⟨_, rfl, .inr (ob_rows (by first | rfl | ((try dsimp only); (first | with_reducible rfl | (intro j hj; rfl)))) (by first | rfl | ((try dsimp only); (first | with_reducible rfl | (intro j hj; rfl))))), trivial⟩, trivial⟩⟩
       ·have h10 := of_decide_eq_false h10
        exfalso; omega
     ·have h7 := of_decide_eq_false h7
      exfalso; omega
   ·have h4 := of_decide_eq_false h4
    exfalso; omega
 ·have h1 := of_decide_eq_false h1
  exfalso; omega
end Go.Vh

set_option linter.unusedVariables false
set_option linter.unusedSimpArgs false
namespace Go.Vh
open Go Go.Vc Go.Proofs Go.Vw
def fgetsSp : Sp := ⟨[], mkE (α := (List UInt8)) (fun b => [.p (.bs (b))]) (fun b => []) (fun b => True) (fun b => [.agg 5 (fun j => ([.bs (gs1 b), .v (.int .i64 (gs2 b)), .v (.int .i64 (gs3 b)), .v (.int .i64 (gs4 b)), .bs (gs5 b)] : List PV).getD j (.v undef)), .p (.v (.int .i64 ((gsE b))))]) (fun b => [])⟩
def S_fgets : FuncId → Option Sp := fun f => if f = 32 then some rplaceSp else if f = 33 then some frnumSp else if f = 34 then some rtext_sSp else if f = 29 then some fsealSp else if f = 35 then some rendSp else none
theorem S_fgets_ok : ∀ f s, S_fgets f = some s → FOK Tryd.prog gl f s := fun f s h => by
 unfold S_fgets at h
 split at h
 ·rename_i e; cases h; subst e; exact rplace_ok
 split at h
 ·rename_i e; cases h; subst e; exact frnum_ok
 split at h
 ·rename_i e; cases h; subst e; exact rtext_s_ok
 split at h
 ·rename_i e; cases h; subst e; exact fseal_ok
 split at h
 ·rename_i e; cases h; subst e; exact rend_ok
 cases h
theorem S_fgets_det : ∀ f s, S_fgets f = some s → SpDet s.sp := fun f s h => by
 unfold S_fgets at h
 split at h
 ·cases h; exact mkE_det _ _ _ _ _
 split at h
 ·cases h; exact mkE_det _ _ _ _ _
 split at h
 ·cases h; exact mkE_det _ _ _ _ _
 split at h
 ·cases h; exact mkE_det _ _ _ _ _
 split at h
 ·cases h; exact mkE_det _ _ _ _ _
 cases h
set_option maxHeartbeats 1000000 in
set_option maxRecDepth 1000 in
theorem fgets_ok : FOK Tryd.prog gl 15 fgetsSp := by
 refine FOK.ofEC (tyOf_ok Tryd.prog) (rvs := [.cell 2 35, .tmp 3]) (nt := 35) Tryd.func15 rfl rfl rfl rfl (by decide) 1 (fun _ => rfl) (by decide) (fun _ => ⟨trivial, trivial⟩) ?_
 rintro b kk hlen hpre h
 have hl0 : (b).length ≤ 9223372036854775807 := hlen.1
 replace hpre : True := hpre
 show HT (cx Tryd.prog 35 (tyOf Tryd.prog) gl []) _ [(0, .p (.bs (b)))] [] _
 refine HT.seq ?_
 refine HT.region S_fgets_ok ?_
 refine So.n (lk rfl) (A.alloc 1 1 ty35 rfl trivial (f := fun j => ([.v (.slice none 0 0), .v (.int .i64 0), .v (.int .i64 0), .v (.int .i64 0), .v (.slice none 0 0)] : List PV).getD j (.v undef)) (fun j hj => by match j, hj with | 0, _ => rfl | 1, _ => rfl | 2, _ => rfl | 3, _ => rfl | 4, _ => rfl) ?_)
 refine So.q rfl rfl (V.as (v := .p (.v (.int .i64 (0)))) rfl ?_)
 refine So.e ?_
 show HT _ _ _ _ _
 refine HT.seq ?_
 refine HT.region S_fgets_ok ?_
 refine So.q rfl rfl (V.mv (v := .p (.bs _)) rfl ?_)
 refine So.n (lk rfl) (A.bldS ty63 rfl rfl ⟨by first | exact trivial | exact rfl | (intro j hj; first | trivial | rfl | (simp [BV.one]; done)), trivial⟩ rfl (f := fun j => ([.bs b, .v (.int .i64 0), .v (.int .i64 0)] : List PV).getD j (.v undef)) (by exact allP_spec (P := fun j => _ = _) ⟨⟨⟨trivial, rfl⟩, rfl⟩, rfl⟩) ?_)
 refine So.n (lk rfl) (A.boxAg 2 1 (n := 3) rfl (by intro j hj; first | rfl | trivial | (match j, hj with | 0, _ => (first | trivial | rfl) | 1, _ => (first | trivial | rfl) | 2, _ => (first | trivial | rfl)) | (split <;> first | rfl | trivial | (split <;> first | rfl | trivial))) rfl trivial ?_)
 refine So.q rfl rfl (V.as (v := .ptr 2 0) rfl ?_)
 refine So.e ?_
 show HT _ _ _ _ _
 refine HT.seq ?_
 refine HT.region S_fgets_ok ?_
 refine So.q rfl rfl (V.mv (v := .ptr 2 0) rfl ?_)
 refine So.n (lk rfl) (A.call [.ptr 1 _] [(1, ⟨_, _, _, _, .rows _⟩)] (sg [(1, 2)]) 3 rfl rfl rfl rfl ⟨rfl, trivial⟩ rfl ⟨trivial, trivial⟩ ⟨rfl, trivial⟩ trivial rfl (b, 0, 0) ⟨.refl _, trivial⟩ ⟨⟨_, rfl, .inl rfl, trivial⟩, trivial⟩ (by trivial) (Φ := fun _ => True) (fun _ _ => trivial) ⟨⟨_, _, rfl, rfl, rfl, Nat.le_refl _⟩, trivial⟩ (.inl rfl) rfl (v := .agg 3 _) rfl (O' := (2, ⟨_, _, _, _, .rows _⟩) :: _) rfl (fun h1 => ?_))
 refine So.n (lk rfl) (A.alloc 3 1 ty57 rfl trivial (f := fun j => ([.v (.slice none 0 0), .v (.int .i64 0), .v (.int .i64 0)] : List PV).getD j (.v undef)) (fun j hj => by match j, hj with | 0, _ => rfl | 1, _ => rfl | 2, _ => rfl) ?_)
 refine So.s (A.stoAg ty57 rfl (n := 3) rfl (by decide) (by intro j hj; first | rfl | trivial | (match j, hj with | 0, _ => (first | trivial | rfl) | 1, _ => (first | trivial | rfl) | 2, _ => (first | trivial | rfl))) rfl rfl rfl ?_)
 refine So.e ?_
 show HT _ _ _ _ _
 refine R.cut (True) [(6, .ptr 4 (0))] [(2, ⟨63, 1, 3, true, .rows (fun j => ([.bs b, .v (.int .i64 (sg4 b).2.1), .v (.int .i64 (sg4 b).2.2)] : List PV).getD j (.v undef))⟩), (4, ⟨35, 1, 5, true, .rows (fun j => if j = 4 then .bs [] else (fun j => ([.bs (pl1 b 0 0).1, .v (.int .i64 ((pl2 b 0 0).1)), .v (.int .i64 ((pl3 b 0 0).1)), .v (.int .i64 ((sg4 b).1)), .v (.int .i64 0)] : List PV).getD j (.v undef)) j)⟩)] [2, 3, 4] [1] (fr0 := [(2, .ptr 1 0), (3, .p (.v (.int .i64 _))), (4, .ptr 2 0)]) (O0 := [(1, ⟨_, _, _, _, .rows _⟩)]) rfl rfl ?_ (fun hphi => ?_)
 ·refine HT.planTS S_fgets_ok S_fgets_det mixed (.stage [0, 1, 2, 3, 4, 5, 6] (.br 7 [0, 1, 2, 3, 4, 5] (.stage [0, 1, 2, 3, 4, 5] (.br 8 [] (.stage [] (.br 9 [] (.stage [] (.br 10 [] (.leaf []) .no)) .no)) (.br 9 [0, 1, 2, 3, 4, 5] (.stage [0, 1, 2, 3, 4, 5] (.br 8 [] (.stage [] (.br 10 [] (.leaf []) .no)) .no)) .no))) (.br 9 [0, 1, 2, 3, 4, 5, 6] (.stage [0, 1, 2, 3, 4, 5, 6] (.br 7 [0, 1, 2, 3, 4, 5] (.stage [0, 1, 2, 3, 4, 5] (.br 8 [] (.stage [] (.br 10 [] (.leaf []) .no)) .no)) .no)) .no))) (by kernel_rfl) ?_
  refine Pt.st ?_
  refine Si.n rfl (lk rfl) (V.faPtr ty57 rfl ty22 (lk rfl) rfl rfl (lk rfl) ?_)
  refine Si.n rfl (lk rfl) (V.ldPtr ty22 rfl rfl rfl (lk rfl) (v := .p (.bs _)) rfl ?_)
  refine Si.n rfl (lk rfl) (V.faPtr ty57 rfl ty2 (lk rfl) rfl rfl (lk rfl) ?_)
  refine Si.n rfl (lk rfl) (V.ldPtr ty2 rfl rfl rfl (lk rfl) (v := .p (.v (.int .i64 _))) rfl ?_)
  refine Si.n rfl (lk rfl) (V.faPtr ty57 rfl ty3 (lk rfl) rfl rfl (lk rfl) ?_)
  refine Si.n rfl (lk rfl) (V.ldPtr ty3 rfl rfl rfl (lk rfl) (v := .p (.v (.int .i64 _))) rfl ?_)
  refine Si.n rfl (lk rfl) (V.mv (v := .ptr 2 0) rfl ?_)
  refine Si.e ?_
  refine ⟨flEq_nil, ?_⟩
  refine Pt.bk (fun ff => ?_) ?_
  ·refine Lo.n rfl (lk rfl) (A.call [.ptr 1 _, .p (.v (.int .i64 _))] [(1, ⟨_, _, _, _, .rows _⟩)] (sg [(1, 2)]) 4 rfl rfl rfl rfl ⟨rfl, trivial⟩ rfl ⟨trivial, trivial⟩ ⟨rfl, trivial, trivial⟩ trivial rfl (b, (pl3 b 0 0).2.1, (pl3 b 0 0).2.2, 4) ⟨.refl _, .refl _, trivial⟩ ⟨⟨_, rfl, .inl rfl, trivial⟩, trivial⟩ (by trivial) (Φ := fun _ => True) (fun _ _ => trivial) ⟨⟨_, _, rfl, rfl, rfl, Nat.le_refl _⟩, trivial⟩ (.inl rfl) rfl (v := .p (.v (.int .i64 _))) rfl (O' := (2, ⟨_, _, _, _, .rows _⟩) :: _) rfl (fun h2 => ?_))
   refine ⟨_, fun ff => ff, ap0d, rfl, FG.id, ?_⟩
   show planT _ _ _ _ [(0, .ptr 3 0), (1, .p (.bs _)), (2, .ptr 3 1), (3, .p (.v (.int .i64 _))), (4, .ptr 3 2), (5, .p (.v (.int .i64 _)))] _ _ _
   refine Pt.st ?_
   refine Si.n rfl (lk rfl) (V.faPtr ty57 rfl ty22 (lk rfl) rfl rfl (lk rfl) ?_)
   refine Si.n rfl (lk rfl) (V.ldPtr ty22 rfl rfl rfl (lk rfl) (v := .p (.bs _)) rfl ?_)
   refine Si.n rfl (lk rfl) (V.faPtr ty57 rfl ty2 (lk rfl) rfl rfl (lk rfl) ?_)
   refine Si.n rfl (lk rfl) (V.ldPtr ty2 rfl rfl rfl (lk rfl) (v := .p (.v (.int .i64 _))) rfl ?_)
   refine Si.n rfl (lk rfl) (V.faPtr ty57 rfl ty3 (lk rfl) rfl rfl (lk rfl) ?_)
   refine Si.n rfl (lk rfl) (V.ldPtr ty3 rfl rfl rfl (lk rfl) (v := .p (.v (.int .i64 _))) rfl ?_)
   refine Si.e ?_
   refine ⟨(flEq_cons rfl (flEq_cons rfl (flEq_cons rfl (flEq_cons rfl (flEq_cons rfl (flEq_cons rfl flEq_nil)))))), ?_⟩
   refine Pt.b0 ?_ ?_
   ·refine Lo.n rfl (lk rfl) (A.bldS ty35 rfl rfl ⟨by first | exact trivial | exact rfl | (intro j hj; first | trivial | rfl | (simp [BV.one]; done)), by first | exact trivial | exact rfl | (intro j hj; first | trivial | rfl | (simp [BV.one]; done)), by first | exact trivial | exact rfl | (intro j hj; first | trivial | rfl | (simp [BV.one]; done)), by first | exact trivial | exact rfl | (intro j hj; first | trivial | rfl | (simp [BV.one]; done)), trivial⟩ rfl (f := fun j => ([.bs (pl1 b 0 0).1, .v (.int .i64 ((pl2 b 0 0).1)), .v (.int .i64 ((pl3 b 0 0).1)), .v (.int .i64 ((sg4 b).1)), .v (.slice none 0 0)] : List PV).getD j (.v undef)) (by exact allP_spec (P := fun j => _ = _) ⟨⟨⟨⟨⟨trivial, rfl⟩, rfl⟩, rfl⟩, rfl⟩, rfl⟩) ?_)
    refine Pt.st ?_
    refine Si.e ?_
    refine ⟨flEq_nil, ?_⟩
    refine Pt.b0 ?_ ?_
    ·refine Lo.n rfl (lk rfl) (A.alloc 4 1 ty35 rfl trivial (f := fun j => ([.v (.slice none 0 0), .v (.int .i64 0), .v (.int .i64 0), .v (.int .i64 0), .v (.slice none 0 0)] : List PV).getD j (.v undef)) (fun j hj => by match j, hj with | 0, _ => rfl | 1, _ => rfl | 2, _ => rfl | 3, _ => rfl | 4, _ => rfl) ?_)
     refine Pt.st ?_
     refine Si.e ?_
     refine ⟨flEq_nil, ?_⟩
     refine Pt.b0 ?_ ?_
     ·refine Lo.s rfl (A.stoAg ty35 rfl (n := 5) rfl (by decide) (by intro j hj; first | rfl | trivial | (match j, hj with | 0, _ => (first | trivial | rfl) | 1, _ => (first | trivial | rfl) | 2, _ => (first | trivial | rfl) | 3, _ => (first | trivial | rfl) | 4, _ => (first | trivial | rfl))) rfl rfl rfl ?_)
      refine Pt.e ?_
      refine Si.e ?_
      refine ⟨flEq_nil, ?_⟩
      exact ⟨by first | rfl | omega | (simp; done) | (simp; omega), ⟨⟨⟨.refl _, rfl⟩, ⟨.refl _, rfl⟩, ⟨.refl _, trivial⟩, ⟨.refl _, rfl⟩, trivial⟩, ⟨⟨_, rfl, .inr (ob_rows (by rfl) (by intro j hj; rfl)), trivial⟩, ⟨_, rfl, .inr (ob_rowsL (by intro j hj; match j, hj with | 0, _ => exact .refl _ | 1, _ => exact .refl _ | 2, _ => exact .refl _ | 3, _ => exact .refl _ | 4, _ => exact le_nil rfl)), trivial⟩, ⟨_, rfl, .inl rfl, trivial⟩, trivial⟩⟩⟩
     ·exact Pt.no
    ·exact Pt.no
   ·refine Pt.bk (fun ff => ?_) ?_
    ·refine Lo.n rfl (lk rfl) (A.alloc 4 1 ty35 rfl trivial (f := fun j => ([.v (.slice none 0 0), .v (.int .i64 0), .v (.int .i64 0), .v (.int .i64 0), .v (.slice none 0 0)] : List PV).getD j (.v undef)) (fun j hj => by match j, hj with | 0, _ => rfl | 1, _ => rfl | 2, _ => rfl | 3, _ => rfl | 4, _ => rfl) ?_)
     refine ⟨_, fun ff => ff, ap0d, rfl, FG.id, ?_⟩
     show planT _ _ _ _ [(0, .ptr 3 0), (1, .p (.bs _)), (2, .ptr 3 1), (3, .p (.v (.int .i64 _))), (4, .ptr 3 2), (5, .p (.v (.int .i64 _)))] _ _ _
     refine Pt.st ?_
     refine Si.n rfl (lk rfl) (V.faPtr ty57 rfl ty22 (lk rfl) rfl rfl (lk rfl) ?_)
     refine Si.n rfl (lk rfl) (V.ldPtr ty22 rfl rfl rfl (lk rfl) (v := .p (.bs _)) rfl ?_)
     refine Si.n rfl (lk rfl) (V.faPtr ty57 rfl ty2 (lk rfl) rfl rfl (lk rfl) ?_)
     refine Si.n rfl (lk rfl) (V.ldPtr ty2 rfl rfl rfl (lk rfl) (v := .p (.v (.int .i64 _))) rfl ?_)
     refine Si.n rfl (lk rfl) (V.faPtr ty57 rfl ty3 (lk rfl) rfl rfl (lk rfl) ?_)
     refine Si.n rfl (lk rfl) (V.ldPtr ty3 rfl rfl rfl (lk rfl) (v := .p (.v (.int .i64 _))) rfl ?_)
     refine Si.e ?_
     refine ⟨(flEq_cons rfl (flEq_cons rfl (flEq_cons rfl (flEq_cons rfl (flEq_cons rfl (flEq_cons rfl flEq_nil)))))), ?_⟩
     refine Pt.b0 ?_ ?_
     ·refine Lo.n rfl (lk rfl) (A.bldS ty35 rfl rfl ⟨by first | exact trivial | exact rfl | (intro j hj; first | trivial | rfl | (simp [BV.one]; done)), by first | exact trivial | exact rfl | (intro j hj; first | trivial | rfl | (simp [BV.one]; done)), by first | exact trivial | exact rfl | (intro j hj; first | trivial | rfl | (simp [BV.one]; done)), by first | exact trivial | exact rfl | (intro j hj; first | trivial | rfl | (simp [BV.one]; done)), trivial⟩ rfl (f := fun j => ([.bs (pl1 b 0 0).1, .v (.int .i64 ((pl2 b 0 0).1)), .v (.int .i64 ((pl3 b 0 0).1)), .v (.int .i64 ((sg4 b).1)), .v (.slice none 0 0)] : List PV).getD j (.v undef)) (by exact allP_spec (P := fun j => _ = _) ⟨⟨⟨⟨⟨trivial, rfl⟩, rfl⟩, rfl⟩, rfl⟩, rfl⟩) ?_)
      refine Pt.st ?_
      refine Si.e ?_
      refine ⟨flEq_nil, ?_⟩
      refine Pt.b0 ?_ ?_
      ·refine Lo.s rfl (A.stoAg ty35 rfl (n := 5) rfl (by decide) (by intro j hj; first | rfl | trivial | (match j, hj with | 0, _ => (first | trivial | rfl) | 1, _ => (first | trivial | rfl) | 2, _ => (first | trivial | rfl) | 3, _ => (first | trivial | rfl) | 4, _ => (first | trivial | rfl))) rfl rfl rfl ?_)
       refine Pt.e ?_
       refine Si.e ?_
       refine ⟨flEq_nil, ?_⟩
       exact ⟨by first | rfl | omega | (simp; done) | (simp; omega), ⟨⟨⟨.refl _, rfl⟩, ⟨.refl _, rfl⟩, ⟨.refl _, trivial⟩, ⟨.refl _, rfl⟩, trivial⟩, ⟨⟨_, rfl, .inr (ob_rows (by rfl) (by intro j hj; rfl)), trivial⟩, ⟨_, rfl, .inr (ob_rowsL (by intro j hj; match j, hj with | 0, _ => exact .refl _ | 1, _ => exact .refl _ | 2, _ => exact .refl _ | 3, _ => exact .refl _ | 4, _ => exact le_nil rfl)), trivial⟩, ⟨_, rfl, .inl rfl, trivial⟩, trivial⟩⟩⟩
      ·exact Pt.no
     ·exact Pt.no
    ·exact Pt.no
  ·refine Pt.bk (fun ff => ?_) ?_
   ·refine Lo.n rfl (lk rfl) (A.alloc 4 1 ty35 rfl trivial (f := fun j => ([.v (.slice none 0 0), .v (.int .i64 0), .v (.int .i64 0), .v (.int .i64 0), .v (.slice none 0 0)] : List PV).getD j (.v undef)) (fun j hj => by match j, hj with | 0, _ => rfl | 1, _ => rfl | 2, _ => rfl | 3, _ => rfl | 4, _ => rfl) ?_)
    refine ⟨_, fun ff => ff, ap0d, rfl, FG.id, ?_⟩
    show planT _ _ _ _ [(0, .ptr 3 0), (1, .p (.bs _)), (2, .ptr 3 1), (3, .p (.v (.int .i64 _))), (4, .ptr 3 2), (5, .p (.v (.int .i64 _))), (6, .ptr 2 0)] _ _ _
    refine Pt.st ?_
    refine Si.n rfl (lk rfl) (V.faPtr ty57 rfl ty22 (lk rfl) rfl rfl (lk rfl) ?_)
    refine Si.n rfl (lk rfl) (V.ldPtr ty22 rfl rfl rfl (lk rfl) (v := .p (.bs _)) rfl ?_)
    refine Si.n rfl (lk rfl) (V.faPtr ty57 rfl ty2 (lk rfl) rfl rfl (lk rfl) ?_)
    refine Si.n rfl (lk rfl) (V.ldPtr ty2 rfl rfl rfl (lk rfl) (v := .p (.v (.int .i64 _))) rfl ?_)
    refine Si.n rfl (lk rfl) (V.faPtr ty57 rfl ty3 (lk rfl) rfl rfl (lk rfl) ?_)
    refine Si.n rfl (lk rfl) (V.ldPtr ty3 rfl rfl rfl (lk rfl) (v := .p (.v (.int .i64 _))) rfl ?_)
    refine Si.n rfl (lk rfl) (V.mv (v := .ptr 2 0) rfl ?_)
    refine Si.e ?_
    refine ⟨(flEq_cons rfl (flEq_cons rfl (flEq_cons rfl (flEq_cons rfl (flEq_cons rfl (flEq_cons rfl (flEq_cons rfl flEq_nil))))))), ?_⟩
    refine Pt.bk (fun ff => ?_) ?_
    ·refine Lo.n rfl (lk rfl) (A.call [.ptr 1 _, .p (.v (.int .i64 _))] [(1, ⟨_, _, _, _, .rows _⟩)] (sg [(1, 2)]) 5 rfl rfl rfl rfl ⟨rfl, trivial⟩ rfl ⟨trivial, trivial⟩ ⟨rfl, trivial, trivial⟩ trivial rfl (b, (pl3 b 0 0).2.1, (pl3 b 0 0).2.2, 4) ⟨.refl _, .refl _, trivial⟩ ⟨⟨_, rfl, .inl rfl, trivial⟩, trivial⟩ (by trivial) (Φ := fun _ => True) (fun _ _ => trivial) ⟨⟨_, _, rfl, rfl, rfl, Nat.le_refl _⟩, trivial⟩ (.inl rfl) rfl (v := .p (.v (.int .i64 _))) rfl (O' := (2, ⟨_, _, _, _, .rows _⟩) :: _) rfl (fun h3 => ?_))
     refine ⟨_, fun ff => ff, ap0d, rfl, FG.id, ?_⟩
     show planT _ _ _ _ [(0, .ptr 3 0), (1, .p (.bs _)), (2, .ptr 3 1), (3, .p (.v (.int .i64 _))), (4, .ptr 3 2), (5, .p (.v (.int .i64 _)))] _ _ _
     refine Pt.st ?_
     refine Si.n rfl (lk rfl) (V.faPtr ty57 rfl ty22 (lk rfl) rfl rfl (lk rfl) ?_)
     refine Si.n rfl (lk rfl) (V.ldPtr ty22 rfl rfl rfl (lk rfl) (v := .p (.bs _)) rfl ?_)
     refine Si.n rfl (lk rfl) (V.faPtr ty57 rfl ty2 (lk rfl) rfl rfl (lk rfl) ?_)
     refine Si.n rfl (lk rfl) (V.ldPtr ty2 rfl rfl rfl (lk rfl) (v := .p (.v (.int .i64 _))) rfl ?_)
     refine Si.n rfl (lk rfl) (V.faPtr ty57 rfl ty3 (lk rfl) rfl rfl (lk rfl) ?_)
     refine Si.n rfl (lk rfl) (V.ldPtr ty3 rfl rfl rfl (lk rfl) (v := .p (.v (.int .i64 _))) rfl ?_)
     refine Si.e ?_
     refine ⟨(flEq_cons rfl (flEq_cons rfl (flEq_cons rfl (flEq_cons rfl (flEq_cons rfl (flEq_cons rfl flEq_nil)))))), ?_⟩
     refine Pt.b0 ?_ ?_
     ·refine Lo.n rfl (lk rfl) (A.bldS ty35 rfl rfl ⟨by first | exact trivial | exact rfl | (intro j hj; first | trivial | rfl | (simp [BV.one]; done)), by first | exact trivial | exact rfl | (intro j hj; first | trivial | rfl | (simp [BV.one]; done)), by first | exact trivial | exact rfl | (intro j hj; first | trivial | rfl | (simp [BV.one]; done)), by first | exact trivial | exact rfl | (intro j hj; first | trivial | rfl | (simp [BV.one]; done)), trivial⟩ rfl (f := fun j => ([.bs (pl1 b 0 0).1, .v (.int .i64 ((pl2 b 0 0).1)), .v (.int .i64 ((pl3 b 0 0).1)), .v (.int .i64 ((sg4 b).1)), .v (.slice none 0 0)] : List PV).getD j (.v undef)) (by exact allP_spec (P := fun j => _ = _) ⟨⟨⟨⟨⟨trivial, rfl⟩, rfl⟩, rfl⟩, rfl⟩, rfl⟩) ?_)
      refine Pt.st ?_
      refine Si.e ?_
      refine ⟨flEq_nil, ?_⟩
      refine Pt.b0 ?_ ?_
      ·refine Lo.s rfl (A.stoAg ty35 rfl (n := 5) rfl (by decide) (by intro j hj; first | rfl | trivial | (match j, hj with | 0, _ => (first | trivial | rfl) | 1, _ => (first | trivial | rfl) | 2, _ => (first | trivial | rfl) | 3, _ => (first | trivial | rfl) | 4, _ => (first | trivial | rfl))) rfl rfl rfl ?_)
       refine Pt.e ?_
       refine Si.e ?_
       refine ⟨flEq_nil, ?_⟩
       exact ⟨by first | rfl | omega | (simp; done) | (simp; omega), ⟨⟨⟨.refl _, rfl⟩, ⟨.refl _, rfl⟩, ⟨.refl _, trivial⟩, ⟨.refl _, rfl⟩, trivial⟩, ⟨⟨_, rfl, .inr (ob_rows (by rfl) (by intro j hj; rfl)), trivial⟩, ⟨_, rfl, .inr (ob_rowsL (by intro j hj; match j, hj with | 0, _ => exact .refl _ | 1, _ => exact .refl _ | 2, _ => exact .refl _ | 3, _ => exact .refl _ | 4, _ => exact le_nil rfl)), trivial⟩, ⟨_, rfl, .inl rfl, trivial⟩, trivial⟩⟩⟩
      ·exact Pt.no
     ·exact Pt.no
    ·exact Pt.no
   ·exact Pt.no
 ·refine HT.seq ?_
  refine HT.region S_fgets_ok ?_
  refine So.q rfl rfl (V.mv (v := .ptr 2 0) rfl ?_)
  refine So.q rfl rfl (V.faPtr ty35 rfl ty22 (lk rfl) rfl rfl (lk rfl) ?_)
  refine So.n (lk rfl) (A.bsl 5 ty83 ty67 rfl (lk rfl) (lk rfl) (fun _ => rfl) rfl rfl trivial ⟨trivial, trivial⟩ rfl (N := 1) rfl (c := .cells [.ptr 4 4]) rfl ?_)
  refine So.n (lk rfl) (A.call [.ptr 1 _, .own 3 _ _] [(1, ⟨_, _, _, _, .rows _⟩), (2, ⟨_, _, _, _, .rows _⟩), (3, ⟨_, _, _, _, .cells [.ptr 2 4]⟩)] (sg [(1, 2), (3, 5), (2, 4)]) 6 rfl rfl rfl rfl ⟨rfl, rfl, rfl, trivial⟩ rfl ⟨trivial, trivial, ⟨rfl, trivial⟩, trivial⟩ ⟨rfl, rfl, trivial⟩ trivial rfl (b, (sg4 b).2.1, (sg4 b).2.2, fun j => ([.bs (pl1 b 0 0).1, .v (.int .i64 ((pl2 b 0 0).1)), .v (.int .i64 ((pl3 b 0 0).1)), .v (.int .i64 ((sg4 b).1)), .v (.int .i64 0)] : List PV).getD j (.v undef)) ⟨.refl _, .refl _, trivial⟩ ⟨⟨_, rfl, .inl rfl, trivial⟩, ⟨_, rfl, .inl rfl, trivial⟩, ⟨_, rfl, .inl rfl, ⟨rfl, trivial⟩⟩, trivial⟩ (by trivial) (Φ := fun _ => True) (fun _ _ => trivial) ⟨⟨_, _, rfl, rfl, rfl, Nat.le_refl _⟩, ⟨_, _, rfl, rfl, rfl, Nat.le_refl _⟩, trivial⟩ (.inl rfl) rfl (v := .tup 0 _) rfl (O' := (2, ⟨_, _, _, _, .rows _⟩) :: (4, ⟨_, _, _, _, .rows _⟩) :: _) rfl (fun h4 => ?_))
  refine So.e ?_
  show HT _ _ _ _ _
  refine HT.seq ?_
  refine HT.seq ?_
  refine R.tell [] [(4, ⟨35, 1, 5, true, .rows (fun j => ([.bs (pl1 b 0 0).1, .v (.int .i64 ((pl2 b 0 0).1)), .v (.int .i64 ((pl3 b 0 0).1)), .v (.int .i64 ((sg4 b).1)), .bs (sg5 b).1] : List PV).getD j (.v undef))⟩)] [2, 3, 4, 6] [1, 2] (fr0 := [(2, .ptr 1 0), (3, .p (.v (.int .i64 _))), (4, .ptr 2 0), (6, .ptr 4 0)]) (O0 := [(1, ⟨_, _, _, _, .rows _⟩), (2, ⟨_, _, _, _, .rows _⟩)]) rfl rfl ⟨⟨⟨.refl _, rfl⟩, ⟨.refl _, trivial⟩, ⟨.refl _, rfl⟩, ⟨.refl _, rfl⟩, trivial⟩, ⟨⟨_, rfl, .inr (ob_rows (by rfl) (by intro j hj; match j, hj with | 0, _ => rfl | 1, _ => rfl | 2, _ => rfl | 3, _ => rfl | 4, _ => rfl)), trivial⟩, ⟨_, rfl, .inl rfl, trivial⟩, ⟨_, rfl, .inl rfl, trivial⟩, trivial⟩⟩ ?_
  show HT _ _ _ _ _
  refine HT.region S_fgets_ok ?_
  refine So.q rfl rfl (V.mv (v := .ptr 2 0) rfl ?_)
  refine So.q rfl rfl (V.ldPtrA ty35 rfl rfl rfl rfl (lk rfl) ?_)
  refine So.n (lk rfl) (A.call0 [.agg 5 _] 5 rfl rfl rfl rfl ⟨trivial, trivial⟩ trivial ((pl1 b 0 0).1, (pl2 b 0 0).1, (pl3 b 0 0).1, (sg4 b).1, (sg5 b).1) ⟨le_agg (fun j hj => by match j, hj with | 0, _ => rfl | 1, _ => rfl | 2, _ => rfl | 3, _ => rfl | 4, _ => rfl), trivial⟩ trivial (by trivial) (Φ := fun _ => True) (fun _ _ => trivial) (.inl rfl) (v := .p (.v (.bool _))) rfl (O' := _) rfl (fun h5 => ?_))
  refine So.n (lk rfl) (A.call [.ptr 1 _, .p (.v (.bool _))] [(1, ⟨_, _, _, _, .rows _⟩)] (sg [(1, 2)]) 5 rfl rfl rfl rfl ⟨rfl, trivial⟩ rfl ⟨trivial, trivial⟩ ⟨rfl, trivial, trivial⟩ trivial rfl (b, (sg5 b).2.1, (sg5 b).2.2, _) ⟨.refl _, .refl _, trivial⟩ ⟨⟨_, rfl, .inl rfl, trivial⟩, trivial⟩ (by trivial) (Φ := fun _ => True) (fun _ _ => trivial) ⟨⟨_, _, rfl, rfl, rfl, Nat.le_refl _⟩, trivial⟩ (.inl rfl) rfl (v := .p (.v (.int .i64 _))) rfl (O' := (2, ⟨_, _, _, _, .rows _⟩) :: _) rfl (fun h6 => ?_))
  refine So.q rfl rfl (V.as (v := .p (.v (.int .i64 _))) rfl ?_)
  refine So.e ?_
  show HT _ _ _ _ _
  refine HT.seq ?_
  refine HT.region S_fgets_ok ?_
  refine So.q rfl rfl (V.mv (v := .p (.v (.int .i64 _))) rfl ?_)
  refine So.q rfl rfl (V.bin (a := (.v (.int .i64 _))) (b := (.v (.int .i64 (0)))) (r := .v (.bool _)) rfl rfl rfl trivial ?_)
  refine So.e ?_
  show HT _ _ _ _ _
  refine R.cond rfl rfl (fun h7 => ?_) (fun h7 => ?_)
  ·have h7 := of_decide_eq_false (bnT h7)
   refine HT.seq ?_
   refine HT.region S_fgets_ok ?_
   refine So.n (lk rfl) (A.bldS ty35 rfl rfl trivial rfl (f := fun j => ([.v (.slice none 0 0), .v (.int .i64 0), .v (.int .i64 0), .v (.int .i64 0), .v (.slice none 0 0)] : List PV).getD j (.v undef)) (by exact allP_spec (P := fun j => _ = _) ⟨⟨⟨⟨⟨trivial, rfl⟩, rfl⟩, rfl⟩, rfl⟩, rfl⟩) ?_)
   refine So.q rfl rfl (V.mv (v := .p (.v (.int .i64 _))) rfl ?_)
   refine So.s (A.stoAg ty35 rfl (n := 5) rfl (by decide) (by intro j hj; first | rfl | trivial | (match j, hj with | 0, _ => (first | trivial | rfl) | 1, _ => (first | trivial | rfl) | 2, _ => (first | trivial | rfl) | 3, _ => (first | trivial | rfl) | 4, _ => (first | trivial | rfl))) rfl rfl rfl ?_)
   refine So.q rfl rfl (V.as (v := .p (.v (.int .i64 _))) rfl ?_)
   refine So.e ?_
   show HT _ _ _ _ _
   refine HT.ret ?_
   exact retC_ok (sg []) [(2, .ptr 1 0), (3, .p (.v (.int .i64 ((gsE b)))))] [(1, ⟨35, 1, 5, true, .rows (fun j => ([.bs (gs1 b), .v (.int .i64 (gs2 b)), .v (.int .i64 (gs3 b)), .v (.int .i64 (gs4 b)), .bs (gs5 b)] : List PV).getD j (.v undef))⟩)] h ⟨⟨⟨.refl _, rfl⟩, ⟨le_int (by first | with_reducible rfl | (intro j hj; rfl) | (unfold gsE; with_reducible rfl) | (unfold gsE; assumption) | (unfold gsE; exact Eq.symm (by assumption))), trivial⟩, trivial⟩, ⟨⟨_, rfl, .inr (ob_rowsL (by intro j hj; match j, hj with | 0, _ => (first | exact gs_0 (b := b) (by unfold gsE; assumption) 0 (by decide) | exact gs_1 (b := b) (by unfold gsE; assumption) 0 (by decide)) | 1, _ => (first | exact gs_0 (b := b) (by unfold gsE; assumption) 1 (by decide) | exact gs_1 (b := b) (by unfold gsE; assumption) 1 (by decide)) | 2, _ => (first | exact gs_0 (b := b) (by unfold gsE; assumption) 2 (by decide) | exact gs_1 (b := b) (by unfold gsE; assumption) 2 (by decide)) | 3, _ => (first | exact gs_0 (b := b) (by unfold gsE; assumption) 3 (by decide) | exact gs_1 (b := b) (by unfold gsE; assumption) 3 (by decide)) | 4, _ => (first | exact gs_0 (b := b) (by unfold gsE; assumption) 4 (by decide) | exact gs_1 (b := b) (by unfold gsE; assumption) 4 (by decide)))), trivial⟩, trivial⟩⟩ ⟨rvA_cell ty35 rfl rfl rfl rfl (Nat.le_refl _) (le_agg (fun j _ => by first | rfl | (dsimp only; rw [Nat.zero_add]))), .refl _, trivial⟩ trivial rfl trivial ⟨trivial, trivial, trivial⟩ rfl
  ·have h7 := of_decide_eq_true (bnF h7)
   refine HT.skip ?_
   show HT _ _ _ _ _
   refine HT.seq ?_
   refine HT.region S_fgets_ok ?_
   refine So.q rfl rfl (V.ldPtrA ty35 rfl rfl rfl rfl (lk rfl) ?_)
   refine So.s (A.stoAg ty35 rfl (n := 5) rfl (by decide) (by intro j hj; first | rfl | trivial | (match j, hj with | 0, _ => (first | trivial | rfl) | 1, _ => (first | trivial | rfl) | 2, _ => (first | trivial | rfl) | 3, _ => (first | trivial | rfl) | 4, _ => (first | trivial | rfl))) rfl rfl rfl ?_)
   refine So.q rfl rfl (V.as (v := .p (.v (.int .i64 (0)))) rfl ?_)
   refine So.e ?_
   show HT _ _ _ _ _
   refine HT.ret ?_
   exact retC_ok (sg []) [(2, .ptr 1 0), (3, .p (.v (.int .i64 ((gsE b)))))] [(1, ⟨35, 1, 5, true, .rows (fun j => ([.bs (gs1 b), .v (.int .i64 (gs2 b)), .v (.int .i64 (gs3 b)), .v (.int .i64 (gs4 b)), .bs (gs5 b)] : List PV).getD j (.v undef))⟩)] h ⟨⟨⟨.refl _, rfl⟩, ⟨le_int (by first | with_reducible rfl | (intro j hj; rfl) | (unfold gsE; with_reducible rfl) | (unfold gsE; assumption) | (unfold gsE; exact Eq.symm (by assumption))), trivial⟩, trivial⟩, ⟨⟨_, rfl, .inr (ob_rowsL (by intro j hj; match j, hj with | 0, _ => (first | exact gs_0 (b := b) (by unfold gsE; assumption) 0 (by decide) | exact gs_1 (b := b) (by unfold gsE; assumption) 0 (by decide)) | 1, _ => (first | exact gs_0 (b := b) (by unfold gsE; assumption) 1 (by decide) | exact gs_1 (b := b) (by unfold gsE; assumption) 1 (by decide)) | 2, _ => (first | exact gs_0 (b := b) (by unfold gsE; assumption) 2 (by decide) | exact gs_1 (b := b) (by unfold gsE; assumption) 2 (by decide)) | 3, _ => (first | exact gs_0 (b := b) (by unfold gsE; assumption) 3 (by decide) | exact gs_1 (b := b) (by unfold gsE; assumption) 3 (by decide)) | 4, _ => (first | exact gs_0 (b := b) (by unfold gsE; assumption) 4 (by decide) | exact gs_1 (b := b) (by unfold gsE; assumption) 4 (by decide)))), trivial⟩, trivial⟩⟩ ⟨rvA_cell ty35 rfl rfl rfl rfl (Nat.le_refl _) (le_agg (fun j _ => by first | rfl | (dsimp only; rw [Nat.zero_add]))), .refl _, trivial⟩ trivial rfl trivial ⟨trivial, trivial, trivial⟩ rfl
end Go.Vh

set_option linter.unusedVariables false
set_option linter.unusedSimpArgs false
namespace Go.Vh
open Go Go.Vc Go.Proofs Go.Vw
def rgetTextSp : Sp := ⟨[], mkE (α := (List UInt8) × Int) (fun (b, i) => [.p (.bs (b)), .p (.v (.int .i64 (i)))]) (fun (b, i) => []) (fun (b, i) => True) (fun (b, i) => [.own 1 (0) ((getTextF b i).1.length), .p (.v (.int .i64 ((getTextF b i).2.1))), .p (.v (.int .i64 ((getTextF b i).2.2)))]) (fun (b, i) => [(1, ⟨5, 1, ((getTextF b i).1).length, true, .bs ((getTextF b i).1)⟩)])⟩
def S_rgetText : FuncId → Option Sp := fun f => if f = 63 then some rhdSp else none
theorem S_rgetText_ok : ∀ f s, S_rgetText f = some s → FOK Tryd.prog gl f s := fun f s h => by
 unfold S_rgetText at h
 split at h
 ·rename_i e; cases h; subst e; exact rhd_ok
 cases h
set_option maxHeartbeats 1000000 in
set_option maxRecDepth 1000 in
theorem rgetText_ok : FOK Tryd.prog gl 50 rgetTextSp := by
 refine FOK.ofE (tyOf_ok Tryd.prog) (slots := [4, 5, 6]) (nt := 31) Tryd.func50 rfl rfl rfl rfl (by decide) 2 (fun ⟨_, _⟩ => rfl) (by decide) (fun ⟨_, _⟩ => ⟨trivial, trivial, trivial⟩) ?_
 rintro ⟨b, i⟩ kk hlen hpre h
 have hl0 : (b).length ≤ 9223372036854775807 := hlen.1
 replace hpre : True := hpre
 show HT (cx Tryd.prog 31 (tyOf Tryd.prog) gl []) _ [(0, .p (.bs (b))), (1, .p (.v (.int .i64 (i))))] [] _
 refine HT.seq ?_
 refine HT.region S_rgetText_ok ?_
 refine So.q rfl rfl (V.as (v := .p (.v (.slice none 0 0))) rfl ?_)
 refine So.q rfl rfl (V.as (v := .p (.v (.int .i64 (0)))) rfl ?_)
 refine So.q rfl rfl (V.as (v := .p (.v (.int .i64 (0)))) rfl ?_)
 refine So.e ?_
 show HT _ _ _ _ _
 refine HT.seq ?_
 refine HT.region S_rgetText_ok ?_
 refine So.q rfl rfl (V.mv (v := .p (.bs _)) rfl ?_)
 refine So.q rfl rfl (V.mv (v := .p (.v (.int .i64 _))) rfl ?_)
 refine So.n (lk rfl) (A.call0 [.p (.bs _), .p (.v (.int .i64 _))] 1 rfl rfl rfl rfl ⟨trivial, trivial, trivial⟩ trivial (_, _) ⟨.refl _, .refl _, trivial⟩ trivial (by trivial) (Φ := fun (b, i) => (hdF b i).2.2 = 0 → 0 ≤ i ∧ i < (hdF b i).2.1 ∧ 0 ≤ (hdF b i).1 ∧ (hdF b i).2.1 + (hdF b i).1 ≤ b.length ∧ (hdF b i).1 ≤ 1048576) (fun (b, i) _ => hdF_ok b i) (.inl rfl) (v := .tup 3 _) rfl (O' := _) rfl (fun h1 => ?_))
 try dsimp only at h1
 refine So.q rfl rfl (V.mv (v := .tup 3 _) rfl ?_)
 refine So.q rfl rfl (V.ext rfl (lk rfl) (v := .p (.v (.int .i64 _))) rfl ?_)
 refine So.q rfl rfl (V.ext rfl (lk rfl) (v := .p (.v (.int .i64 _))) rfl ?_)
 refine So.q rfl rfl (V.ext rfl (lk rfl) (v := .p (.v (.int .i64 _))) rfl ?_)
 refine So.q rfl rfl (V.as (v := .p (.v (.int .i64 _))) rfl ?_)
 refine So.q rfl rfl (V.as (v := .p (.v (.int .i64 _))) rfl ?_)
 refine So.q rfl rfl (V.as (v := .p (.v (.int .i64 _))) rfl ?_)
 refine So.e ?_
 show HT _ _ _ _ _
 refine HT.seq ?_
 refine HT.seq ?_
 refine HT.region S_rgetText_ok ?_
 have hhd : (hdF b i).2.2 = (spanF b i).2.2 := rfl
 refine So.q rfl rfl (V.mv (v := .p (.v (.int .i64 _))) rfl ?_)
 refine So.q rfl rfl (V.bin (a := (.v (.int .i64 _))) (b := (.v (.int .i64 (0)))) (r := .v (.bool _)) rfl rfl rfl trivial ?_)
 refine So.e ?_
 show HT _ _ _ _ _
 refine R.cond rfl rfl (fun h2 => ?_) (fun h2 => ?_)
 ·have h2 := of_decide_eq_false (bnT h2)
  refine HT.seq ?_
  refine HT.region S_rgetText_ok ?_
  refine So.q rfl rfl (V.mv (v := .p (.v (.int .i64 _))) rfl ?_)
  refine So.q rfl rfl (V.as (v := .p (.v (.slice none 0 0))) rfl ?_)
  refine So.q rfl rfl (V.as (v := .p (.v (.int .i64 (0)))) rfl ?_)
  refine So.q rfl rfl (V.as (v := .p (.v (.int .i64 _))) rfl ?_)
  refine So.e ?_
  show HT _ _ _ _ _
  refine R.phan 4 1 5 1 (.bs []) rfl rfl rfl ⟨rfl, rfl⟩ ?_
  refine HT.ret ?_
  exact ret_ok (sg [(1, 1)]) h rfl rfl rfl ⟨trivial, trivial⟩ ⟨rfl, trivial, trivial, trivial⟩ rfl ⟨⟨⟨le_own2 (by first | rfl | omega) (by first | rfl | (unfold getTextF; simp (disch := omega) only [if_pos, if_neg, ne_eq, hd_to2, hd_from] <;> first | rfl | (simp; done))), rfl⟩, ⟨le_int (by first | rfl | (unfold getTextF; simp (disch := omega) only [if_pos, if_neg, ne_eq, hd_to2, hd_from] <;> first | rfl | (simp; done))), trivial⟩, ⟨le_int (by first | rfl | (unfold getTextF; simp (disch := omega) only [if_pos, if_neg, ne_eq, hd_to2, hd_from] <;> first | rfl | (simp; done))), trivial⟩, trivial⟩, ⟨⟨_, rfl, .inl (ob_bs (by first | rfl | ((try dsimp only); (first | rfl | (unfold getTextF; simp (disch := omega) only [if_pos, if_neg, ne_eq, hd_to2, hd_from] <;> first | rfl | (simp; done))))) (by first | rfl | ((try dsimp only); (first | rfl | (unfold getTextF; simp (disch := omega) only [if_pos, if_neg, ne_eq, hd_to2, hd_from] <;> first | rfl | (simp; done)))))), trivial⟩, trivial⟩⟩
 ·have h2 := of_decide_eq_true (bnF h2)
  refine HT.skip ?_
  show HT _ _ _ _ _
  refine HT.seq ?_
  refine HT.region S_rgetText_ok ?_
  refine So.n (lk rfl) (A.bsl 1 ty22 ty5 rfl (lk rfl) (lk rfl) (fun _ => rfl) rfl rfl trivial trivial rfl (N := 0) rfl (c := .bs []) rfl ?_)
  refine So.q rfl rfl (V.mv (v := .p (.bs _)) rfl ?_)
  refine So.q rfl rfl (V.mv (v := .p (.v (.int .i64 _))) rfl ?_)
  refine So.q rfl rfl (V.mv (v := .p (.v (.int .i64 _))) rfl ?_)
  refine So.q rfl rfl (V.mv (v := .p (.v (.int .i64 _))) rfl ?_)
  refine So.q rfl rfl (V.addI rfl rfl (by omega) ?_)
  refine So.q rfl rfl (V.cutBs ty22 ty5 rfl rfl rfl rfl (by omega) (.inl rfl) rfl ?_)
  refine So.n (lk rfl) (A.apOwn ty22 ty5 rfl rfl rfl rfl (u := .p (.bs _)) rfl rfl rfl rfl (by first | rfl | omega | (simp; done) | (simp; omega)) rfl rfl rfl ?_)
  refine So.q rfl rfl (V.mv (v := .p (.v (.int .i64 _))) rfl ?_)
  refine So.q rfl rfl (V.mv (v := .p (.v (.int .i64 _))) rfl ?_)
  refine So.q rfl rfl (V.addI rfl rfl (by omega) ?_)
  refine So.q rfl rfl (V.as (v := .own 1 0 _) rfl ?_)
  refine So.q rfl rfl (V.as (v := .p (.v (.int .i64 _))) rfl ?_)
  refine So.q rfl rfl (V.as (v := .p (.v (.int .i64 (0)))) rfl ?_)
  refine So.e ?_
  show HT _ _ _ _ _
  refine HT.ret ?_
  exact ret_ok (sg [(1, 1)]) h rfl rfl rfl ⟨trivial, trivial⟩ ⟨rfl, trivial, trivial, trivial⟩ rfl ⟨⟨⟨le_own2 (by first | rfl | omega) (by first | rfl | (unfold getTextF; simp (disch := omega) only [if_pos, if_neg, ne_eq, hd_to2, hd_from] <;> first | rfl | (simp; done))), rfl⟩, ⟨le_int (by first | rfl | (unfold getTextF; simp (disch := omega) only [if_pos, if_neg, ne_eq, hd_to2, hd_from] <;> first | rfl | (simp; done))), trivial⟩, ⟨le_int (by first | rfl | (unfold getTextF; simp (disch := omega) only [if_pos, if_neg, ne_eq, hd_to2, hd_from] <;> first | rfl | (simp; done))), trivial⟩, trivial⟩, ⟨⟨_, rfl, .inl (ob_bs (by first | rfl | ((try dsimp only); (first | rfl | (unfold getTextF; simp (disch := omega) only [if_pos, if_neg, ne_eq, hd_to2, hd_from] <;> first | rfl | (simp; done))))) (by first | rfl | ((try dsimp only); (first | rfl | (unfold getTextF; simp (disch := omega) only [if_pos, if_neg, ne_eq, hd_to2, hd_from] <;> first | rfl | (simp; done)))))), trivial⟩, trivial⟩⟩
end Go.Vh

set_option linter.unusedVariables false
set_option linter.unusedSimpArgs false
namespace Go.Vh
open Go Go.Vc Go.Proofs Go.Vw
def rrtextSp : Sp := ⟨[1], mkE (α := (List UInt8) × Int × Int) (fun (b, p, e) => [.ptr 1 (0)]) (fun (b, p, e) => [(1, ⟨71, 1, 3, true, .rows (fun j => ([.bs b, .v (.int .i64 p), .v (.int .i64 e)] : List PV).getD j (.v undef))⟩)]) (fun (b, p, e) => True) (fun (b, p, e) => [.p (.bs ((rdT b p e).1))]) (fun (b, p, e) => [(1, ⟨71, 1, 3, true, .rows (fun j => ([.bs b, .v (.int .i64 (rdT b p e).2.1), .v (.int .i64 (rdT b p e).2.2)] : List PV).getD j (.v undef))⟩)])⟩
def S_rrtext : FuncId → Option Sp := fun f => if f = 50 then some rgetTextSp else none
theorem S_rrtext_ok : ∀ f s, S_rrtext f = some s → FOK Tryd.prog gl f s := fun f s h => by
 unfold S_rrtext at h
 split at h
 ·rename_i e; cases h; subst e; exact rgetText_ok
 cases h
theorem S_rrtext_det : ∀ f s, S_rrtext f = some s → SpDet s.sp := fun f s h => by
 unfold S_rrtext at h
 split at h
 ·cases h; exact mkE_det _ _ _ _ _
 cases h
set_option maxHeartbeats 1000000 in
set_option maxRecDepth 1000 in
theorem rrtext_ok : FOK Tryd.prog gl 36 rrtextSp := by
 refine FOK.ofE (tyOf_ok Tryd.prog) (slots := [2]) (nt := 33) Tryd.func36 rfl rfl rfl rfl (by decide) 1 (fun ⟨_, _, _⟩ => rfl) (by decide) (fun ⟨_, _, _⟩ => ⟨rfl, trivial⟩) ?_
 rintro ⟨b, p, e⟩ kk hlen hpre h
 replace hpre : True := hpre
 show HT (cx Tryd.prog 33 (tyOf Tryd.prog) gl [1]) _ [(0, .ptr 1 (0))] [(1, ⟨71, 1, 3, true, .rows (fun j => ([.bs b, .v (.int .i64 p), .v (.int .i64 e)] : List PV).getD j (.v undef))⟩)] _
 refine HT.seq ?_
 refine HT.region S_rrtext_ok ?_
 refine So.q rfl rfl (V.as (v := .p (.v (.slice none 0 0))) rfl ?_)
 refine So.e ?_
 show HT _ _ _ _ _
 refine HT.seq ?_
 refine HT.seq ?_
 refine HT.region S_rrtext_ok ?_
 refine So.q rfl rfl (V.mv (v := .ptr 1 0) rfl ?_)
 refine So.q rfl rfl (V.ncPtr rfl ?_)
 refine So.q rfl rfl (V.faPtr ty71 rfl ty29 (lk rfl) rfl rfl (lk rfl) ?_)
 refine So.q rfl rfl (V.ldPtr ty29 rfl rfl rfl (lk rfl) (v := .p (.v (.int .i64 _))) rfl ?_)
 refine So.q rfl rfl (V.bin (a := (.v (.int .i64 _))) (b := (.v (.int .i64 (0)))) (r := .v (.bool _)) rfl rfl rfl trivial ?_)
 refine So.e ?_
 show HT _ _ _ _ _
 refine R.cond rfl rfl (fun h1 => ?_) (fun h1 => ?_)
 ·have h1 := of_decide_eq_false (bnT h1)
  refine HT.seq ?_
  refine HT.region S_rrtext_ok ?_
  refine So.q rfl rfl (V.as (v := .p (.v (.slice none 0 0))) rfl ?_)
  refine So.e ?_
  show HT _ _ _ _ _
  refine HT.ret ?_
  exact ret_ok (sg [(1, 1)]) h rfl rfl rfl ⟨trivial, trivial⟩ ⟨trivial, trivial⟩ rfl ⟨⟨⟨le_nil (by first | with_reducible rfl | (rw [rdT_0 (by assumption)]; done) | (rw [rdT_1 (by assumption)]; done) | (rw [rdT_0 (by assumption)]; (intro j hj; match j, hj with | 0, _ => rfl | 1, _ => rfl | 2, _ => rfl)) | (rw [rdT_1 (by assumption)]; (intro j hj; match j, hj with | 0, _ => rfl | 1, _ => rfl | 2, _ => rfl)) | (rw [rdT_0 (by assumption), take_full])), trivial⟩, trivial⟩, ⟨⟨_, rfl, .inr (ob_rows (by first | rfl | ((try dsimp only); (first | with_reducible rfl | (rw [rdT_0 (by assumption)]; done) | (rw [rdT_1 (by assumption)]; done) | (rw [rdT_0 (by assumption)]; (intro j hj; match j, hj with | 0, _ => rfl | 1, _ => rfl | 2, _ => rfl)) | (rw [rdT_1 (by assumption)]; (intro j hj; match j, hj with | 0, _ => rfl | 1, _ => rfl | 2, _ => rfl)) | (rw [rdT_0 (by assumption), take_full])))) (by first | rfl | ((try dsimp only); (first | with_reducible rfl | (rw [rdT_0 (by assumption)]; done) | (rw [rdT_1 (by assumption)]; done) | (rw [rdT_0 (by assumption)]; (intro j hj; match j, hj with | 0, _ => rfl | 1, _ => rfl | 2, _ => rfl)) | (rw [rdT_1 (by assumption)]; (intro j hj; match j, hj with | 0, _ => rfl | 1, _ => rfl | 2, _ => rfl)) | (rw [rdT_0 (by assumption), take_full]))))), trivial⟩, trivial⟩⟩
 ·have h1 := of_decide_eq_true (bnF h1)
  refine HT.skip ?_
  show HT _ _ _ _ _
  refine HT.seq ?_
  refine HT.drawn S_rrtext_ok S_rrtext_det mixed (by kernel_rfl) ?_
  refine Sd.n (lk rfl) (V.mv (v := .ptr 1 0) rfl ?_)
  refine Sd.n (lk rfl) (V.ncPtr rfl ?_)
  refine Sd.n (lk rfl) (V.faPtr ty71 rfl ty22 (lk rfl) rfl rfl (lk rfl) ?_)
  refine Sd.n (lk rfl) (V.ldPtr ty22 rfl rfl rfl (lk rfl) (v := .p (.bs _)) rfl ?_)
  refine Sd.n (lk rfl) (V.mv (v := .ptr 1 0) rfl ?_)
  refine Sd.n (lk rfl) (V.ncPtr rfl ?_)
  refine Sd.n (lk rfl) (V.faPtr ty71 rfl ty3 (lk rfl) rfl rfl (lk rfl) ?_)
  refine Sd.n (lk rfl) (V.ldPtr ty3 rfl rfl rfl (lk rfl) (v := .p (.v (.int .i64 _))) rfl ?_)
  refine Sd.n (lk rfl) (V.call [.p (.bs _), .p (.v (.int .i64 _))] 2 rfl rfl rfl rfl ⟨trivial, trivial, trivial⟩ ⟨lk rfl, trivial⟩ (_, _) ⟨.refl _, .refl _, trivial⟩ trivial (by trivial) (Φ := fun (b, i) => ((getTextF b i).2.2 = 0 → 0 ≤ i ∧ i < (getTextF b i).2.1 ∧ (getTextF b i).2.1 ≤ b.length) ∧ (getTextF b i).1.length ≤ 1048576) (fun (b, i) _ => ⟨getTextF_ok b i, getTextF_len b i⟩) (.inl ⟨trivial, trivial, trivial⟩) (v := .tup 3 _) rfl (fun h2 => ?_))
  try dsimp only at h2
  refine Sd.n (lk rfl) (V.mv (v := .tup 3 _) rfl ?_)
  refine Sd.n (lk rfl) (V.ext rfl (lk rfl) (v := .p (.bs _)) rfl ?_)
  refine Sd.n (lk rfl) (V.ext rfl (lk rfl) (v := .p (.v (.int .i64 _))) rfl ?_)
  refine Sd.n (lk rfl) (V.ext rfl (lk rfl) (v := .p (.v (.int .i64 _))) rfl ?_)
  refine Sd.n (lk rfl) (V.as (v := .p (.bs _)) rfl ?_)
  refine Sd.n (lk rfl) (V.as (v := .p (.v (.int .i64 _))) rfl ?_)
  refine Sd.n (lk rfl) (V.as (v := .p (.v (.int .i64 _))) rfl ?_)
  refine Sd.e ?_
  show HT _ _ _ _ _
  refine HT.seq ?_
  refine HT.region S_rrtext_ok ?_
  refine So.q rfl rfl (V.mv (v := .ptr 1 0) rfl ?_)
  refine So.q rfl rfl (V.mv (v := .p (.v (.int .i64 _))) rfl ?_)
  refine So.q rfl rfl (V.ncPtr rfl ?_)
  refine So.q rfl rfl (V.faPtr ty71 rfl ty3 (lk rfl) rfl rfl (lk rfl) ?_)
  refine So.s (A.sto ty3 rfl rfl rfl (v := .p (.v (.int .i64 _))) rfl rfl rfl (lk rfl) rfl rfl ?_)
  refine So.e ?_
  show HT _ _ _ _ _
  refine HT.seq ?_
  refine HT.region S_rrtext_ok ?_
  refine So.q rfl rfl (V.mv (v := .ptr 1 0) rfl ?_)
  refine So.q rfl rfl (V.mv (v := .p (.v (.int .i64 _))) rfl ?_)
  refine So.q rfl rfl (V.ncPtr rfl ?_)
  refine So.q rfl rfl (V.faPtr ty71 rfl ty29 (lk rfl) rfl rfl (lk rfl) ?_)
  refine So.s (A.sto ty29 rfl rfl rfl (v := .p (.v (.int .i64 _))) rfl rfl rfl (lk rfl) rfl rfl ?_)
  refine So.e ?_
  show HT _ _ _ _ _
  refine HT.seq ?_
  refine HT.region S_rrtext_ok ?_
  refine So.q rfl rfl (V.mv (v := .p (.bs _)) rfl ?_)
  refine So.q rfl rfl (V.as (v := .p (.bs _)) rfl ?_)
  refine So.e ?_
  show HT _ _ _ _ _
  refine HT.ret ?_
  exact ret_ok (sg [(1, 1)]) h rfl rfl rfl ⟨trivial, trivial⟩ ⟨trivial, trivial⟩ rfl ⟨⟨⟨le_bs (by first | with_reducible rfl | (rw [rdT_0 (by assumption)]; done) | (rw [rdT_1 (by assumption)]; done) | (rw [rdT_0 (by assumption)]; (intro j hj; match j, hj with | 0, _ => rfl | 1, _ => rfl | 2, _ => rfl)) | (rw [rdT_1 (by assumption)]; (intro j hj; match j, hj with | 0, _ => rfl | 1, _ => rfl | 2, _ => rfl)) | (rw [rdT_0 (by assumption), take_full])), trivial⟩, trivial⟩, ⟨⟨_, rfl, .inr (ob_rows (by first | rfl | ((try dsimp only); (first | with_reducible rfl | (rw [rdT_0 (by assumption)]; done) | (rw [rdT_1 (by assumption)]; done) | (rw [rdT_0 (by assumption)]; (intro j hj; match j, hj with | 0, _ => rfl | 1, _ => rfl | 2, _ => rfl)) | (rw [rdT_1 (by assumption)]; (intro j hj; match j, hj with | 0, _ => rfl | 1, _ => rfl | 2, _ => rfl)) | (rw [rdT_0 (by assumption), take_full])))) (by first | rfl | ((try dsimp only); (first | with_reducible rfl | (rw [rdT_0 (by assumption)]; done) | (rw [rdT_1 (by assumption)]; done) | (rw [rdT_0 (by assumption)]; (intro j hj; match j, hj with | 0, _ => rfl | 1, _ => rfl | 2, _ => rfl)) | (rw [rdT_1 (by assumption)]; (intro j hj; match j, hj with | 0, _ => rfl | 1, _ => rfl | 2, _ => rfl)) | (rw [rdT_0 (by assumption), take_full]))))), trivial⟩, trivial⟩⟩
def rrnumSp : Sp := ⟨[1], mkE (α := (List UInt8) × Int × Int × Int) (fun (b, p, e, k) => [.ptr 1 (0), .p (.v (.int .i64 (k)))]) (fun (b, p, e, k) => [(1, ⟨71, 1, 3, true, .rows (fun j => ([.bs b, .v (.int .i64 p), .v (.int .i64 e)] : List PV).getD j (.v undef))⟩)]) (fun (b, p, e, k) => True) (fun (b, p, e, k) => [.p (.v (.int .i64 ((rdN b p e k).1)))]) (fun (b, p, e, k) => [(1, ⟨71, 1, 3, true, .rows (fun j => ([.bs b, .v (.int .i64 (rdN b p e k).2.1), .v (.int .i64 (rdN b p e k).2.2)] : List PV).getD j (.v undef))⟩)])⟩
def S_rrnum : FuncId → Option Sp := fun f => if f = 51 then some rgetSp else none
theorem S_rrnum_ok : ∀ f s, S_rrnum f = some s → FOK Tryd.prog gl f s := fun f s h => by
 unfold S_rrnum at h
 split at h
 ·rename_i e; cases h; subst e; exact rget_ok
 cases h
theorem S_rrnum_det : ∀ f s, S_rrnum f = some s → SpDet s.sp := fun f s h => by
 unfold S_rrnum at h
 split at h
 ·cases h; exact mkE_det _ _ _ _ _
 cases h
set_option maxHeartbeats 1000000 in
set_option maxRecDepth 1000 in
theorem rrnum_ok : FOK Tryd.prog gl 37 rrnumSp := by
 refine FOK.ofE (tyOf_ok Tryd.prog) (slots := [4]) (nt := 36) Tryd.func37 rfl rfl rfl rfl (by decide) 2 (fun ⟨_, _, _, _⟩ => rfl) (by decide) (fun ⟨_, _, _, _⟩ => ⟨rfl, trivial, trivial⟩) ?_
 rintro ⟨b, p, e, k⟩ kk hlen hpre h
 replace hpre : True := hpre
 show HT (cx Tryd.prog 36 (tyOf Tryd.prog) gl [1]) _ [(0, .ptr 1 (0)), (1, .p (.v (.int .i64 (k))))] [(1, ⟨71, 1, 3, true, .rows (fun j => ([.bs b, .v (.int .i64 p), .v (.int .i64 e)] : List PV).getD j (.v undef))⟩)] _
 refine HT.seq ?_
 refine HT.region S_rrnum_ok ?_
 refine So.q rfl rfl (V.as (v := .p (.v (.int .i64 (0)))) rfl ?_)
 refine So.e ?_
 show HT _ _ _ _ _
 refine HT.seq ?_
 refine HT.seq ?_
 refine HT.region S_rrnum_ok ?_
 refine So.q rfl rfl (V.mv (v := .ptr 1 0) rfl ?_)
 refine So.q rfl rfl (V.ncPtr rfl ?_)
 refine So.q rfl rfl (V.faPtr ty71 rfl ty29 (lk rfl) rfl rfl (lk rfl) ?_)
 refine So.q rfl rfl (V.ldPtr ty29 rfl rfl rfl (lk rfl) (v := .p (.v (.int .i64 _))) rfl ?_)
 refine So.q rfl rfl (V.bin (a := (.v (.int .i64 _))) (b := (.v (.int .i64 (0)))) (r := .v (.bool _)) rfl rfl rfl trivial ?_)
 refine So.e ?_
 show HT _ _ _ _ _
 refine R.cond rfl rfl (fun h1 => ?_) (fun h1 => ?_)
 ·have h1 := of_decide_eq_false (bnT h1)
  refine HT.seq ?_
  refine HT.region S_rrnum_ok ?_
  refine So.q rfl rfl (V.as (v := .p (.v (.int .i64 (0)))) rfl ?_)
  refine So.e ?_
  show HT _ _ _ _ _
  refine HT.ret ?_
  exact ret_ok (sg [(1, 1)]) h rfl rfl rfl ⟨trivial, trivial⟩ ⟨trivial, trivial⟩ rfl ⟨⟨⟨le_int (by first | with_reducible rfl | (rw [rdN_0 (by assumption)]; done) | (rw [rdN_1 (by assumption)]; done) | (rw [rdN_0 (by assumption)]; (intro j hj; match j, hj with | 0, _ => rfl | 1, _ => rfl | 2, _ => rfl)) | (rw [rdN_1 (by assumption)]; (intro j hj; match j, hj with | 0, _ => rfl | 1, _ => rfl | 2, _ => rfl)) | (rw [rdN_0 (by assumption), take_full])), trivial⟩, trivial⟩, ⟨⟨_, rfl, .inr (ob_rows (by first | rfl | ((try dsimp only); (first | with_reducible rfl | (rw [rdN_0 (by assumption)]; done) | (rw [rdN_1 (by assumption)]; done) | (rw [rdN_0 (by assumption)]; (intro j hj; match j, hj with | 0, _ => rfl | 1, _ => rfl | 2, _ => rfl)) | (rw [rdN_1 (by assumption)]; (intro j hj; match j, hj with | 0, _ => rfl | 1, _ => rfl | 2, _ => rfl)) | (rw [rdN_0 (by assumption), take_full])))) (by first | rfl | ((try dsimp only); (first | with_reducible rfl | (rw [rdN_0 (by assumption)]; done) | (rw [rdN_1 (by assumption)]; done) | (rw [rdN_0 (by assumption)]; (intro j hj; match j, hj with | 0, _ => rfl | 1, _ => rfl | 2, _ => rfl)) | (rw [rdN_1 (by assumption)]; (intro j hj; match j, hj with | 0, _ => rfl | 1, _ => rfl | 2, _ => rfl)) | (rw [rdN_0 (by assumption), take_full]))))), trivial⟩, trivial⟩⟩
 ·have h1 := of_decide_eq_true (bnF h1)
  refine HT.skip ?_
  show HT _ _ _ _ _
  refine HT.seq ?_
  refine HT.drawn S_rrnum_ok S_rrnum_det mixed (by kernel_rfl) ?_
  refine Sd.n (lk rfl) (V.mv (v := .ptr 1 0) rfl ?_)
  refine Sd.n (lk rfl) (V.ncPtr rfl ?_)
  refine Sd.n (lk rfl) (V.faPtr ty71 rfl ty22 (lk rfl) rfl rfl (lk rfl) ?_)
  refine Sd.n (lk rfl) (V.ldPtr ty22 rfl rfl rfl (lk rfl) (v := .p (.bs _)) rfl ?_)
  refine Sd.n (lk rfl) (V.mv (v := .ptr 1 0) rfl ?_)
  refine Sd.n (lk rfl) (V.ncPtr rfl ?_)
  refine Sd.n (lk rfl) (V.faPtr ty71 rfl ty3 (lk rfl) rfl rfl (lk rfl) ?_)
  refine Sd.n (lk rfl) (V.ldPtr ty3 rfl rfl rfl (lk rfl) (v := .p (.v (.int .i64 _))) rfl ?_)
  refine Sd.n (lk rfl) (V.mv (v := .p (.v (.int .i64 _))) rfl ?_)
  refine Sd.n (lk rfl) (V.call [.p (.bs _), .p (.v (.int .i64 _)), .p (.v (.int .i64 _))] 2 rfl rfl rfl rfl ⟨trivial, trivial, trivial, trivial⟩ ⟨lk rfl, trivial⟩ (_, _, _) ⟨.refl _, .refl _, .refl _, trivial⟩ trivial (by trivial) (Φ := fun _ => True) (fun _ _ => trivial) (.inl ⟨trivial, trivial, trivial, trivial⟩) (v := .tup 3 _) rfl (fun h2 => ?_))
  refine Sd.n (lk rfl) (V.mv (v := .tup 3 _) rfl ?_)
  refine Sd.n (lk rfl) (V.ext rfl (lk rfl) (v := .p (.v (.int .i64 _))) rfl ?_)
  refine Sd.n (lk rfl) (V.ext rfl (lk rfl) (v := .p (.v (.int .i64 _))) rfl ?_)
  refine Sd.n (lk rfl) (V.ext rfl (lk rfl) (v := .p (.v (.int .i64 _))) rfl ?_)
  refine Sd.n (lk rfl) (V.as (v := .p (.v (.int .i64 _))) rfl ?_)
  refine Sd.n (lk rfl) (V.as (v := .p (.v (.int .i64 _))) rfl ?_)
  refine Sd.n (lk rfl) (V.as (v := .p (.v (.int .i64 _))) rfl ?_)
  refine Sd.e ?_
  show HT _ _ _ _ _
  refine HT.seq ?_
  refine HT.region S_rrnum_ok ?_
  refine So.q rfl rfl (V.mv (v := .ptr 1 0) rfl ?_)
  refine So.q rfl rfl (V.mv (v := .p (.v (.int .i64 _))) rfl ?_)
  refine So.q rfl rfl (V.ncPtr rfl ?_)
  refine So.q rfl rfl (V.faPtr ty71 rfl ty3 (lk rfl) rfl rfl (lk rfl) ?_)
  refine So.s (A.sto ty3 rfl rfl rfl (v := .p (.v (.int .i64 _))) rfl rfl rfl (lk rfl) rfl rfl ?_)
  refine So.e ?_
  show HT _ _ _ _ _
  refine HT.seq ?_
  refine HT.region S_rrnum_ok ?_
  refine So.q rfl rfl (V.mv (v := .ptr 1 0) rfl ?_)
  refine So.q rfl rfl (V.mv (v := .p (.v (.int .i64 _))) rfl ?_)
  refine So.q rfl rfl (V.ncPtr rfl ?_)
  refine So.q rfl rfl (V.faPtr ty71 rfl ty29 (lk rfl) rfl rfl (lk rfl) ?_)
  refine So.s (A.sto ty29 rfl rfl rfl (v := .p (.v (.int .i64 _))) rfl rfl rfl (lk rfl) rfl rfl ?_)
  refine So.e ?_
  show HT _ _ _ _ _
  refine HT.seq ?_
  refine HT.region S_rrnum_ok ?_
  refine So.q rfl rfl (V.mv (v := .p (.v (.int .i64 _))) rfl ?_)
  refine So.q rfl rfl (V.as (v := .p (.v (.int .i64 _))) rfl ?_)
  refine So.e ?_
  show HT _ _ _ _ _
  refine HT.ret ?_
  exact ret_ok (sg [(1, 1)]) h rfl rfl rfl ⟨trivial, trivial⟩ ⟨trivial, trivial⟩ rfl ⟨⟨⟨le_int (by first | with_reducible rfl | (rw [rdN_0 (by assumption)]; done) | (rw [rdN_1 (by assumption)]; done) | (rw [rdN_0 (by assumption)]; (intro j hj; match j, hj with | 0, _ => rfl | 1, _ => rfl | 2, _ => rfl)) | (rw [rdN_1 (by assumption)]; (intro j hj; match j, hj with | 0, _ => rfl | 1, _ => rfl | 2, _ => rfl)) | (rw [rdN_0 (by assumption), take_full])), trivial⟩, trivial⟩, ⟨⟨_, rfl, .inr (ob_rows (by first | rfl | ((try dsimp only); (first | with_reducible rfl | (rw [rdN_0 (by assumption)]; done) | (rw [rdN_1 (by assumption)]; done) | (rw [rdN_0 (by assumption)]; (intro j hj; match j, hj with | 0, _ => rfl | 1, _ => rfl | 2, _ => rfl)) | (rw [rdN_1 (by assumption)]; (intro j hj; match j, hj with | 0, _ => rfl | 1, _ => rfl | 2, _ => rfl)) | (rw [rdN_0 (by assumption), take_full])))) (by first | rfl | ((try dsimp only); (first | with_reducible rfl | (rw [rdN_0 (by assumption)]; done) | (rw [rdN_1 (by assumption)]; done) | (rw [rdN_0 (by assumption)]; (intro j hj; match j, hj with | 0, _ => rfl | 1, _ => rfl | 2, _ => rfl)) | (rw [rdN_1 (by assumption)]; (intro j hj; match j, hj with | 0, _ => rfl | 1, _ => rfl | 2, _ => rfl)) | (rw [rdN_0 (by assumption), take_full]))))), trivial⟩, trivial⟩⟩
end Go.Vh

set_option linter.unusedVariables false
set_option linter.unusedSimpArgs false
namespace Go.Vh
open Go Go.Vc Go.Proofs Go.Vw
def rgetsSp : Sp := ⟨[], mkE (α := (List UInt8)) (fun b => [.p (.bs (b))]) (fun b => []) (fun b => True) (fun b => [.agg 5 (fun j => ([.bs (gs1 b), .v (.int .i64 (gs2 b)), .v (.int .i64 (gs3 b)), .v (.int .i64 (gs4 b)), .bs (gs5 b)] : List PV).getD j (.v undef)), .p (.v (.int .i64 ((gsE b))))]) (fun b => [])⟩
def S_rgets : FuncId → Option Sp := fun f => if f = 36 then some rrtextSp else if f = 37 then some rrnumSp else if f = 30 then some rsealSp else none
theorem S_rgets_ok : ∀ f s, S_rgets f = some s → FOK Tryd.prog gl f s := fun f s h => by
 unfold S_rgets at h
 split at h
 ·rename_i e; cases h; subst e; exact rrtext_ok
 split at h
 ·rename_i e; cases h; subst e; exact rrnum_ok
 split at h
 ·rename_i e; cases h; subst e; exact rseal_ok
 cases h
theorem S_rgets_det : ∀ f s, S_rgets f = some s → SpDet s.sp := fun f s h => by
 unfold S_rgets at h
 split at h
 ·cases h; exact mkE_det _ _ _ _ _
 split at h
 ·cases h; exact mkE_det _ _ _ _ _
 split at h
 ·cases h; exact mkE_det _ _ _ _ _
 cases h
set_option maxHeartbeats 1000000 in
set_option maxRecDepth 1000 in
theorem rgets_ok : FOK Tryd.prog gl 16 rgetsSp := by
 refine FOK.ofEC (tyOf_ok Tryd.prog) (rvs := [.cell 2 35, .tmp 3]) (nt := 50) Tryd.func16 rfl rfl rfl rfl (by decide) 1 (fun _ => rfl) (by decide) (fun _ => ⟨trivial, trivial⟩) ?_
 rintro b kk hlen hpre h
 have hl0 : (b).length ≤ 9223372036854775807 := hlen.1
 replace hpre : True := hpre
 show HT (cx Tryd.prog 50 (tyOf Tryd.prog) gl []) _ [(0, .p (.bs (b)))] [] _
 refine HT.seq ?_
 refine HT.region S_rgets_ok ?_
 refine So.n (lk rfl) (A.alloc 1 1 ty35 rfl trivial (f := fun j => ([.v (.slice none 0 0), .v (.int .i64 0), .v (.int .i64 0), .v (.int .i64 0), .v (.slice none 0 0)] : List PV).getD j (.v undef)) (fun j hj => by match j, hj with | 0, _ => rfl | 1, _ => rfl | 2, _ => rfl | 3, _ => rfl | 4, _ => rfl) ?_)
 refine So.q rfl rfl (V.as (v := .p (.v (.int .i64 (0)))) rfl ?_)
 refine So.e ?_
 show HT _ _ _ _ _
 refine HT.seq ?_
 refine HT.region S_rgets_ok ?_
 refine So.q rfl rfl (V.mv (v := .p (.bs _)) rfl ?_)
 refine So.n (lk rfl) (A.bldS ty71 rfl rfl ⟨by first | exact trivial | exact rfl | (intro j hj; first | trivial | rfl | (simp [BV.one]; done)), trivial⟩ rfl (f := fun j => ([.bs b, .v (.int .i64 0), .v (.int .i64 0)] : List PV).getD j (.v undef)) (by exact allP_spec (P := fun j => _ = _) ⟨⟨⟨trivial, rfl⟩, rfl⟩, rfl⟩) ?_)
 refine So.n (lk rfl) (A.boxAg 2 1 (n := 3) rfl (by intro j hj; first | rfl | trivial | (match j, hj with | 0, _ => (first | trivial | rfl) | 1, _ => (first | trivial | rfl) | 2, _ => (first | trivial | rfl)) | (split <;> first | rfl | trivial | (split <;> first | rfl | trivial))) rfl trivial ?_)
 refine So.q rfl rfl (V.as (v := .ptr 2 0) rfl ?_)
 refine So.e ?_
 show HT _ _ _ _ _
 refine HT.seq ?_
 refine HT.region S_rgets_ok ?_
 refine So.n (lk rfl) (A.alloc 3 1 ty35 rfl trivial (f := fun j => ([.v (.slice none 0 0), .v (.int .i64 0), .v (.int .i64 0), .v (.int .i64 0), .v (.slice none 0 0)] : List PV).getD j (.v undef)) (fun j hj => by match j, hj with | 0, _ => rfl | 1, _ => rfl | 2, _ => rfl | 3, _ => rfl | 4, _ => rfl) ?_)
 refine So.e ?_
 show HT _ _ _ _ _
 refine HT.seq ?_
 refine HT.region S_rgets_ok ?_
 refine So.q rfl rfl (V.mv (v := .ptr 2 0) rfl ?_)
 refine So.n (lk rfl) (A.call [.ptr 1 _] [(1, ⟨_, _, _, _, .rows _⟩)] (sg [(1, 2)]) 4 rfl rfl rfl rfl ⟨rfl, trivial⟩ rfl ⟨trivial, trivial⟩ ⟨rfl, trivial⟩ trivial rfl (b, 0, 0) ⟨.refl _, trivial⟩ ⟨⟨_, rfl, .inl rfl, trivial⟩, trivial⟩ (by trivial) (Φ := fun _ => True) (fun _ _ => trivial) ⟨⟨_, _, rfl, rfl, rfl, Nat.le_refl _⟩, trivial⟩ (.inl rfl) rfl (v := .p (.bs _)) rfl (O' := (2, ⟨_, _, _, _, .rows _⟩) :: _) rfl (fun h1 => ?_))
 refine So.q rfl rfl (V.faPtr ty35 rfl ty22 (lk rfl) rfl rfl (lk rfl) ?_)
 refine So.s (A.sto ty22 rfl rfl rfl (v := .p (.bs _)) rfl trivial rfl (lk rfl) rfl rfl ?_)
 refine So.e ?_
 show HT _ _ _ _ _
 refine HT.seq ?_
 refine HT.region S_rgets_ok ?_
 refine So.q rfl rfl (V.mv (v := .ptr 2 0) rfl ?_)
 refine So.n (lk rfl) (A.call [.ptr 1 _, .p (.v (.int .i64 _))] [(1, ⟨_, _, _, _, .rows _⟩)] (sg [(1, 2)]) 4 rfl rfl rfl rfl ⟨rfl, trivial⟩ rfl ⟨trivial, trivial⟩ ⟨rfl, trivial, trivial⟩ trivial rfl (b, (pl1 b 0 0).2.1, (pl1 b 0 0).2.2, 8) ⟨.refl _, .refl _, trivial⟩ ⟨⟨_, rfl, .inl rfl, trivial⟩, trivial⟩ (by trivial) (Φ := fun _ => True) (fun _ _ => trivial) ⟨⟨_, _, rfl, rfl, rfl, Nat.le_refl _⟩, trivial⟩ (.inl rfl) rfl (v := .p (.v (.int .i64 _))) rfl (O' := (2, ⟨_, _, _, _, .rows _⟩) :: _) rfl (fun h2 => ?_))
 refine So.q rfl rfl (V.faPtr ty35 rfl ty2 (lk rfl) rfl rfl (lk rfl) ?_)
 refine So.s (A.sto ty2 rfl rfl rfl (v := .p (.v (.int .i64 _))) rfl rfl rfl (lk rfl) rfl rfl ?_)
 refine So.e ?_
 show HT _ _ _ _ _
 refine HT.seq ?_
 refine HT.region S_rgets_ok ?_
 refine So.q rfl rfl (V.mv (v := .ptr 2 0) rfl ?_)
 refine So.n (lk rfl) (A.call [.ptr 1 _, .p (.v (.int .i64 _))] [(1, ⟨_, _, _, _, .rows _⟩)] (sg [(1, 2)]) 4 rfl rfl rfl rfl ⟨rfl, trivial⟩ rfl ⟨trivial, trivial⟩ ⟨rfl, trivial, trivial⟩ trivial rfl (b, (pl2 b 0 0).2.1, (pl2 b 0 0).2.2, 4) ⟨.refl _, .refl _, trivial⟩ ⟨⟨_, rfl, .inl rfl, trivial⟩, trivial⟩ (by trivial) (Φ := fun _ => True) (fun _ _ => trivial) ⟨⟨_, _, rfl, rfl, rfl, Nat.le_refl _⟩, trivial⟩ (.inl rfl) rfl (v := .p (.v (.int .i64 _))) rfl (O' := (2, ⟨_, _, _, _, .rows _⟩) :: _) rfl (fun h3 => ?_))
 refine So.q rfl rfl (V.as (v := .p (.v (.int .i64 _))) rfl ?_)
 refine So.e ?_
 show HT _ _ _ _ _
 refine HT.seq ?_
 refine HT.region S_rgets_ok ?_
 refine So.q rfl rfl (V.mv (v := .ptr 2 0) rfl ?_)
 refine So.n (lk rfl) (A.call [.ptr 1 _, .p (.v (.int .i64 _))] [(1, ⟨_, _, _, _, .rows _⟩)] (sg [(1, 2)]) 4 rfl rfl rfl rfl ⟨rfl, trivial⟩ rfl ⟨trivial, trivial⟩ ⟨rfl, trivial, trivial⟩ trivial rfl (b, (pl3 b 0 0).2.1, (pl3 b 0 0).2.2, 4) ⟨.refl _, .refl _, trivial⟩ ⟨⟨_, rfl, .inl rfl, trivial⟩, trivial⟩ (by trivial) (Φ := fun _ => True) (fun _ _ => trivial) ⟨⟨_, _, rfl, rfl, rfl, Nat.le_refl _⟩, trivial⟩ (.inl rfl) rfl (v := .p (.v (.int .i64 _))) rfl (O' := (2, ⟨_, _, _, _, .rows _⟩) :: _) rfl (fun h4 => ?_))
 refine So.q rfl rfl (V.faPtr ty35 rfl ty2 (lk rfl) rfl rfl (lk rfl) ?_)
 refine So.s (A.sto ty2 rfl rfl rfl (v := .p (.v (.int .i64 _))) rfl rfl rfl (lk rfl) rfl rfl ?_)
 refine So.e ?_
 show HT _ _ _ _ _
 refine HT.seq ?_
 refine HT.region S_rgets_ok ?_
 refine So.q rfl rfl (V.mv (v := .ptr 2 0) rfl ?_)
 refine So.n (lk rfl) (A.call [.ptr 1 _] [(1, ⟨_, _, _, _, .rows _⟩)] (sg [(1, 2)]) 4 rfl rfl rfl rfl ⟨rfl, trivial⟩ rfl ⟨trivial, trivial⟩ ⟨rfl, trivial⟩ trivial rfl (b, (sg4 b).2.1, (sg4 b).2.2) ⟨.refl _, trivial⟩ ⟨⟨_, rfl, .inl rfl, trivial⟩, trivial⟩ (by trivial) (Φ := fun _ => True) (fun _ _ => trivial) ⟨⟨_, _, rfl, rfl, rfl, Nat.le_refl _⟩, trivial⟩ (.inl rfl) rfl (v := .p (.bs _)) rfl (O' := (2, ⟨_, _, _, _, .rows _⟩) :: _) rfl (fun h5 => ?_))
 refine So.q rfl rfl (V.faPtr ty35 rfl ty22 (lk rfl) rfl rfl (lk rfl) ?_)
 refine So.s (A.sto ty22 rfl rfl rfl (v := .p (.bs _)) rfl trivial rfl (lk rfl) rfl rfl ?_)
 refine So.e ?_
 show HT _ _ _ _ _
 refine HT.seq ?_
 refine HT.region S_rgets_ok ?_
 refine So.q rfl rfl (V.mv (v := .p (.v (.int .i64 _))) rfl ?_)
 refine So.q rfl rfl (V.faPtr ty35 rfl ty3 (lk rfl) rfl rfl (lk rfl) ?_)
 refine So.s (A.sto ty3 rfl rfl rfl (v := .p (.v (.int .i64 _))) rfl rfl rfl (lk rfl) rfl rfl ?_)
 refine So.e ?_
 show HT _ _ _ _ _
 refine HT.seq ?_
 refine HT.seq ?_
 refine R.tell [] [(3, ⟨35, 1, 5, true, .rows (fun j => ([.bs (pl1 b 0 0).1, .v (.int .i64 ((pl2 b 0 0).1)), .v (.int .i64 ((pl3 b 0 0).1)), .v (.int .i64 ((sg4 b).1)), .bs (sg5 b).1] : List PV).getD j (.v undef))⟩), (2, ⟨71, 1, 3, true, .rows (fun j => ([.bs b, .v (.int .i64 (sg5 b).2.1), .v (.int .i64 (sg5 b).2.2)] : List PV).getD j (.v undef))⟩)] [0, 2, 3, 4, 5] [1] (fr0 := [(0, .p (.bs _)), (2, .ptr 1 0), (3, .p (.v (.int .i64 _))), (4, .ptr 2 0), (5, .ptr 3 0)]) (O0 := [(1, ⟨_, _, _, _, .rows _⟩)]) rfl rfl ⟨⟨⟨.refl _, trivial⟩, ⟨.refl _, rfl⟩, ⟨.refl _, trivial⟩, ⟨.refl _, rfl⟩, ⟨.refl _, rfl⟩, trivial⟩, ⟨⟨_, rfl, .inr (ob_rowsL (by intro j hj; match j, hj with | 0, _ => exact .refl _ | 1, _ => exact .refl _ | 2, _ => exact .refl _ | 3, _ => exact .refl _ | 4, _ => exact .refl _)), trivial⟩, ⟨_, rfl, .inr (ob_rows (by rfl) (by intro j hj; match j, hj with | 0, _ => rfl | 1, _ => rfl | 2, _ => rfl)), trivial⟩, ⟨_, rfl, .inl rfl, trivial⟩, trivial⟩⟩ ?_
 show HT _ _ _ _ _
 refine HT.region S_rgets_ok ?_
 refine So.q rfl rfl (V.mv (v := .ptr 2 0) rfl ?_)
 refine So.q rfl rfl (V.ncPtr rfl ?_)
 refine So.q rfl rfl (V.faPtr ty71 rfl ty29 (lk rfl) rfl rfl (lk rfl) ?_)
 refine So.q rfl rfl (V.ldPtr ty29 rfl rfl rfl (lk rfl) (v := .p (.v (.int .i64 _))) rfl ?_)
 refine So.q rfl rfl (V.bin (a := (.v (.int .i64 _))) (b := (.v (.int .i64 (0)))) (r := .v (.bool _)) rfl rfl rfl trivial ?_)
 refine So.e ?_
 show HT _ _ _ _ _
 refine R.cond rfl rfl (fun h6 => ?_) (fun h6 => ?_)
 ·have h6 := of_decide_eq_false (bnT h6)
  refine HT.seq ?_
  refine HT.planS S_rgets_ok S_rgets_det mixed [1, 2, 3, 4, 6] [⟨[1, 2, 3, 4], 0, [1, 2, 3, 4]⟩, ⟨[1, 2, 3, 4], 5, [1, 2, 3, 4]⟩] (by kernel_rfl) ?_
  have hg : gsE b = (sg5 b).2.2 := endF_4 (by assumption)
  have hg0 : ¬ gsE b = 0 := by rw [hg]; assumption
  refine Pl.lk ?_
  refine Si.n rfl (lk rfl) (V.mv (v := .ptr 2 0) rfl ?_)
  refine Si.n rfl (lk rfl) (V.ncPtr rfl ?_)
  refine Si.n rfl (lk rfl) (V.faPtr ty71 rfl ty29 (lk rfl) rfl rfl (lk rfl) ?_)
  refine Si.n rfl (lk rfl) (V.ldPtr ty29 rfl rfl rfl (lk rfl) (v := .p (.v (.int .i64 _))) rfl ?_)
  refine Si.e ?_
  refine ⟨flEq_nil, fun ff => ?_⟩
  refine Lo.n rfl (lk rfl) (A.bldS ty35 rfl rfl trivial rfl (f := fun j => ([.v (.slice none 0 0), .v (.int .i64 0), .v (.int .i64 0), .v (.int .i64 0), .v (.slice none 0 0)] : List PV).getD j (.v undef)) (by exact allP_spec (P := fun j => _ = _) ⟨⟨⟨⟨⟨trivial, rfl⟩, rfl⟩, rfl⟩, rfl⟩, rfl⟩) ?_)
  refine ⟨_, fun ff => ff, ap0d, rfl, FG.id, ?_⟩
  show planA _ _ _ _ _ [(1, .ptr 2 0), (2, .ptr 2 0), (3, .ptr 2 2), (4, .p (.v (.int .i64 _)))] _ _ _
  refine Pl.lk ?_
  refine Si.n rfl (lk rfl) (V.mv (v := .ptr 2 0) rfl ?_)
  refine Si.n rfl (lk rfl) (V.ncPtr rfl ?_)
  refine Si.n rfl (lk rfl) (V.faPtr ty71 rfl ty29 (lk rfl) rfl rfl (lk rfl) ?_)
  refine Si.n rfl (lk rfl) (V.ldPtr ty29 rfl rfl rfl (lk rfl) (v := .p (.v (.int .i64 _))) rfl ?_)
  refine Si.e ?_
  refine ⟨(flEq_cons rfl (flEq_cons rfl (flEq_cons rfl (flEq_cons rfl flEq_nil)))), fun ff => ?_⟩
  refine Lo.s rfl (A.stoAg ty35 rfl (n := 5) rfl (by decide) (by intro j hj; first | rfl | trivial | (match j, hj with | 0, _ => (first | trivial | rfl) | 1, _ => (first | trivial | rfl) | 2, _ => (first | trivial | rfl) | 3, _ => (first | trivial | rfl) | 4, _ => (first | trivial | rfl))) rfl rfl rfl ?_)
  refine ⟨_, fun ff => ff, ap0, rfl, FG.id, ?_⟩
  show planA _ _ _ _ _ [(1, .ptr 2 0), (2, .ptr 2 0), (3, .ptr 2 2), (4, .p (.v (.int .i64 _)))] _ _ _
  refine Pl.e ?_
  refine Si.n rfl (lk rfl) (V.mv (v := .ptr 2 0) rfl ?_)
  refine Si.n rfl (lk rfl) (V.ncPtr rfl ?_)
  refine Si.n rfl (lk rfl) (V.faPtr ty71 rfl ty29 (lk rfl) rfl rfl (lk rfl) ?_)
  refine Si.n rfl (lk rfl) (V.ldPtr ty29 rfl rfl rfl (lk rfl) (v := .p (.v (.int .i64 _))) rfl ?_)
  refine Si.n rfl (lk rfl) (V.as (v := .p (.v (.int .i64 _))) rfl ?_)
  refine Si.e ?_
  refine ⟨(flEq_cons rfl (flEq_cons rfl (flEq_cons rfl (flEq_cons rfl flEq_nil)))), ?_⟩
  show HT _ _ _ _ _
  refine HT.ret ?_
  exact retC_ok (sg []) [(2, .ptr 1 0), (3, .p (.v (.int .i64 ((gsE b)))))] [(1, ⟨35, 1, 5, true, .rows (fun j => ([.bs (gs1 b), .v (.int .i64 (gs2 b)), .v (.int .i64 (gs3 b)), .v (.int .i64 (gs4 b)), .bs (gs5 b)] : List PV).getD j (.v undef))⟩)] h ⟨⟨⟨.refl _, rfl⟩, ⟨le_int (by first | with_reducible rfl | exact hg.symm | exact hg0.symm), trivial⟩, trivial⟩, ⟨⟨_, rfl, .inr (ob_rowsL (by intro j hj; match j, hj with | 0, _ => (first | exact gs_0 (b := b) hg0 0 (by decide) | exact gs_1 (b := b) hg0 0 (by decide)) | 1, _ => (first | exact gs_0 (b := b) hg0 1 (by decide) | exact gs_1 (b := b) hg0 1 (by decide)) | 2, _ => (first | exact gs_0 (b := b) hg0 2 (by decide) | exact gs_1 (b := b) hg0 2 (by decide)) | 3, _ => (first | exact gs_0 (b := b) hg0 3 (by decide) | exact gs_1 (b := b) hg0 3 (by decide)) | 4, _ => (first | exact gs_0 (b := b) hg0 4 (by decide) | exact gs_1 (b := b) hg0 4 (by decide)))), trivial⟩, trivial⟩⟩ ⟨rvA_cell ty35 rfl rfl rfl rfl (Nat.le_refl _) (le_agg (fun j _ => by first | rfl | (dsimp only; rw [Nat.zero_add]))), .refl _, trivial⟩ trivial rfl trivial ⟨trivial, trivial, trivial⟩ rfl
 ·have h6 := of_decide_eq_true (bnF h6)
  refine HT.skip ?_
  show HT _ _ _ _ _
  refine HT.seq ?_
  refine HT.seq ?_
  refine HT.region S_rgets_ok ?_
  refine So.q rfl rfl (V.mv (v := .ptr 2 0) rfl ?_)
  refine So.q rfl rfl (V.ncPtr rfl ?_)
  refine So.q rfl rfl (V.faPtr ty71 rfl ty3 (lk rfl) rfl rfl (lk rfl) ?_)
  refine So.q rfl rfl (V.ldPtr ty3 rfl rfl rfl (lk rfl) (v := .p (.v (.int .i64 _))) rfl ?_)
  refine So.q rfl rfl (V.mv (v := .p (.bs _)) rfl ?_)
  refine So.q rfl rfl (V.len ty22 (v := .p (.bs _)) rfl rfl ?_)
  refine So.q rfl rfl (V.bin (a := (.v (.int .i64 _))) (b := (.v (.int .i64 _))) (r := .v (.bool _)) rfl rfl rfl trivial ?_)
  refine So.q rfl rfl (V.mv (v := .p (.v (.bool _))) rfl ?_)
  refine So.gd rfl rfl (lk rfl) (lk rfl) (fun h7 => ?_) (fun h7 => ?_)
  ·have h7 := of_decide_eq_true (bnF h7)
   refine A.v rfl (V.ldPtrA ty35 rfl rfl rfl rfl (lk rfl) ?_)
   refine So.gy rfl rfl (lk rfl) (lk rfl) ?_
   refine A.call0 [.agg 5 _] 4 rfl rfl rfl rfl ⟨trivial, trivial⟩ trivial ((pl1 b 0 0).1, (pl2 b 0 0).1, (pl3 b 0 0).1, (sg4 b).1, (sg5 b).1) ⟨le_agg (fun j hj => by match j, hj with | 0, _ => rfl | 1, _ => rfl | 2, _ => rfl | 3, _ => rfl | 4, _ => rfl), trivial⟩ trivial (by trivial) (Φ := fun _ => True) (fun _ _ => trivial) (.inl rfl) (v := .p (.v (.bool _))) rfl (O' := _) rfl (fun h8 => ?_)
   refine So.gy rfl rfl (lk rfl) (lk rfl) ?_
   refine A.v rfl (V.not rfl ?_)
   refine So.q rfl rfl (V.pkFalse (u := .p (.v (.bool _))) rfl rfl ?_)
   refine So.e ?_
   show HT _ _ _ _ _
   refine R.cond rfl rfl (fun h9 => ?_) (fun h9 => ?_)
   ·have h9 := of_decide_eq_false (bnT h9)
    refine HT.seq ?_
    refine HT.region S_rgets_ok ?_
    have hg : gsE b = 181 := by unfold gsE; first | exact endF_1 (by omega) (by assumption) | exact endF_2 (by omega) (decide_eq_false (by assumption))
    have hg0 : ¬ gsE b = 0 := by rw [hg]; decide
    refine So.n (lk rfl) (A.bldS ty35 rfl rfl trivial rfl (f := fun j => ([.v (.slice none 0 0), .v (.int .i64 0), .v (.int .i64 0), .v (.int .i64 0), .v (.slice none 0 0)] : List PV).getD j (.v undef)) (by exact allP_spec (P := fun j => _ = _) ⟨⟨⟨⟨⟨trivial, rfl⟩, rfl⟩, rfl⟩, rfl⟩, rfl⟩) ?_)
    refine So.s (A.stoAg ty35 rfl (n := 5) rfl (by decide) (by intro j hj; first | rfl | trivial | (match j, hj with | 0, _ => (first | trivial | rfl) | 1, _ => (first | trivial | rfl) | 2, _ => (first | trivial | rfl) | 3, _ => (first | trivial | rfl) | 4, _ => (first | trivial | rfl))) rfl rfl rfl ?_)
    refine So.q rfl rfl (V.as (v := .p (.v (.int .i64 (181)))) rfl ?_)
    refine So.e ?_
    show HT _ _ _ _ _
    refine HT.ret ?_
    exact retC_ok (sg []) [(2, .ptr 1 0), (3, .p (.v (.int .i64 ((gsE b)))))] [(1, ⟨35, 1, 5, true, .rows (fun j => ([.bs (gs1 b), .v (.int .i64 (gs2 b)), .v (.int .i64 (gs3 b)), .v (.int .i64 (gs4 b)), .bs (gs5 b)] : List PV).getD j (.v undef))⟩)] h ⟨⟨⟨.refl _, rfl⟩, ⟨le_int (by first | with_reducible rfl | exact hg.symm | exact hg0.symm), trivial⟩, trivial⟩, ⟨⟨_, rfl, .inr (ob_rowsL (by intro j hj; match j, hj with | 0, _ => (first | exact gs_0 (b := b) hg0 0 (by decide) | exact gs_1 (b := b) hg0 0 (by decide)) | 1, _ => (first | exact gs_0 (b := b) hg0 1 (by decide) | exact gs_1 (b := b) hg0 1 (by decide)) | 2, _ => (first | exact gs_0 (b := b) hg0 2 (by decide) | exact gs_1 (b := b) hg0 2 (by decide)) | 3, _ => (first | exact gs_0 (b := b) hg0 3 (by decide) | exact gs_1 (b := b) hg0 3 (by decide)) | 4, _ => (first | exact gs_0 (b := b) hg0 4 (by decide) | exact gs_1 (b := b) hg0 4 (by decide)))), trivial⟩, trivial⟩⟩ ⟨rvA_cell ty35 rfl rfl rfl rfl (Nat.le_refl _) (le_agg (fun j _ => by first | rfl | (dsimp only; rw [Nat.zero_add]))), .refl _, trivial⟩ trivial rfl trivial ⟨trivial, trivial, trivial⟩ rfl
   ·have h9 := of_decide_eq_true (bnF h9)
    refine HT.skip ?_
    show HT _ _ _ _ _
    refine HT.seq ?_
    refine HT.region S_rgets_ok ?_
    have hg0 : gsE b = 0 := by unfold gsE; rw [endF_3 (by omega) (by omega) (decide_eq_true (by assumption))]; omega
    refine So.q rfl rfl (V.ldPtrA ty35 rfl rfl rfl rfl (lk rfl) ?_)
    refine So.s (A.stoAg ty35 rfl (n := 5) rfl (by decide) (by intro j hj; first | rfl | trivial | (match j, hj with | 0, _ => (first | trivial | rfl) | 1, _ => (first | trivial | rfl) | 2, _ => (first | trivial | rfl) | 3, _ => (first | trivial | rfl) | 4, _ => (first | trivial | rfl))) rfl rfl rfl ?_)
    refine So.q rfl rfl (V.as (v := .p (.v (.int .i64 (0)))) rfl ?_)
    refine So.e ?_
    show HT _ _ _ _ _
    refine HT.ret ?_
    exact retC_ok (sg []) [(2, .ptr 1 0), (3, .p (.v (.int .i64 ((gsE b)))))] [(1, ⟨35, 1, 5, true, .rows (fun j => ([.bs (gs1 b), .v (.int .i64 (gs2 b)), .v (.int .i64 (gs3 b)), .v (.int .i64 (gs4 b)), .bs (gs5 b)] : List PV).getD j (.v undef))⟩)] h ⟨⟨⟨.refl _, rfl⟩, ⟨le_int (by first | with_reducible rfl | exact hg.symm | exact hg0.symm), trivial⟩, trivial⟩, ⟨⟨_, rfl, .inr (ob_rowsL (by intro j hj; match j, hj with | 0, _ => (first | exact gs_0 (b := b) hg0 0 (by decide) | exact gs_1 (b := b) hg0 0 (by decide)) | 1, _ => (first | exact gs_0 (b := b) hg0 1 (by decide) | exact gs_1 (b := b) hg0 1 (by decide)) | 2, _ => (first | exact gs_0 (b := b) hg0 2 (by decide) | exact gs_1 (b := b) hg0 2 (by decide)) | 3, _ => (first | exact gs_0 (b := b) hg0 3 (by decide) | exact gs_1 (b := b) hg0 3 (by decide)) | 4, _ => (first | exact gs_0 (b := b) hg0 4 (by decide) | exact gs_1 (b := b) hg0 4 (by decide)))), trivial⟩, trivial⟩⟩ ⟨rvA_cell ty35 rfl rfl rfl rfl (Nat.le_refl _) (le_agg (fun j _ => by first | rfl | (dsimp only; rw [Nat.zero_add]))), .refl _, trivial⟩ trivial rfl trivial ⟨trivial, trivial, trivial⟩ rfl
  ·have h7 := of_decide_eq_false (bnT h7)
   refine So.gn (b := true) rfl rfl rfl (lk rfl) (lk rfl) ?_
   refine So.gn (b := true) rfl rfl rfl (lk rfl) (lk rfl) ?_
   refine So.q rfl rfl (V.pkTrue (u := .p (.v (.bool true))) rfl rfl ?_)
   refine So.e ?_
   show HT _ _ _ _ _
   refine R.condT rfl ?_
   refine HT.seq ?_
   refine HT.region S_rgets_ok ?_
   have hg : gsE b = 181 := by unfold gsE; first | exact endF_1 (by omega) (by assumption) | exact endF_2 (by omega) (decide_eq_false (by assumption))
   have hg0 : ¬ gsE b = 0 := by rw [hg]; decide
   refine So.n (lk rfl) (A.bldS ty35 rfl rfl trivial rfl (f := fun j => ([.v (.slice none 0 0), .v (.int .i64 0), .v (.int .i64 0), .v (.int .i64 0), .v (.slice none 0 0)] : List PV).getD j (.v undef)) (by exact allP_spec (P := fun j => _ = _) ⟨⟨⟨⟨⟨trivial, rfl⟩, rfl⟩, rfl⟩, rfl⟩, rfl⟩) ?_)
   refine So.s (A.stoAg ty35 rfl (n := 5) rfl (by decide) (by intro j hj; first | rfl | trivial | (match j, hj with | 0, _ => (first | trivial | rfl) | 1, _ => (first | trivial | rfl) | 2, _ => (first | trivial | rfl) | 3, _ => (first | trivial | rfl) | 4, _ => (first | trivial | rfl))) rfl rfl rfl ?_)
   refine So.q rfl rfl (V.as (v := .p (.v (.int .i64 (181)))) rfl ?_)
   refine So.e ?_
   show HT _ _ _ _ _
   refine HT.ret ?_
   exact retC_ok (sg []) [(2, .ptr 1 0), (3, .p (.v (.int .i64 ((gsE b)))))] [(1, ⟨35, 1, 5, true, .rows (fun j => ([.bs (gs1 b), .v (.int .i64 (gs2 b)), .v (.int .i64 (gs3 b)), .v (.int .i64 (gs4 b)), .bs (gs5 b)] : List PV).getD j (.v undef))⟩)] h ⟨⟨⟨.refl _, rfl⟩, ⟨le_int (by first | with_reducible rfl | exact hg.symm | exact hg0.symm), trivial⟩, trivial⟩, ⟨⟨_, rfl, .inr (ob_rowsL (by intro j hj; match j, hj with | 0, _ => (first | exact gs_0 (b := b) hg0 0 (by decide) | exact gs_1 (b := b) hg0 0 (by decide)) | 1, _ => (first | exact gs_0 (b := b) hg0 1 (by decide) | exact gs_1 (b := b) hg0 1 (by decide)) | 2, _ => (first | exact gs_0 (b := b) hg0 2 (by decide) | exact gs_1 (b := b) hg0 2 (by decide)) | 3, _ => (first | exact gs_0 (b := b) hg0 3 (by decide) | exact gs_1 (b := b) hg0 3 (by decide)) | 4, _ => (first | exact gs_0 (b := b) hg0 4 (by decide) | exact gs_1 (b := b) hg0 4 (by decide)))), trivial⟩, trivial⟩⟩ ⟨rvA_cell ty35 rfl rfl rfl rfl (Nat.le_refl _) (le_agg (fun j _ => by first | rfl | (dsimp only; rw [Nat.zero_add]))), .refl _, trivial⟩ trivial rfl trivial ⟨trivial, trivial, trivial⟩ rfl
end Go.Vh

set_option linter.unusedVariables false
set_option linter.unusedSimpArgs false
namespace Go.Vh
open Go Go.Vc Go.Proofs Go.Vw
def samesSp : Sp := ⟨[], mkE (α := (List UInt8) × Int × Int × Int × (List UInt8) × (List UInt8) × Int × Int × Int × (List UInt8)) (fun (g, ep, fr, gn, cl, g2, ep2, fr2, gn2, cl2) => [.agg 5 (fun j => ([.bs g, .v (.int .i64 ep), .v (.int .i64 fr), .v (.int .i64 gn), .bs cl] : List PV).getD j (.v undef)), .agg 5 (fun j => ([.bs g2, .v (.int .i64 ep2), .v (.int .i64 fr2), .v (.int .i64 gn2), .bs cl2] : List PV).getD j (.v undef))]) (fun (g, ep, fr, gn, cl, g2, ep2, fr2, gn2, cl2) => []) (fun (g, ep, fr, gn, cl, g2, ep2, fr2, gn2, cl2) => True) (fun (g, ep, fr, gn, cl, g2, ep2, fr2, gn2, cl2) => [.p (.v (.bool (decide (sameSP g ep fr gn cl g2 ep2 fr2 gn2 cl2))))]) (fun (g, ep, fr, gn, cl, g2, ep2, fr2, gn2, cl2) => [])⟩
def S_sames : FuncId → Option Sp := fun _ => none
theorem S_sames_ok : ∀ f s, S_sames f = some s → FOK Tryd.prog gl f s := fun f s h => by cases h
set_option maxHeartbeats 1000000 in
set_option maxRecDepth 1000 in
theorem sames_ok : FOK Tryd.prog gl 17 samesSp := by
 refine FOK.ofE (tyOf_ok Tryd.prog) (slots := [4]) (nt := 42) Tryd.func17 rfl rfl rfl rfl (by decide) 2 (fun ⟨_, _, _, _, _, _, _, _, _, _⟩ => rfl) (by decide) (fun ⟨_, _, _, _, _, _, _, _, _, _⟩ => ⟨trivial, trivial, trivial⟩) ?_
 rintro ⟨g, ep, fr, gn, cl, g2, ep2, fr2, gn2, cl2⟩ kk hlen hpre h
 replace hpre : True := hpre
 show HT (cx Tryd.prog 42 (tyOf Tryd.prog) gl []) _ [(0, .agg 5 (fun j => ([.bs g, .v (.int .i64 ep), .v (.int .i64 fr), .v (.int .i64 gn), .bs cl] : List PV).getD j (.v undef))), (1, .agg 5 (fun j => ([.bs g2, .v (.int .i64 ep2), .v (.int .i64 fr2), .v (.int .i64 gn2), .bs cl2] : List PV).getD j (.v undef)))] [] _
 refine HT.seq ?_
 refine HT.region S_sames_ok ?_
 refine So.n (lk rfl) (A.boxAg 1 1 (n := 5) rfl (by intro j hj; first | rfl | trivial | (match j, hj with | 0, _ => (first | trivial | rfl) | 1, _ => (first | trivial | rfl) | 2, _ => (first | trivial | rfl) | 3, _ => (first | trivial | rfl) | 4, _ => (first | trivial | rfl)) | (split <;> first | rfl | trivial | (split <;> first | rfl | trivial))) rfl trivial ?_)
 refine So.n (lk rfl) (A.boxAg 2 1 (n := 5) rfl (by intro j hj; first | rfl | trivial | (match j, hj with | 0, _ => (first | trivial | rfl) | 1, _ => (first | trivial | rfl) | 2, _ => (first | trivial | rfl) | 3, _ => (first | trivial | rfl) | 4, _ => (first | trivial | rfl)) | (split <;> first | rfl | trivial | (split <;> first | rfl | trivial))) rfl trivial ?_)
 refine So.q rfl rfl (V.as (v := .p (.v (.bool false))) rfl ?_)
 refine So.e ?_
 show HT _ _ _ _ _
 refine HT.seq ?_
 refine HT.region S_sames_ok ?_
 refine So.q rfl rfl (V.faPtr ty35 rfl ty22 (lk rfl) rfl rfl (lk rfl) ?_)
 refine So.q rfl rfl (V.ldPtr ty22 rfl rfl rfl (lk rfl) (v := .p (.bs _)) rfl ?_)
 refine So.q rfl rfl (V.cvBs ty9 rfl rfl ?_)
 refine So.q rfl rfl (V.faPtr ty35 rfl ty22 (lk rfl) rfl rfl (lk rfl) ?_)
 refine So.q rfl rfl (V.ldPtr ty22 rfl rfl rfl (lk rfl) (v := .p (.bs _)) rfl ?_)
 refine So.q rfl rfl (V.cvBs ty9 rfl rfl ?_)
 refine So.q rfl rfl (V.bin (a := (.str _)) (b := (.str _)) (r := .v (.bool _)) rfl rfl rfl trivial ?_)
 refine So.q rfl rfl (V.mv (v := .p (.v (.bool _))) rfl ?_)
 refine So.gd rfl rfl (lk rfl) (lk rfl) (fun h1 => ?_) (fun h1 => ?_)
 ·have h1 := of_decide_eq_true h1
  refine A.v rfl (V.faPtr ty35 rfl ty2 (lk rfl) rfl rfl (lk rfl) ?_)
  refine So.gy rfl rfl (lk rfl) (lk rfl) ?_
  refine A.v rfl (V.ldPtr ty2 rfl rfl rfl (lk rfl) (v := .p (.v (.int .i64 _))) rfl ?_)
  refine So.gy rfl rfl (lk rfl) (lk rfl) ?_
  refine A.v rfl (V.faPtr ty35 rfl ty2 (lk rfl) rfl rfl (lk rfl) ?_)
  refine So.gy rfl rfl (lk rfl) (lk rfl) ?_
  refine A.v rfl (V.ldPtr ty2 rfl rfl rfl (lk rfl) (v := .p (.v (.int .i64 _))) rfl ?_)
  refine So.gy rfl rfl (lk rfl) (lk rfl) ?_
  refine A.v rfl (V.bin (a := (.v (.int .i64 _))) (b := (.v (.int .i64 _))) (r := .v (.bool _)) rfl rfl rfl trivial ?_)
  refine So.q rfl rfl (V.pkTrue (u := .p (.v (.bool _))) rfl rfl ?_)
  refine So.q rfl rfl (V.mv (v := .p (.v (.bool _))) rfl ?_)
  refine So.gd rfl rfl (lk rfl) (lk rfl) (fun h2 => ?_) (fun h2 => ?_)
  ·have h2 := of_decide_eq_true h2
   refine A.v rfl (V.faPtr ty35 rfl ty3 (lk rfl) rfl rfl (lk rfl) ?_)
   refine So.gy rfl rfl (lk rfl) (lk rfl) ?_
   refine A.v rfl (V.ldPtr ty3 rfl rfl rfl (lk rfl) (v := .p (.v (.int .i64 _))) rfl ?_)
   refine So.gy rfl rfl (lk rfl) (lk rfl) ?_
   refine A.v rfl (V.faPtr ty35 rfl ty3 (lk rfl) rfl rfl (lk rfl) ?_)
   refine So.gy rfl rfl (lk rfl) (lk rfl) ?_
   refine A.v rfl (V.ldPtr ty3 rfl rfl rfl (lk rfl) (v := .p (.v (.int .i64 _))) rfl ?_)
   refine So.gy rfl rfl (lk rfl) (lk rfl) ?_
   refine A.v rfl (V.bin (a := (.v (.int .i64 _))) (b := (.v (.int .i64 _))) (r := .v (.bool _)) rfl rfl rfl trivial ?_)
   refine So.q rfl rfl (V.pkTrue (u := .p (.v (.bool _))) rfl rfl ?_)
   refine So.q rfl rfl (V.mv (v := .p (.v (.bool _))) rfl ?_)
   refine So.gd rfl rfl (lk rfl) (lk rfl) (fun h3 => ?_) (fun h3 => ?_)
   ·have h3 := of_decide_eq_true h3
    refine A.v rfl (V.faPtr ty35 rfl ty2 (lk rfl) rfl rfl (lk rfl) ?_)
    refine So.gy rfl rfl (lk rfl) (lk rfl) ?_
    refine A.v rfl (V.ldPtr ty2 rfl rfl rfl (lk rfl) (v := .p (.v (.int .i64 _))) rfl ?_)
    refine So.gy rfl rfl (lk rfl) (lk rfl) ?_
    refine A.v rfl (V.faPtr ty35 rfl ty2 (lk rfl) rfl rfl (lk rfl) ?_)
    refine So.gy rfl rfl (lk rfl) (lk rfl) ?_
    refine A.v rfl (V.ldPtr ty2 rfl rfl rfl (lk rfl) (v := .p (.v (.int .i64 _))) rfl ?_)
    refine So.gy rfl rfl (lk rfl) (lk rfl) ?_
    refine A.v rfl (V.bin (a := (.v (.int .i64 _))) (b := (.v (.int .i64 _))) (r := .v (.bool _)) rfl rfl rfl trivial ?_)
    refine So.q rfl rfl (V.pkTrue (u := .p (.v (.bool _))) rfl rfl ?_)
    refine So.q rfl rfl (V.mv (v := .p (.v (.bool _))) rfl ?_)
    refine So.gd rfl rfl (lk rfl) (lk rfl) (fun h4 => ?_) (fun h4 => ?_)
    ·have h4 := of_decide_eq_true h4
     refine A.v rfl (V.faPtr ty35 rfl ty22 (lk rfl) rfl rfl (lk rfl) ?_)
     refine So.gy rfl rfl (lk rfl) (lk rfl) ?_
     refine A.v rfl (V.ldPtr ty22 rfl rfl rfl (lk rfl) (v := .p (.bs _)) rfl ?_)
     refine So.gy rfl rfl (lk rfl) (lk rfl) ?_
     refine A.v rfl (V.cvBs ty9 rfl rfl ?_)
     refine So.gy rfl rfl (lk rfl) (lk rfl) ?_
     refine A.v rfl (V.faPtr ty35 rfl ty22 (lk rfl) rfl rfl (lk rfl) ?_)
     refine So.gy rfl rfl (lk rfl) (lk rfl) ?_
     refine A.v rfl (V.ldPtr ty22 rfl rfl rfl (lk rfl) (v := .p (.bs _)) rfl ?_)
     refine So.gy rfl rfl (lk rfl) (lk rfl) ?_
     refine A.v rfl (V.cvBs ty9 rfl rfl ?_)
     refine So.gy rfl rfl (lk rfl) (lk rfl) ?_
     refine A.v rfl (V.bin (a := (.str _)) (b := (.str _)) (r := .v (.bool _)) rfl rfl rfl trivial ?_)
     refine So.q rfl rfl (V.pkTrue (u := .p (.v (.bool _))) rfl rfl ?_)
     refine So.q rfl rfl (V.as (v := .p (.v (.bool _))) rfl ?_)
     refine So.e ?_
     show HT _ _ _ _ _
     refine HT.ret ?_
     exact ret_ok (sg []) h rfl rfl rfl trivial ⟨trivial, trivial⟩ rfl ⟨⟨⟨le_bool (by first | with_reducible rfl | (unfold sameSP; simp_all; done) | (unfold sameMP; simp_all; done) | (unfold sameMP sameSP at *; simp_all; done)), trivial⟩, trivial⟩, trivial⟩
    ·have h4 := of_decide_eq_false h4
     refine So.gn (b := false) rfl rfl rfl (lk rfl) (lk rfl) ?_
     refine So.gn (b := false) rfl rfl rfl (lk rfl) (lk rfl) ?_
     refine So.gn (b := false) rfl rfl rfl (lk rfl) (lk rfl) ?_
     refine So.gn (b := false) rfl rfl rfl (lk rfl) (lk rfl) ?_
     refine So.gn (b := false) rfl rfl rfl (lk rfl) (lk rfl) ?_
     refine So.gn (b := false) rfl rfl rfl (lk rfl) (lk rfl) ?_
     refine So.q rfl rfl (V.pkFalse (u := .p (.v (.bool false))) rfl rfl ?_)
     refine So.q rfl rfl (V.as (v := .p (.v (.bool false))) rfl ?_)
     refine So.e ?_
     show HT _ _ _ _ _
     refine HT.ret ?_
     exact ret_ok (sg []) h rfl rfl rfl trivial ⟨trivial, trivial⟩ rfl ⟨⟨⟨le_bool (by first | with_reducible rfl | (unfold sameSP; simp_all; done) | (unfold sameMP; simp_all; done) | (unfold sameMP sameSP at *; simp_all; done)), trivial⟩, trivial⟩, trivial⟩
   ·have h3 := of_decide_eq_false h3
    refine So.gn (b := false) rfl rfl rfl (lk rfl) (lk rfl) ?_
    refine So.gn (b := false) rfl rfl rfl (lk rfl) (lk rfl) ?_
    refine So.gn (b := false) rfl rfl rfl (lk rfl) (lk rfl) ?_
    refine So.gn (b := false) rfl rfl rfl (lk rfl) (lk rfl) ?_
    refine So.q rfl rfl (V.pkFalse (u := .p (.v (.bool false))) rfl rfl ?_)
    refine So.q rfl rfl (V.mv (v := .p (.v (.bool false))) rfl ?_)
    refine So.gn (b := false) rfl rfl rfl (lk rfl) (lk rfl) ?_
    refine So.gn (b := false) rfl rfl rfl (lk rfl) (lk rfl) ?_
    refine So.gn (b := false) rfl rfl rfl (lk rfl) (lk rfl) ?_
    refine So.gn (b := false) rfl rfl rfl (lk rfl) (lk rfl) ?_
    refine So.gn (b := false) rfl rfl rfl (lk rfl) (lk rfl) ?_
    refine So.gn (b := false) rfl rfl rfl (lk rfl) (lk rfl) ?_
    refine So.gn (b := false) rfl rfl rfl (lk rfl) (lk rfl) ?_
    refine So.q rfl rfl (V.pkFalse (u := .p (.v (.bool false))) rfl rfl ?_)
    refine So.q rfl rfl (V.as (v := .p (.v (.bool false))) rfl ?_)
    refine So.e ?_
    show HT _ _ _ _ _
    refine HT.ret ?_
    exact ret_ok (sg []) h rfl rfl rfl trivial ⟨trivial, trivial⟩ rfl ⟨⟨⟨le_bool (by first | with_reducible rfl | (unfold sameSP; simp_all; done) | (unfold sameMP; simp_all; done) | (unfold sameMP sameSP at *; simp_all; done)), trivial⟩, trivial⟩, trivial⟩
  ·have h2 := of_decide_eq_false h2
   refine So.gn (b := false) rfl rfl rfl (lk rfl) (lk rfl) ?_
   refine So.gn (b := false) rfl rfl rfl (lk rfl) (lk rfl) ?_
   refine So.gn (b := false) rfl rfl rfl (lk rfl) (lk rfl) ?_
   refine So.gn (b := false) rfl rfl rfl (lk rfl) (lk rfl) ?_
   refine So.q rfl rfl (V.pkFalse (u := .p (.v (.bool false))) rfl rfl ?_)
   refine So.q rfl rfl (V.mv (v := .p (.v (.bool false))) rfl ?_)
   refine So.gn (b := false) rfl rfl rfl (lk rfl) (lk rfl) ?_
   refine So.gn (b := false) rfl rfl rfl (lk rfl) (lk rfl) ?_
   refine So.gn (b := false) rfl rfl rfl (lk rfl) (lk rfl) ?_
   refine So.gn (b := false) rfl rfl rfl (lk rfl) (lk rfl) ?_
   refine So.gn (b := false) rfl rfl rfl (lk rfl) (lk rfl) ?_
   refine So.q rfl rfl (V.pkFalse (u := .p (.v (.bool false))) rfl rfl ?_)
   refine So.q rfl rfl (V.mv (v := .p (.v (.bool false))) rfl ?_)
   refine So.gn (b := false) rfl rfl rfl (lk rfl) (lk rfl) ?_
   refine So.gn (b := false) rfl rfl rfl (lk rfl) (lk rfl) ?_
   refine So.gn (b := false) rfl rfl rfl (lk rfl) (lk rfl) ?_
   refine So.gn (b := false) rfl rfl rfl (lk rfl) (lk rfl) ?_
   refine So.gn (b := false) rfl rfl rfl (lk rfl) (lk rfl) ?_
   refine So.gn (b := false) rfl rfl rfl (lk rfl) (lk rfl) ?_
   refine So.gn (b := false) rfl rfl rfl (lk rfl) (lk rfl) ?_
   refine So.q rfl rfl (V.pkFalse (u := .p (.v (.bool false))) rfl rfl ?_)
   refine So.q rfl rfl (V.as (v := .p (.v (.bool false))) rfl ?_)
   refine So.e ?_
   show HT _ _ _ _ _
   refine HT.ret ?_
   exact ret_ok (sg []) h rfl rfl rfl trivial ⟨trivial, trivial⟩ rfl ⟨⟨⟨le_bool (by first | with_reducible rfl | (unfold sameSP; simp_all; done) | (unfold sameMP; simp_all; done) | (unfold sameMP sameSP at *; simp_all; done)), trivial⟩, trivial⟩, trivial⟩
 ·have h1 := of_decide_eq_false h1
  refine So.gn (b := false) rfl rfl rfl (lk rfl) (lk rfl) ?_
  refine So.gn (b := false) rfl rfl rfl (lk rfl) (lk rfl) ?_
  refine So.gn (b := false) rfl rfl rfl (lk rfl) (lk rfl) ?_
  refine So.gn (b := false) rfl rfl rfl (lk rfl) (lk rfl) ?_
  refine So.q rfl rfl (V.pkFalse (u := .p (.v (.bool false))) rfl rfl ?_)
  refine So.q rfl rfl (V.mv (v := .p (.v (.bool false))) rfl ?_)
  refine So.gn (b := false) rfl rfl rfl (lk rfl) (lk rfl) ?_
  refine So.gn (b := false) rfl rfl rfl (lk rfl) (lk rfl) ?_
  refine So.gn (b := false) rfl rfl rfl (lk rfl) (lk rfl) ?_
  refine So.gn (b := false) rfl rfl rfl (lk rfl) (lk rfl) ?_
  refine So.gn (b := false) rfl rfl rfl (lk rfl) (lk rfl) ?_
  refine So.q rfl rfl (V.pkFalse (u := .p (.v (.bool false))) rfl rfl ?_)
  refine So.q rfl rfl (V.mv (v := .p (.v (.bool false))) rfl ?_)
  refine So.gn (b := false) rfl rfl rfl (lk rfl) (lk rfl) ?_
  refine So.gn (b := false) rfl rfl rfl (lk rfl) (lk rfl) ?_
  refine So.gn (b := false) rfl rfl rfl (lk rfl) (lk rfl) ?_
  refine So.gn (b := false) rfl rfl rfl (lk rfl) (lk rfl) ?_
  refine So.gn (b := false) rfl rfl rfl (lk rfl) (lk rfl) ?_
  refine So.q rfl rfl (V.pkFalse (u := .p (.v (.bool false))) rfl rfl ?_)
  refine So.q rfl rfl (V.mv (v := .p (.v (.bool false))) rfl ?_)
  refine So.gn (b := false) rfl rfl rfl (lk rfl) (lk rfl) ?_
  refine So.gn (b := false) rfl rfl rfl (lk rfl) (lk rfl) ?_
  refine So.gn (b := false) rfl rfl rfl (lk rfl) (lk rfl) ?_
  refine So.gn (b := false) rfl rfl rfl (lk rfl) (lk rfl) ?_
  refine So.gn (b := false) rfl rfl rfl (lk rfl) (lk rfl) ?_
  refine So.gn (b := false) rfl rfl rfl (lk rfl) (lk rfl) ?_
  refine So.gn (b := false) rfl rfl rfl (lk rfl) (lk rfl) ?_
  refine So.q rfl rfl (V.pkFalse (u := .p (.v (.bool false))) rfl rfl ?_)
  refine So.q rfl rfl (V.as (v := .p (.v (.bool false))) rfl ?_)
  refine So.e ?_
  show HT _ _ _ _ _
  refine HT.ret ?_
  exact ret_ok (sg []) h rfl rfl rfl trivial ⟨trivial, trivial⟩ rfl ⟨⟨⟨le_bool (by first | with_reducible rfl | (unfold sameSP; simp_all; done) | (unfold sameMP; simp_all; done) | (unfold sameMP sameSP at *; simp_all; done)), trivial⟩, trivial⟩, trivial⟩
def samecSp : Sp := ⟨[], mkE (α := (List UInt8) × Int × Int × Int × (List UInt8) × (List UInt8) × Int × Int × Int × (List UInt8)) (fun (g, ep, fr, kd, bd, g2, ep2, fr2, kd2, bd2) => [.agg 5 (fun j => ([.bs g, .v (.int .i64 ep), .v (.int .i64 fr), .v (.int .i64 kd), .bs bd] : List PV).getD j (.v undef)), .agg 5 (fun j => ([.bs g2, .v (.int .i64 ep2), .v (.int .i64 fr2), .v (.int .i64 kd2), .bs bd2] : List PV).getD j (.v undef))]) (fun (g, ep, fr, kd, bd, g2, ep2, fr2, kd2, bd2) => []) (fun (g, ep, fr, kd, bd, g2, ep2, fr2, kd2, bd2) => True) (fun (g, ep, fr, kd, bd, g2, ep2, fr2, kd2, bd2) => [.p (.v (.bool (decide (sameSP g ep fr kd bd g2 ep2 fr2 kd2 bd2))))]) (fun (g, ep, fr, kd, bd, g2, ep2, fr2, kd2, bd2) => [])⟩
def S_samec : FuncId → Option Sp := fun _ => none
def samemSp : Sp := ⟨[], mkE (α := (List UInt8) × Int × Int × Int × (List UInt8) × (List UInt8) × (List UInt8) × (List UInt8) × (List UInt8) × Int × Int × Int × (List UInt8) × (List UInt8) × (List UInt8) × (List UInt8)) (fun (g, ep, fr, kd, bd, sn, cf, mb, g2, ep2, fr2, kd2, bd2, sn2, cf2, mb2) => [.agg 8 (fun j => ([.bs g, .v (.int .i64 ep), .v (.int .i64 fr), .v (.int .i64 kd), .bs bd, .bs sn, .bs cf, .bs mb] : List PV).getD j (.v undef)), .agg 8 (fun j => ([.bs g2, .v (.int .i64 ep2), .v (.int .i64 fr2), .v (.int .i64 kd2), .bs bd2, .bs sn2, .bs cf2, .bs mb2] : List PV).getD j (.v undef))]) (fun (g, ep, fr, kd, bd, sn, cf, mb, g2, ep2, fr2, kd2, bd2, sn2, cf2, mb2) => []) (fun (g, ep, fr, kd, bd, sn, cf, mb, g2, ep2, fr2, kd2, bd2, sn2, cf2, mb2) => True) (fun (g, ep, fr, kd, bd, sn, cf, mb, g2, ep2, fr2, kd2, bd2, sn2, cf2, mb2) => [.p (.v (.bool (decide (sameMP g ep fr kd bd sn cf mb g2 ep2 fr2 kd2 bd2 sn2 cf2 mb2))))]) (fun (g, ep, fr, kd, bd, sn, cf, mb, g2, ep2, fr2, kd2, bd2, sn2, cf2, mb2) => [])⟩
def S_samem : FuncId → Option Sp := fun f => if f = 42 then some samecSp else none
def greatSp : Sp := ⟨[], mkE (α := (List (List UInt8))) (fun l => [.p (.sl (l).length 1 (fun j => .bs ((l).getD j [])))]) (fun l => []) (fun l => True) (fun l => [.p (.v (.bool (greatF l)))]) (fun l => [])⟩
def S_great : FuncId → Option Sp := fun _ => none
theorem S_great_ok : ∀ f s, S_great f = some s → FOK Tryd.prog gl f s := fun f s h => by cases h
set_option maxHeartbeats 1000000 in
set_option maxRecDepth 1000 in
theorem great_ok : FOK Tryd.prog gl 9 greatSp := by
 refine FOK.ofE (tyOf_ok Tryd.prog) (slots := [2]) (nt := 16) Tryd.func9 rfl rfl rfl rfl (by decide) 1 (fun _ => rfl) (by decide) (fun _ => ⟨trivial, trivial⟩) ?_
 rintro l kk hlen hpre h
 have hl0 : (l).length ≤ 9223372036854775807 := hlen.1
 replace hpre : True := hpre
 show HT (cx Tryd.prog 16 (tyOf Tryd.prog) gl []) _ [(0, .p (.sl (l).length 1 (fun j => .bs ((l).getD j []))))] [] _
 refine HT.seq ?_
 refine HT.region S_great_ok ?_
 refine So.q rfl rfl (V.as (v := .p (.v (.bool false))) rfl ?_)
 refine So.e ?_
 show HT _ _ _ _ _
 refine HT.seq ?_
 refine HT.seq ?_
 refine HT.region S_great_ok ?_
 refine So.q rfl rfl (V.as (v := .p (.v (.int .i64 (0)))) rfl ?_)
 refine So.e ?_
 show HT _ _ _ _ _
 refine HT.block ?_
 refine R.loop (σ := Nat) (fun s => [(3, .p (.v (.int .i64 ((s : Int)))))]) (fun s => []) [0] [] (fun s => s ≤ l.length ∧ ∀ k, k < s → (l.getD k []).length ≤ 60000) (fun s => l.length - s) (0) (fr0 := [(0, .p (.sl _ 1 _))]) (O0 := []) rfl rfl (by exact ⟨Nat.zero_le _, fun k hk => absurd hk (Nat.not_lt_zero _)⟩) ⟨⟨⟨le_int (by first | rfl | omega), trivial⟩, ⟨.refl _, trivial⟩, trivial⟩, trivial⟩ (fun s hP0 => ?_)
 refine HT.seq ?_
 refine HT.seq ?_
 refine HT.region S_great_ok ?_
 refine So.q rfl rfl (V.mv (v := .p (.v (.int .i64 ((_ : Nat) : Int)))) rfl ?_)
 refine So.q rfl rfl (V.mv (v := .p (.sl _ 1 _)) rfl ?_)
 refine So.q rfl rfl (V.len ty51 (v := .p (.sl _ 1 _)) rfl rfl ?_)
 refine So.q rfl rfl (V.bin (a := (.v (.int .i64 ((_ : Nat) : Int)))) (b := (.v (.int .i64 _))) (r := .v (.bool _)) rfl rfl rfl trivial ?_)
 refine So.e ?_
 show HT _ _ _ _ _
 refine R.cond rfl rfl (fun h1 => ?_) (fun h1 => ?_)
 ·have h1 := of_decide_eq_true h1
  refine HT.skip ?_
  show HT _ _ _ _ _
  refine HT.seq ?_
  refine HT.block ?_
  refine HT.seq ?_
  refine HT.region S_great_ok ?_
  refine So.q rfl rfl (V.mv (v := .p (.sl _ 1 _)) rfl ?_)
  refine So.q rfl rfl (V.mv (v := .p (.v (.int .i64 ((_ : Nat) : Int)))) rfl ?_)
  refine So.q rfl rfl (V.ixSl1 (mi := s) ty51 ty22 rfl rfl rfl (by omega) (by omega) ?_)
  refine So.q rfl rfl (V.ldRp ty22 rfl rfl (lk rfl) (v := (.bs _)) rfl ?_)
  refine So.q rfl rfl (V.len ty22 (v := .p (.bs _)) rfl rfl ?_)
  refine So.q rfl rfl (V.bin (a := (.v (.int .i64 _))) (b := (.v (.int .i64 (60000)))) (r := .v (.bool _)) rfl rfl rfl trivial ?_)
  refine So.e ?_
  show HT _ _ _ _ _
  refine R.cond rfl rfl (fun h2 => ?_) (fun h2 => ?_)
  ·have h2 := of_decide_eq_true h2
   refine HT.seq ?_
   refine HT.region S_great_ok ?_
   refine So.q rfl rfl (V.as (v := .p (.v (.bool true))) rfl ?_)
   refine So.e ?_
   show HT _ _ _ _ _
   refine HT.ret ?_
   exact ret_ok (sg []) h rfl rfl rfl trivial ⟨trivial, trivial⟩ rfl ⟨⟨⟨le_bool (by first | exact great_yes (s := s) (by omega) (by assumption) | exact great_no (s := s) (by assumption) hP0.2), trivial⟩, trivial⟩, trivial⟩
  ·have h2 := of_decide_eq_false h2
   refine HT.skip ?_
   show HT _ _ _ _ _
   refine HT.region S_great_ok ?_
   refine So.q rfl rfl (V.mv (v := .p (.v (.int .i64 ((_ : Nat) : Int)))) rfl ?_)
   refine So.q rfl rfl (V.addI rfl rfl (by omega) ?_)
   refine So.q rfl rfl (V.as (v := .p (.v (.int .i64 _))) rfl ?_)
   refine So.e ?_
   refine ⟨s + 1, by exact ⟨by omega, fun k hk => by rcases Nat.lt_or_eq_of_le (Nat.le_of_lt_succ hk) with q | q; exact hP0.2 k q; subst q; omega⟩, by omega, ⟨⟨⟨le_int (by first | rfl | omega | (simp; done) | (simp; omega)), trivial⟩, ⟨.refl _, trivial⟩, trivial⟩, trivial⟩⟩
 ·have h1 := of_decide_eq_false h1
  refine HT.exit ?_
  show HT _ _ _ _ _
  refine HT.seq ?_
  refine HT.region S_great_ok ?_
  refine So.q rfl rfl (V.as (v := .p (.v (.bool false))) rfl ?_)
  refine So.e ?_
  show HT _ _ _ _ _
  refine HT.ret ?_
  exact ret_ok (sg []) h rfl rfl rfl trivial ⟨trivial, trivial⟩ rfl ⟨⟨⟨le_bool (by first | exact great_yes (s := s) (by omega) (by assumption) | exact great_no (s := s) (by assumption) hP0.2), trivial⟩, trivial⟩, trivial⟩
end Go.Vh

set_option linter.unusedVariables false
set_option linter.unusedSimpArgs false
namespace Go.Vh
open Go Go.Vc Go.Proofs Go.Vw
def fbytesSp : Sp := ⟨[], mkE (α := (List UInt8) × Int × Int × Int × (List UInt8)) (fun (g, ep, fr, kd, bd) => [.agg 5 (fun j => ([.bs g, .v (.int .i64 ep), .v (.int .i64 fr), .v (.int .i64 kd), .bs bd] : List PV).getD j (.v undef))]) (fun (g, ep, fr, kd, bd) => []) (fun (g, ep, fr, kd, bd) => True) (fun (g, ep, fr, kd, bd) => [.own 2 (0) ((bytesF g ep fr kd bd).length), .p (.v (.int .i64 (bytesE g ep fr kd bd)))]) (fun (g, ep, fr, kd, bd) => [(2, ⟨5, 1, (bytesF g ep fr kd bd).length, true, .bs (bytesF g ep fr kd bd)⟩)])⟩
def S_fbytes : FuncId → Option Sp := fun f => if f = 12 then some frightSp else if f = 27 then some fofSp else if f = 38 then some wplaceSp else if f = 40 then some wnumSp else if f = 25 then some wtextSp else none
theorem S_fbytes_ok : ∀ f s, S_fbytes f = some s → FOK Tryd.prog gl f s := fun f s h => by
 unfold S_fbytes at h
 split at h
 ·rename_i e; cases h; subst e; exact fright_ok
 split at h
 ·rename_i e; cases h; subst e; exact fof_ok
 split at h
 ·rename_i e; cases h; subst e; exact wplace_ok
 split at h
 ·rename_i e; cases h; subst e; exact wnum_ok
 split at h
 ·rename_i e; cases h; subst e; exact wtext_ok
 cases h
set_option maxHeartbeats 1000000 in
set_option maxRecDepth 1000 in
theorem fbytes_ok : FOK Tryd.prog gl 23 fbytesSp := by
 refine FOK.ofE (tyOf_ok Tryd.prog) (slots := [2, 3]) (nt := 27) Tryd.func23 rfl rfl rfl rfl (by decide) 1 (fun ⟨_, _, _, _, _⟩ => rfl) (by decide) (fun ⟨_, _, _, _, _⟩ => ⟨trivial, trivial⟩) ?_
 rintro ⟨g, ep, fr, kd, bd⟩ kk hlen hpre h
 replace hpre : True := hpre
 show HT (cx Tryd.prog 27 (tyOf Tryd.prog) gl []) _ [(0, .agg 5 (fun j => ([.bs g, .v (.int .i64 ep), .v (.int .i64 fr), .v (.int .i64 kd), .bs bd] : List PV).getD j (.v undef)))] [] _
 have h8 := nu_len ep 8
 have h4 := nu_len fr 4
 have h1k := nu_len kd 1
 have htg := tx_len g
 have hp3 : (txF g ++ nuF ep 8 ++ nuF fr 4).length = (txF g).length + (nuF ep 8).length + (nuF fr 4).length := by rw [List.length_append, List.length_append]
 have hp4 : (txF g ++ nuF ep 8 ++ nuF fr 4 ++ nuF kd 1).length = (txF g ++ nuF ep 8 ++ nuF fr 4).length + (nuF kd 1).length := List.length_append
 refine HT.seq ?_
 refine HT.region S_fbytes_ok ?_
 refine So.n (lk rfl) (A.boxAg 1 1 (n := 5) rfl (by intro j hj; first | rfl | trivial | (match j, hj with | 0, _ => (first | trivial | rfl) | 1, _ => (first | trivial | rfl) | 2, _ => (first | trivial | rfl) | 3, _ => (first | trivial | rfl) | 4, _ => (first | trivial | rfl)) | (split <;> first | rfl | trivial | (split <;> first | rfl | trivial))) rfl trivial ?_)
 refine So.q rfl rfl (V.as (v := .p (.v (.slice none 0 0))) rfl ?_)
 refine So.q rfl rfl (V.as (v := .p (.v (.int .i64 (0)))) rfl ?_)
 refine So.e ?_
 show HT _ _ _ _ _
 refine HT.seq ?_
 refine HT.seq ?_
 refine HT.region S_fbytes_ok ?_
 refine So.q rfl rfl (V.ldPtrA ty24 rfl rfl rfl rfl (lk rfl) ?_)
 refine So.n (lk rfl) (A.call0 [.agg 5 _] 2 rfl rfl rfl rfl ⟨trivial, trivial⟩ trivial (g, ep, fr, kd, bd) ⟨le_agg (fun j hj => by match j, hj with | 0, _ => rfl | 1, _ => rfl | 2, _ => rfl | 3, _ => rfl | 4, _ => rfl), trivial⟩ trivial (by trivial) (Φ := fun _ => True) (fun _ _ => trivial) (.inl rfl) (v := .p (.v (.bool _))) rfl (O' := _) rfl (fun h1 => ?_))
 refine So.q rfl rfl (V.not rfl ?_)
 refine So.e ?_
 show HT _ _ _ _ _
 refine R.cond rfl rfl (fun h2 => ?_) (fun h2 => ?_)
 ·have h2 := of_decide_eq_false (bnT h2)
  refine HT.seq ?_
  refine HT.region S_fbytes_ok ?_
  refine So.q rfl rfl (V.as (v := .p (.v (.slice none 0 0))) rfl ?_)
  refine So.q rfl rfl (V.as (v := .p (.v (.int .i64 (181)))) rfl ?_)
  refine So.e ?_
  show HT _ _ _ _ _
  refine R.phan 2 2 5 1 (.bs []) rfl rfl rfl ⟨rfl, rfl⟩ ?_
  refine HT.ret ?_
  exact ret_ok (sg [(2, 2)]) h rfl rfl rfl ⟨trivial, trivial⟩ ⟨rfl, trivial, trivial⟩ rfl ⟨⟨⟨le_own2 (by first | rfl | omega) (by first | with_reducible rfl | (show (_ : Nat) = _; first | (rw [bytesF_no (by assumption)]; done) | (rw [bytesF_no (by assumption)]; rfl) | (rw [bytesF_yes (by assumption)]; done) | (rw [bytesF_yes (by assumption)]; rfl)) | (show (_ : List UInt8) = _; first | (rw [bytesF_no (by assumption)]; done) | (rw [bytesF_yes (by assumption)]; done) | (rw [bytesF_yes (by assumption)]; rfl)) | (show (_ : Int) = _; first | (rw [bytesE_no (by assumption)]; done) | (rw [bytesE_yes (by assumption)]; done))), rfl⟩, ⟨le_int (by first | with_reducible rfl | (show (_ : Nat) = _; first | (rw [bytesF_no (by assumption)]; done) | (rw [bytesF_no (by assumption)]; rfl) | (rw [bytesF_yes (by assumption)]; done) | (rw [bytesF_yes (by assumption)]; rfl)) | (show (_ : List UInt8) = _; first | (rw [bytesF_no (by assumption)]; done) | (rw [bytesF_yes (by assumption)]; done) | (rw [bytesF_yes (by assumption)]; rfl)) | (show (_ : Int) = _; first | (rw [bytesE_no (by assumption)]; done) | (rw [bytesE_yes (by assumption)]; done))), trivial⟩, trivial⟩, ⟨⟨_, rfl, .inl (ob_bs (by first | rfl | ((try dsimp only); (first | with_reducible rfl | (show (_ : Nat) = _; first | (rw [bytesF_no (by assumption)]; done) | (rw [bytesF_no (by assumption)]; rfl) | (rw [bytesF_yes (by assumption)]; done) | (rw [bytesF_yes (by assumption)]; rfl)) | (show (_ : List UInt8) = _; first | (rw [bytesF_no (by assumption)]; done) | (rw [bytesF_yes (by assumption)]; done) | (rw [bytesF_yes (by assumption)]; rfl)) | (show (_ : Int) = _; first | (rw [bytesE_no (by assumption)]; done) | (rw [bytesE_yes (by assumption)]; done))))) (by first | rfl | ((try dsimp only); (first | with_reducible rfl | (show (_ : Nat) = _; first | (rw [bytesF_no (by assumption)]; done) | (rw [bytesF_no (by assumption)]; rfl) | (rw [bytesF_yes (by assumption)]; done) | (rw [bytesF_yes (by assumption)]; rfl)) | (show (_ : List UInt8) = _; first | (rw [bytesF_no (by assumption)]; done) | (rw [bytesF_yes (by assumption)]; done) | (rw [bytesF_yes (by assumption)]; rfl)) | (show (_ : Int) = _; first | (rw [bytesE_no (by assumption)]; done) | (rw [bytesE_yes (by assumption)]; done)))))), trivial⟩, trivial⟩⟩
 ·have h2 := of_decide_eq_true (bnF h2)
  refine HT.skip ?_
  show HT _ _ _ _ _
  refine HT.seq ?_
  refine HT.region S_fbytes_ok ?_
  refine So.n (lk rfl) (A.bldG ty54 rfl trivial rfl rfl ?_)
  refine So.n (lk rfl) (A.boxG 2 1 [.p (.v (.slice none 0 0))] rfl (by intro j hj; match j, hj with | 0, _ => (first | exact trivial | exact rfl)) rfl (by intro j hj; match j, hj with | 0, _ => rfl) rfl trivial ?_)
  refine So.q rfl rfl (V.as (v := .ptr 2 0) rfl ?_)
  refine So.e ?_
  show HT _ _ _ _ _
  refine HT.seq ?_
  refine HT.phanC 2 3 5 1 (.bs []) (c' := .cells [.own 3 0 0]) rfl rfl rfl ⟨rfl, rfl⟩ rfl (allP_spec (P := fun j => _ ∨ _) ⟨trivial, .inr ⟨rfl, rfl⟩⟩) rfl ?_
  show HT _ _ _ _ _
  refine HT.region S_fbytes_ok ?_
  refine So.q rfl rfl (V.mv (v := .ptr 2 0) rfl ?_)
  refine So.q rfl rfl (V.ldPtrA ty24 rfl rfl rfl rfl (lk rfl) ?_)
  refine So.n (lk rfl) (A.call0 [.agg 5 _] 4 rfl rfl rfl rfl ⟨trivial, trivial⟩ trivial (g, ep, fr, kd, bd) ⟨le_agg (fun j hj => by match j, hj with | 0, _ => rfl | 1, _ => rfl | 2, _ => rfl | 3, _ => rfl | 4, _ => rfl), trivial⟩ trivial (by trivial) (Φ := fun _ => True) (fun _ _ => trivial) (.inl rfl) (v := .agg 3 _) rfl (O' := _) rfl (fun h3 => ?_))
  refine So.n (lk rfl) (A.call [.ptr 1 _, .agg 3 _] [(1, ⟨_, _, _, _, .cells [.own 2 0 _]⟩), (2, ⟨_, _, _, _, .bs _⟩)] (sg [(1, 2), (2, 3)]) 4 rfl rfl rfl rfl ⟨rfl, rfl, trivial⟩ rfl ⟨⟨rfl, trivial⟩, trivial, trivial⟩ ⟨rfl, trivial, trivial⟩ trivial rfl (nl, g, ep, fr) ⟨.refl _, .refl _, trivial⟩ ⟨⟨_, rfl, .inl rfl, ⟨rfl, trivial⟩⟩, ⟨_, rfl, .inl rfl, trivial⟩, trivial⟩ (by first | omega | (simp only [List.drop_zero, List.take_length]; omega) | (simp; done) | (simp; omega)) (Φ := fun _ => True) (fun _ _ => trivial) ⟨⟨_, _, rfl, rfl, rfl, Nat.le_refl _⟩, trivial⟩ (.inl rfl) rfl (v := .tup 0 _) rfl (O' := (2, ⟨_, _, _, _, .cells _⟩) :: (6, ⟨_, _, _, _, .bs _⟩) :: _) rfl (fun h4 => ?_))
  refine So.e ?_
  show HT _ _ _ _ _
  refine HT.seq ?_
  refine R.tell [] [(2, ⟨54, 1, 1, true, .cells [.own 6 (0) ((txF g ++ nuF ep 8 ++ nuF fr 4).length)]⟩), (6, ⟨5, 1, (txF g ++ nuF ep 8 ++ nuF fr 4).length, true, .bs (txF g ++ nuF ep 8 ++ nuF fr 4)⟩)] [1, 2, 3, 4] [1] (fr0 := [(1, .ptr 1 0), (2, .p (.v (.slice none 0 0))), (3, .p (.v (.int .i64 _))), (4, .ptr 2 0)]) (O0 := [(1, ⟨_, _, _, _, .rows _⟩)]) rfl rfl ⟨⟨⟨.refl _, rfl⟩, ⟨.refl _, trivial⟩, ⟨.refl _, trivial⟩, ⟨.refl _, rfl⟩, trivial⟩, ⟨⟨_, rfl, .inl (by first | rfl | (simp only [nl, List.nil_append]; rfl) | (simp only [nl, List.nil_append])), ⟨rfl, trivial⟩⟩, ⟨_, rfl, .inl (ob_bs (by first | rfl | (simp only [nl, List.nil_append]; rfl) | (simp only [nl, List.nil_append])) (by first | rfl | (simp only [nl, List.nil_append]; rfl) | (simp only [nl, List.nil_append]))), trivial⟩, ⟨_, rfl, .inl rfl, trivial⟩, trivial⟩⟩ ?_
  show HT _ _ _ _ _
  refine HT.region S_fbytes_ok ?_
  refine So.q rfl rfl (V.mv (v := .ptr 2 0) rfl ?_)
  refine So.q rfl rfl (V.faPtr ty24 rfl ty3 (lk rfl) rfl rfl (lk rfl) ?_)
  refine So.q rfl rfl (V.ldPtr ty3 rfl rfl rfl (lk rfl) (v := .p (.v (.int .i64 _))) rfl ?_)
  refine So.n (lk rfl) (A.call [.ptr 1 _, .p (.v (.int .i64 _)), .p (.v (.int .i64 _))] [(1, ⟨_, _, _, _, .cells [.own 2 0 _]⟩), (2, ⟨_, _, _, _, .bs _⟩)] (sg [(1, 2), (2, 6)]) 7 rfl rfl rfl rfl ⟨rfl, rfl, trivial⟩ rfl ⟨⟨rfl, trivial⟩, trivial, trivial⟩ ⟨rfl, trivial, trivial, trivial⟩ trivial rfl (txF g ++ nuF ep 8 ++ nuF fr 4, kd, 1) ⟨.refl _, .refl _, .refl _, trivial⟩ ⟨⟨_, rfl, .inl rfl, ⟨rfl, trivial⟩⟩, ⟨_, rfl, .inl rfl, trivial⟩, trivial⟩ (by first | omega | (simp only [List.drop_zero, List.take_length]; omega) | (simp; done) | (simp; omega)) (Φ := fun _ => True) (fun _ _ => trivial) ⟨⟨_, _, rfl, rfl, rfl, Nat.le_refl _⟩, trivial⟩ (.inl rfl) rfl (v := .tup 0 _) rfl (O' := (2, ⟨_, _, _, _, .cells _⟩) :: (9, ⟨_, _, _, _, .bs _⟩) :: _) rfl (fun h5 => ?_))
  refine So.e ?_
  show HT _ _ _ _ _
  refine HT.seq ?_
  refine HT.region S_fbytes_ok ?_
  refine So.q rfl rfl (V.mv (v := .ptr 2 0) rfl ?_)
  refine So.q rfl rfl (V.faPtr ty24 rfl ty22 (lk rfl) rfl rfl (lk rfl) ?_)
  refine So.q rfl rfl (V.ldPtr ty22 rfl rfl rfl (lk rfl) (v := .p (.bs _)) rfl ?_)
  refine So.n (lk rfl) (A.bsl 10 ty51 ty22 rfl (lk rfl) (lk rfl) (fun _ => rfl) rfl rfl trivial ⟨trivial, trivial⟩ rfl (N := 1) rfl (c := .rows _) rfl ?_)
  refine So.n (lk rfl) (A.call [.ptr 1 _, .p (.sl _ _ _)] [(1, ⟨_, _, _, _, .cells [.own 2 0 _]⟩), (2, ⟨_, _, _, _, .bs _⟩)] (sg [(1, 2), (2, 9)]) 11 rfl rfl rfl rfl ⟨rfl, rfl, trivial⟩ rfl ⟨⟨rfl, trivial⟩, trivial, trivial⟩ ⟨rfl, trivial, trivial⟩ trivial rfl (txF g ++ nuF ep 8 ++ nuF fr 4 ++ nuF kd 1, [bd]) ⟨.refl _, le_sl rfl (by intro j hj; match j, hj with | 0, _ => rfl), trivial⟩ ⟨⟨_, rfl, .inl rfl, ⟨rfl, trivial⟩⟩, ⟨_, rfl, .inl rfl, trivial⟩, trivial⟩ (by first | omega | (simp only [List.drop_zero, List.take_length]; omega) | (simp; done) | (simp; omega)) (Φ := fun _ => True) (fun _ _ => trivial) ⟨⟨_, _, rfl, rfl, rfl, Nat.le_refl _⟩, trivial⟩ (.inr ⟨fun _ hj => absurd hj (Nat.not_lt_zero _), by simp [Hp.scal, OC.scal, PV.scal, BV.scal]⟩) rfl (v := .tup 0 _) rfl (O' := (2, ⟨_, _, _, _, .cells _⟩) :: (13, ⟨_, _, _, _, .bs _⟩) :: _) rfl (fun h6 => ?_))
  refine So.e ?_
  show HT _ _ _ _ _
  refine HT.seq ?_
  refine R.tell [] [(2, ⟨54, 1, 1, true, .cells [.own 13 (0) ((bodyF g ep fr kd bd).length)]⟩), (13, ⟨5, 1, (bodyF g ep fr kd bd).length, true, .bs (bodyF g ep fr kd bd)⟩)] [2, 3, 4] [] (fr0 := [(2, .p (.v (.slice none 0 0))), (3, .p (.v (.int .i64 _))), (4, .ptr 2 0)]) (O0 := []) rfl rfl ⟨⟨⟨.refl _, trivial⟩, ⟨.refl _, trivial⟩, ⟨.refl _, rfl⟩, trivial⟩, ⟨⟨_, rfl, .inl (by first | rfl | (rw [txL_1]; rfl) | (rw [txL_1])), ⟨rfl, trivial⟩⟩, ⟨_, rfl, .inl (ob_bs (by first | rfl | (rw [txL_1]; rfl) | (rw [txL_1])) (by first | rfl | (rw [txL_1]; rfl) | (rw [txL_1]))), trivial⟩, trivial⟩⟩ ?_
  show HT _ _ _ _ _
  refine HT.region S_fbytes_ok ?_
  refine So.q rfl rfl (V.mv (v := .ptr 2 0) rfl ?_)
  refine So.q rfl rfl (V.ncPtr rfl ?_)
  refine So.q rfl rfl (V.faPtr ty54 rfl ty22 (lk rfl) rfl rfl (lk rfl) ?_)
  refine So.q rfl rfl (V.ldPtr ty22 rfl rfl rfl (lk rfl) (v := .own 13 0 _) rfl ?_)
  refine So.q rfl rfl (V.as (v := .own 13 0 _) rfl ?_)
  refine So.q rfl rfl (V.as (v := .p (.v (.int .i64 (0)))) rfl ?_)
  refine So.e ?_
  show HT _ _ _ _ _
  refine HT.ret ?_
  exact ret_ok (sg [(2, 13)]) h rfl rfl rfl ⟨trivial, trivial⟩ ⟨rfl, trivial, trivial⟩ rfl ⟨⟨⟨le_own2 (by first | rfl | omega) (by first | with_reducible rfl | (show (_ : Nat) = _; first | (rw [bytesF_no (by assumption)]; done) | (rw [bytesF_no (by assumption)]; rfl) | (rw [bytesF_yes (by assumption)]; done) | (rw [bytesF_yes (by assumption)]; rfl)) | (show (_ : List UInt8) = _; first | (rw [bytesF_no (by assumption)]; done) | (rw [bytesF_yes (by assumption)]; done) | (rw [bytesF_yes (by assumption)]; rfl)) | (show (_ : Int) = _; first | (rw [bytesE_no (by assumption)]; done) | (rw [bytesE_yes (by assumption)]; done))), rfl⟩, ⟨le_int (by first | with_reducible rfl | (show (_ : Nat) = _; first | (rw [bytesF_no (by assumption)]; done) | (rw [bytesF_no (by assumption)]; rfl) | (rw [bytesF_yes (by assumption)]; done) | (rw [bytesF_yes (by assumption)]; rfl)) | (show (_ : List UInt8) = _; first | (rw [bytesF_no (by assumption)]; done) | (rw [bytesF_yes (by assumption)]; done) | (rw [bytesF_yes (by assumption)]; rfl)) | (show (_ : Int) = _; first | (rw [bytesE_no (by assumption)]; done) | (rw [bytesE_yes (by assumption)]; done))), trivial⟩, trivial⟩, ⟨⟨_, rfl, .inl (ob_bs (by first | rfl | ((try dsimp only); (first | with_reducible rfl | (show (_ : Nat) = _; first | (rw [bytesF_no (by assumption)]; done) | (rw [bytesF_no (by assumption)]; rfl) | (rw [bytesF_yes (by assumption)]; done) | (rw [bytesF_yes (by assumption)]; rfl)) | (show (_ : List UInt8) = _; first | (rw [bytesF_no (by assumption)]; done) | (rw [bytesF_yes (by assumption)]; done) | (rw [bytesF_yes (by assumption)]; rfl)) | (show (_ : Int) = _; first | (rw [bytesE_no (by assumption)]; done) | (rw [bytesE_yes (by assumption)]; done))))) (by first | rfl | ((try dsimp only); (first | with_reducible rfl | (show (_ : Nat) = _; first | (rw [bytesF_no (by assumption)]; done) | (rw [bytesF_no (by assumption)]; rfl) | (rw [bytesF_yes (by assumption)]; done) | (rw [bytesF_yes (by assumption)]; rfl)) | (show (_ : List UInt8) = _; first | (rw [bytesF_no (by assumption)]; done) | (rw [bytesF_yes (by assumption)]; done) | (rw [bytesF_yes (by assumption)]; rfl)) | (show (_ : Int) = _; first | (rw [bytesE_no (by assumption)]; done) | (rw [bytesE_yes (by assumption)]; done)))))), trivial⟩, trivial⟩⟩
end Go.Vh

set_option linter.unusedVariables false
set_option linter.unusedSimpArgs false
namespace Go.Vh
open Go Go.Vc Go.Proofs Go.Vw
def fmsgSp : Sp := ⟨[], mkE (α := (List UInt8) × Int × Int × Int × (List UInt8) × (List UInt8) × (List UInt8) × (List UInt8)) (fun (g, ep, fr, kd, bd, sn, cf, mb) => [.agg 8 (fun j => ([.bs g, .v (.int .i64 ep), .v (.int .i64 fr), .v (.int .i64 kd), .bs bd, .bs sn, .bs cf, .bs mb] : List PV).getD j (.v undef))]) (fun (g, ep, fr, kd, bd, sn, cf, mb) => []) (fun (g, ep, fr, kd, bd, sn, cf, mb) => True) (fun (g, ep, fr, kd, bd, sn, cf, mb) => [.p (.v (.bool (decide (msgP g ep fr kd bd sn cf mb))))]) (fun (g, ep, fr, kd, bd, sn, cf, mb) => [])⟩
def S_fmsg : FuncId → Option Sp := fun f => if f = 12 then some frightSp else if f = 44 then some ftagSp else none
theorem S_fmsg_ok : ∀ f s, S_fmsg f = some s → FOK Tryd.prog gl f s := fun f s h => by
 unfold S_fmsg at h
 split at h
 ·rename_i e; cases h; subst e; exact fright_ok
 split at h
 ·rename_i e; cases h; subst e; exact ftag_ok
 cases h
set_option maxHeartbeats 1000000 in
set_option maxRecDepth 1000 in
theorem fmsg_ok : FOK Tryd.prog gl 24 fmsgSp := by
 refine FOK.ofE (tyOf_ok Tryd.prog) (slots := [2]) (nt := 25) Tryd.func24 rfl rfl rfl rfl (by decide) 1 (fun ⟨_, _, _, _, _, _, _, _⟩ => rfl) (by decide) (fun ⟨_, _, _, _, _, _, _, _⟩ => ⟨trivial, trivial⟩) ?_
 rintro ⟨g, ep, fr, kd, bd, sn, cf, mb⟩ kk hlen hpre h
 replace hpre : True := hpre
 show HT (cx Tryd.prog 25 (tyOf Tryd.prog) gl []) _ [(0, .agg 8 (fun j => ([.bs g, .v (.int .i64 ep), .v (.int .i64 fr), .v (.int .i64 kd), .bs bd, .bs sn, .bs cf, .bs mb] : List PV).getD j (.v undef)))] [] _
 refine HT.seq ?_
 refine HT.region S_fmsg_ok ?_
 refine So.n (lk rfl) (A.boxAg 1 1 (n := 8) rfl (by intro j hj; first | rfl | trivial | (match j, hj with | 0, _ => (first | trivial | rfl) | 1, _ => (first | trivial | rfl) | 2, _ => (first | trivial | rfl) | 3, _ => (first | trivial | rfl) | 4, _ => (first | trivial | rfl) | 5, _ => (first | trivial | rfl) | 6, _ => (first | trivial | rfl) | 7, _ => (first | trivial | rfl)) | (split <;> first | rfl | trivial | (split <;> first | rfl | trivial))) rfl trivial ?_)
 refine So.q rfl rfl (V.as (v := .p (.v (.bool false))) rfl ?_)
 refine So.e ?_
 show HT _ _ _ _ _
 refine HT.seq ?_
 refine HT.region S_fmsg_ok ?_
 refine So.q rfl rfl (V.as (v := .clo 44 []) rfl ?_)
 refine So.e ?_
 show HT _ _ _ _ _
 refine HT.seq ?_
 refine HT.region S_fmsg_ok ?_
 refine So.q rfl rfl (V.faPtr ty26 rfl ty24 (lk rfl) rfl rfl (lk rfl) ?_)
 refine So.q rfl rfl (V.ldPtrA ty24 rfl rfl rfl rfl (lk rfl) ?_)
 refine So.n (lk rfl) (A.call0 [.agg 5 _] 2 rfl rfl rfl rfl ⟨trivial, trivial⟩ trivial (g, ep, fr, kd, bd) ⟨le_agg (fun j hj => by match j, hj with | 0, _ => rfl | 1, _ => rfl | 2, _ => rfl | 3, _ => rfl | 4, _ => rfl), trivial⟩ trivial (by trivial) (Φ := fun _ => True) (fun _ _ => trivial) (.inl rfl) (v := .p (.v (.bool _))) rfl (O' := _) rfl (fun h1 => ?_))
 refine So.q rfl rfl (V.mv (v := .p (.v (.bool _))) rfl ?_)
 refine So.gd rfl rfl (lk rfl) (lk rfl) (fun h2 => ?_) (fun h2 => ?_)
 ·have h2 := of_decide_eq_true h2
  refine A.v rfl (V.faPtr ty26 rfl ty22 (lk rfl) rfl rfl (lk rfl) ?_)
  refine So.gy rfl rfl (lk rfl) (lk rfl) ?_
  refine A.v rfl (V.ldPtr ty22 rfl rfl rfl (lk rfl) (v := .p (.bs _)) rfl ?_)
  refine So.gy rfl rfl (lk rfl) (lk rfl) ?_
  refine A.v rfl (V.len ty22 (v := .p (.bs _)) rfl rfl ?_)
  refine So.gy rfl rfl (lk rfl) (lk rfl) ?_
  refine A.v rfl (V.bin (a := (.v (.int .i64 _))) (b := (.v (.int .i64 (3309)))) (r := .v (.bool _)) rfl rfl rfl trivial ?_)
  refine So.q rfl rfl (V.pkTrue (u := .p (.v (.bool _))) rfl rfl ?_)
  refine So.q rfl rfl (V.mv (v := .p (.v (.bool _))) rfl ?_)
  refine So.gd rfl rfl (lk rfl) (lk rfl) (fun h3 => ?_) (fun h3 => ?_)
  ·have h3 := of_decide_eq_true h3
   refine A.v rfl (V.mv (v := .clo 44 []) rfl ?_)
   refine So.gy rfl rfl (lk rfl) (lk rfl) ?_
   refine A.v rfl (V.faPtr ty26 rfl ty22 (lk rfl) rfl rfl (lk rfl) ?_)
   refine So.gy rfl rfl (lk rfl) (lk rfl) ?_
   refine A.v rfl (V.ldPtr ty22 rfl rfl rfl (lk rfl) (v := .p (.bs _)) rfl ?_)
   refine So.gy rfl rfl (lk rfl) (lk rfl) ?_
   refine A.call0 [.p (.bs _)] 2 rfl rfl rfl rfl ⟨trivial, trivial⟩ trivial (cf) ⟨.refl _, trivial⟩ trivial (by trivial) (Φ := fun _ => True) (fun _ _ => trivial) (.inl rfl) (v := .p (.v (.bool _))) rfl (O' := _) rfl (fun h4 => ?_)
   refine So.q rfl rfl (V.pkTrue (u := .p (.v (.bool _))) rfl rfl ?_)
   refine So.q rfl rfl (V.mv (v := .p (.v (.bool _))) rfl ?_)
   refine So.gd rfl rfl (lk rfl) (lk rfl) (fun h5 => ?_) (fun h5 => ?_)
   ·have h5 := of_decide_eq_true h5
    refine A.v rfl (V.mv (v := .clo 44 []) rfl ?_)
    refine So.gy rfl rfl (lk rfl) (lk rfl) ?_
    refine A.v rfl (V.faPtr ty26 rfl ty22 (lk rfl) rfl rfl (lk rfl) ?_)
    refine So.gy rfl rfl (lk rfl) (lk rfl) ?_
    refine A.v rfl (V.ldPtr ty22 rfl rfl rfl (lk rfl) (v := .p (.bs _)) rfl ?_)
    refine So.gy rfl rfl (lk rfl) (lk rfl) ?_
    refine A.call0 [.p (.bs _)] 2 rfl rfl rfl rfl ⟨trivial, trivial⟩ trivial (mb) ⟨.refl _, trivial⟩ trivial (by trivial) (Φ := fun _ => True) (fun _ _ => trivial) (.inl rfl) (v := .p (.v (.bool _))) rfl (O' := _) rfl (fun h6 => ?_)
    refine So.q rfl rfl (V.pkTrue (u := .p (.v (.bool _))) rfl rfl ?_)
    refine So.q rfl rfl (V.as (v := .p (.v (.bool _))) rfl ?_)
    refine So.e ?_
    show HT _ _ _ _ _
    refine HT.ret ?_
    exact ret_ok (sg []) h rfl rfl rfl trivial ⟨trivial, trivial⟩ rfl ⟨⟨⟨le_bool (by first | with_reducible rfl | exact msg_no (fun q => absurd q.1 (by assumption)) | exact msg_no (fun q => by have := q.2; omega) | exact msg_yes ⟨by assumption, by omega⟩ | exact msg_iff ⟨fun q => ⟨by assumption, by omega⟩, fun q => by have := q.2; omega⟩ | (unfold tagP at *; first | exact msg_no (fun q => absurd q.1 (by assumption)) | exact msg_no (fun q => by have := q.2; omega) | exact msg_yes ⟨by assumption, by omega⟩ | exact msg_iff ⟨fun q => ⟨by assumption, by omega⟩, fun q => by have := q.2; omega⟩)), trivial⟩, trivial⟩, trivial⟩
   ·have h5 := of_decide_eq_false h5
    refine So.gn (b := false) rfl rfl rfl (lk rfl) (lk rfl) ?_
    refine So.gn (b := false) rfl rfl rfl (lk rfl) (lk rfl) ?_
    refine So.gn (b := false) rfl rfl rfl (lk rfl) (lk rfl) ?_
    refine So.q rfl rfl (V.pkFalse (u := .p (.v (.bool false))) rfl rfl ?_)
    refine So.q rfl rfl (V.as (v := .p (.v (.bool false))) rfl ?_)
    refine So.e ?_
    show HT _ _ _ _ _
    refine HT.ret ?_
    exact ret_ok (sg []) h rfl rfl rfl trivial ⟨trivial, trivial⟩ rfl ⟨⟨⟨le_bool (by first | with_reducible rfl | exact msg_no (fun q => absurd q.1 (by assumption)) | exact msg_no (fun q => by have := q.2; omega) | exact msg_yes ⟨by assumption, by omega⟩ | exact msg_iff ⟨fun q => ⟨by assumption, by omega⟩, fun q => by have := q.2; omega⟩ | (unfold tagP at *; first | exact msg_no (fun q => absurd q.1 (by assumption)) | exact msg_no (fun q => by have := q.2; omega) | exact msg_yes ⟨by assumption, by omega⟩ | exact msg_iff ⟨fun q => ⟨by assumption, by omega⟩, fun q => by have := q.2; omega⟩)), trivial⟩, trivial⟩, trivial⟩
  ·have h3 := of_decide_eq_false h3
   refine So.gn (b := false) rfl rfl rfl (lk rfl) (lk rfl) ?_
   refine So.gn (b := false) rfl rfl rfl (lk rfl) (lk rfl) ?_
   refine So.gn (b := false) rfl rfl rfl (lk rfl) (lk rfl) ?_
   refine So.q rfl rfl (V.pkFalse (u := .p (.v (.bool false))) rfl rfl ?_)
   refine So.q rfl rfl (V.mv (v := .p (.v (.bool false))) rfl ?_)
   refine So.gn (b := false) rfl rfl rfl (lk rfl) (lk rfl) ?_
   refine So.gn (b := false) rfl rfl rfl (lk rfl) (lk rfl) ?_
   refine So.gn (b := false) rfl rfl rfl (lk rfl) (lk rfl) ?_
   refine So.gn (b := false) rfl rfl rfl (lk rfl) (lk rfl) ?_
   refine So.q rfl rfl (V.pkFalse (u := .p (.v (.bool false))) rfl rfl ?_)
   refine So.q rfl rfl (V.as (v := .p (.v (.bool false))) rfl ?_)
   refine So.e ?_
   show HT _ _ _ _ _
   refine HT.ret ?_
   exact ret_ok (sg []) h rfl rfl rfl trivial ⟨trivial, trivial⟩ rfl ⟨⟨⟨le_bool (by first | with_reducible rfl | exact msg_no (fun q => absurd q.1 (by assumption)) | exact msg_no (fun q => by have := q.2; omega) | exact msg_yes ⟨by assumption, by omega⟩ | exact msg_iff ⟨fun q => ⟨by assumption, by omega⟩, fun q => by have := q.2; omega⟩ | (unfold tagP at *; first | exact msg_no (fun q => absurd q.1 (by assumption)) | exact msg_no (fun q => by have := q.2; omega) | exact msg_yes ⟨by assumption, by omega⟩ | exact msg_iff ⟨fun q => ⟨by assumption, by omega⟩, fun q => by have := q.2; omega⟩)), trivial⟩, trivial⟩, trivial⟩
 ·have h2 := of_decide_eq_false h2
  refine So.gn (b := false) rfl rfl rfl (lk rfl) (lk rfl) ?_
  refine So.gn (b := false) rfl rfl rfl (lk rfl) (lk rfl) ?_
  refine So.gn (b := false) rfl rfl rfl (lk rfl) (lk rfl) ?_
  refine So.q rfl rfl (V.pkFalse (u := .p (.v (.bool false))) rfl rfl ?_)
  refine So.q rfl rfl (V.mv (v := .p (.v (.bool false))) rfl ?_)
  refine So.gn (b := false) rfl rfl rfl (lk rfl) (lk rfl) ?_
  refine So.gn (b := false) rfl rfl rfl (lk rfl) (lk rfl) ?_
  refine So.gn (b := false) rfl rfl rfl (lk rfl) (lk rfl) ?_
  refine So.gn (b := false) rfl rfl rfl (lk rfl) (lk rfl) ?_
  refine So.q rfl rfl (V.pkFalse (u := .p (.v (.bool false))) rfl rfl ?_)
  refine So.q rfl rfl (V.mv (v := .p (.v (.bool false))) rfl ?_)
  refine So.gn (b := false) rfl rfl rfl (lk rfl) (lk rfl) ?_
  refine So.gn (b := false) rfl rfl rfl (lk rfl) (lk rfl) ?_
  refine So.gn (b := false) rfl rfl rfl (lk rfl) (lk rfl) ?_
  refine So.gn (b := false) rfl rfl rfl (lk rfl) (lk rfl) ?_
  refine So.q rfl rfl (V.pkFalse (u := .p (.v (.bool false))) rfl rfl ?_)
  refine So.q rfl rfl (V.as (v := .p (.v (.bool false))) rfl ?_)
  refine So.e ?_
  show HT _ _ _ _ _
  refine HT.ret ?_
  exact ret_ok (sg []) h rfl rfl rfl trivial ⟨trivial, trivial⟩ rfl ⟨⟨⟨le_bool (by first | with_reducible rfl | exact msg_no (fun q => absurd q.1 (by assumption)) | exact msg_no (fun q => by have := q.2; omega) | exact msg_yes ⟨by assumption, by omega⟩ | exact msg_iff ⟨fun q => ⟨by assumption, by omega⟩, fun q => by have := q.2; omega⟩ | (unfold tagP at *; first | exact msg_no (fun q => absurd q.1 (by assumption)) | exact msg_no (fun q => by have := q.2; omega) | exact msg_yes ⟨by assumption, by omega⟩ | exact msg_iff ⟨fun q => ⟨by assumption, by omega⟩, fun q => by have := q.2; omega⟩)), trivial⟩, trivial⟩, trivial⟩
def rmsgSp : Sp := ⟨[], mkE (α := (List UInt8) × Int × Int × Int × (List UInt8) × (List UInt8) × (List UInt8) × (List UInt8)) (fun (g, ep, fr, kd, bd, sn, cf, mb) => [.agg 8 (fun j => ([.bs g, .v (.int .i64 ep), .v (.int .i64 fr), .v (.int .i64 kd), .bs bd, .bs sn, .bs cf, .bs mb] : List PV).getD j (.v undef))]) (fun (g, ep, fr, kd, bd, sn, cf, mb) => []) (fun (g, ep, fr, kd, bd, sn, cf, mb) => True) (fun (g, ep, fr, kd, bd, sn, cf, mb) => [.p (.v (.bool (decide (msgP g ep fr kd bd sn cf mb))))]) (fun (g, ep, fr, kd, bd, sn, cf, mb) => [])⟩
def S_rmsg : FuncId → Option Sp := fun f => if f = 26 then some rrightSp else none
end Go.Vh

set_option linter.unusedVariables false
set_option linter.unusedSimpArgs false
namespace Go.Vh
open Go Go.Vc Go.Proofs Go.Vw
def fgetSp : Sp := ⟨[], mkE (α := (List UInt8)) (fun b => [.p (.bs (b))]) (fun b => []) (fun b => True) (fun b => [.agg 8 (fun j => ([.bs (gmG b), .v (.int .i64 (gmP b)), .v (.int .i64 (gmF b)), .v (.int .i64 (gmK b)), .bs (gmB b), .bs (gmS b), .bs (gmC b), .bs (gmM b)] : List PV).getD j (.v undef)), .p (.v (.int .i64 ((gmE b))))]) (fun b => [])⟩
def S_fget : FuncId → Option Sp := fun f => if f = 34 then some rtext_4Sp else if f = 32 then some rplaceSp else if f = 33 then some frnumSp else if f = 35 then some rendSp else if f = 24 then some fmsgSp else none
theorem S_fget_ok : ∀ f s, S_fget f = some s → FOK Tryd.prog gl f s := fun f s h => by
 unfold S_fget at h
 split at h
 ·rename_i e; cases h; subst e; exact rtext_4_ok
 split at h
 ·rename_i e; cases h; subst e; exact rplace_ok
 split at h
 ·rename_i e; cases h; subst e; exact frnum_ok
 split at h
 ·rename_i e; cases h; subst e; exact rend_ok
 split at h
 ·rename_i e; cases h; subst e; exact fmsg_ok
 cases h
theorem S_fget_det : ∀ f s, S_fget f = some s → SpDet s.sp := fun f s h => by
 unfold S_fget at h
 split at h
 ·cases h; exact mkE_det _ _ _ _ _
 split at h
 ·cases h; exact mkE_det _ _ _ _ _
 split at h
 ·cases h; exact mkE_det _ _ _ _ _
 split at h
 ·cases h; exact mkE_det _ _ _ _ _
 split at h
 ·cases h; exact mkE_det _ _ _ _ _
 cases h
def S_fget_1 : FuncId → Option Sp := fun f => if f = 34 then some rtext_bSp else none
theorem S_fget_1_ok : ∀ f s, S_fget_1 f = some s → FOK Tryd.prog gl f s := fun f s h => by
 unfold S_fget_1 at h
 split at h
 ·rename_i e; cases h; subst e; exact rtext_b_ok
 cases h
set_option maxHeartbeats 1000000 in
set_option maxRecDepth 20000 in
theorem fget_ok : FOK Tryd.prog gl 20 fgetSp := by
 refine FOK.ofEC (tyOf_ok Tryd.prog) (rvs := [.cell 2 26, .tmp 3]) (nt := 63) Tryd.func20 rfl rfl rfl rfl (by decide) 1 (fun _ => rfl) (by decide) (fun _ => ⟨trivial, trivial⟩) ?_
 rintro b kk hlen hpre h
 have hl0 : (b).length ≤ 9223372036854775807 := hlen.1
 replace hpre : True := hpre
 show HT (cx Tryd.prog 63 (tyOf Tryd.prog) gl []) _ [(0, .p (.bs (b)))] [] _
 refine HT.seq ?_
 refine HT.region S_fget_ok ?_
 refine So.n (lk rfl) (A.alloc 1 1 ty26 rfl trivial (f := fun j => ([.v (.slice none 0 0), .v (.int .i64 0), .v (.int .i64 0), .v (.int .i64 0), .v (.slice none 0 0), .v (.slice none 0 0), .v (.slice none 0 0), .v (.slice none 0 0)] : List PV).getD j (.v undef)) (fun j hj => by match j, hj with | 0, _ => rfl | 1, _ => rfl | 2, _ => rfl | 3, _ => rfl | 4, _ => rfl | 5, _ => rfl | 6, _ => rfl | 7, _ => rfl) ?_)
 refine So.q rfl rfl (V.as (v := .p (.v (.int .i64 (0)))) rfl ?_)
 refine So.e ?_
 show HT _ _ _ _ _
 refine HT.seq ?_
 refine HT.region S_fget_ok ?_
 refine So.n (lk rfl) (A.alloc 2 1 ty26 rfl trivial (f := fun j => ([.v (.slice none 0 0), .v (.int .i64 0), .v (.int .i64 0), .v (.int .i64 0), .v (.slice none 0 0), .v (.slice none 0 0), .v (.slice none 0 0), .v (.slice none 0 0)] : List PV).getD j (.v undef)) (fun j hj => by match j, hj with | 0, _ => rfl | 1, _ => rfl | 2, _ => rfl | 3, _ => rfl | 4, _ => rfl | 5, _ => rfl | 6, _ => rfl | 7, _ => rfl) ?_)
 refine So.e ?_
 show HT _ _ _ _ _
 refine HT.seq ?_
 refine HT.region S_fget_ok ?_
 refine So.n (lk rfl) (A.bldS ty63 rfl rfl trivial rfl (f := fun j => ([.v (.slice none 0 0), .v (.int .i64 0), .v (.int .i64 0)] : List PV).getD j (.v undef)) (by exact allP_spec (P := fun j => _ = _) ⟨⟨⟨trivial, rfl⟩, rfl⟩, rfl⟩) ?_)
 refine So.n (lk rfl) (A.boxAg 3 1 (n := 3) rfl (by intro j hj; first | rfl | trivial | (match j, hj with | 0, _ => (first | trivial | rfl) | 1, _ => (first | trivial | rfl) | 2, _ => (first | trivial | rfl)) | (split <;> first | rfl | trivial | (split <;> first | rfl | trivial))) rfl trivial ?_)
 refine So.q rfl rfl (V.as (v := .ptr 3 0) rfl ?_)
 refine So.e ?_
 show HT _ _ _ _ _
 refine HT.seq ?_
 refine HT.region S_fget_ok ?_
 refine So.q rfl rfl (V.mv (v := .p (.bs _)) rfl ?_)
 refine So.n (lk rfl) (A.bldS ty63 rfl rfl ⟨by first | exact trivial | exact rfl | (intro j hj; first | trivial | rfl | (simp [BV.one]; done)), trivial⟩ rfl (f := fun j => ([.bs b, .v (.int .i64 0), .v (.int .i64 0)] : List PV).getD j (.v undef)) (by exact allP_spec (P := fun j => _ = _) ⟨⟨⟨trivial, rfl⟩, rfl⟩, rfl⟩) ?_)
 refine So.n (lk rfl) (A.boxAg 4 1 (n := 3) rfl (by intro j hj; first | rfl | trivial | (match j, hj with | 0, _ => (first | trivial | rfl) | 1, _ => (first | trivial | rfl) | 2, _ => (first | trivial | rfl)) | (split <;> first | rfl | trivial | (split <;> first | rfl | trivial))) rfl trivial ?_)
 refine So.q rfl rfl (V.as (v := .ptr 4 0) rfl ?_)
 refine So.e ?_
 show HT _ _ _ _ _
 refine HT.seq ?_
 refine R.tell [] [(2, ⟨26, 1, 8, true, .rows (fun j => if j = 5 then .bs [] else if j = 6 then .bs [] else if j = 7 then .bs [] else (fun j => ([.bs [], .v (.int .i64 0), .v (.int .i64 0), .v (.int .i64 0), .bs [], .v undef, .v undef, .v undef] : List PV).getD j (.v undef)) j)⟩), (3, ⟨63, 1, 3, true, .rows (fun j => if j = 0 then .bs [] else (fun _ => .v (.int .i64 0)) j)⟩)] [2, 3, 4, 5, 6] [1, 4] (fr0 := [(2, .ptr 1 0), (3, .p (.v (.int .i64 _))), (4, .ptr 2 0), (5, .ptr 3 0), (6, .ptr 4 0)]) (O0 := [(1, ⟨_, _, _, _, .rows _⟩), (4, ⟨_, _, _, _, .rows _⟩)]) rfl rfl ⟨⟨⟨.refl _, rfl⟩, ⟨.refl _, trivial⟩, ⟨.refl _, rfl⟩, ⟨.refl _, rfl⟩, ⟨.refl _, rfl⟩, trivial⟩, ⟨⟨_, rfl, .inr (ob_rowsL (by intro j hj; match j, hj with | 0, _ => exact le_nil rfl | 1, _ => exact .refl _ | 2, _ => exact .refl _ | 3, _ => exact .refl _ | 4, _ => exact le_nil rfl | 5, _ => exact le_nil rfl | 6, _ => exact le_nil rfl | 7, _ => exact le_nil rfl)), trivial⟩, ⟨_, rfl, .inr (ob_rowsL (by intro j hj; match j, hj with | 0, _ => exact le_nil rfl | 1, _ => exact .refl _ | 2, _ => exact .refl _)), trivial⟩, ⟨_, rfl, .inl rfl, trivial⟩, ⟨_, rfl, .inl rfl, trivial⟩, trivial⟩⟩ ?_
 show HT _ _ _ _ _
 refine HT.region S_fget_ok ?_
 refine So.q rfl rfl (V.mv (v := .ptr 4 0) rfl ?_)
 refine So.q rfl rfl (V.mv (v := .ptr 3 0) rfl ?_)
 refine So.q rfl rfl (V.ncPtr rfl ?_)
 refine So.q rfl rfl (V.faPtr ty63 rfl ty22 (lk rfl) rfl rfl (lk rfl) ?_)
 refine So.q rfl rfl (V.faPtr ty26 rfl ty22 (lk rfl) rfl rfl (lk rfl) ?_)
 refine So.q rfl rfl (V.faPtr ty26 rfl ty22 (lk rfl) rfl rfl (lk rfl) ?_)
 refine So.q rfl rfl (V.faPtr ty26 rfl ty22 (lk rfl) rfl rfl (lk rfl) ?_)
 refine So.n (lk rfl) (A.bsl 5 ty83 ty67 rfl (lk rfl) (lk rfl) (fun _ => rfl) rfl rfl trivial ⟨trivial, trivial, trivial, trivial, trivial⟩ rfl (N := 4) rfl (c := .cells [.ptr 3 0, .ptr 2 5, .ptr 2 6, .ptr 2 7]) rfl ?_)
 refine So.n (lk rfl) (A.call [.ptr 1 _, .own 3 _ _] [(1, ⟨_, _, _, _, .rows _⟩), (2, ⟨_, _, _, _, .rows _⟩), (4, ⟨_, _, _, _, .rows _⟩), (3, ⟨_, _, _, _, .cells [.ptr 2 0, .ptr 4 5, .ptr 4 6, .ptr 4 7]⟩)] (sg [(1, 4), (3, 5), (2, 3), (4, 2)]) 6 rfl rfl rfl rfl ⟨rfl, rfl, rfl, rfl, trivial⟩ rfl ⟨trivial, trivial, trivial, ⟨rfl, rfl, rfl, rfl, trivial⟩, trivial⟩ ⟨rfl, rfl, trivial⟩ trivial rfl (b, 0, 0, fun _ => .v (.int .i64 0), fun j => ([.bs [], .v (.int .i64 0), .v (.int .i64 0), .v (.int .i64 0), .bs [], .v undef, .v undef, .v undef] : List PV).getD j (.v undef)) ⟨.refl _, .refl _, trivial⟩ ⟨⟨_, rfl, .inl rfl, trivial⟩, ⟨_, rfl, .inl rfl, trivial⟩, ⟨_, rfl, .inl rfl, trivial⟩, ⟨_, rfl, .inl rfl, ⟨rfl, rfl, rfl, rfl, trivial⟩⟩, trivial⟩ (by trivial) (Φ := fun _ => True) (fun _ _ => trivial) ⟨⟨_, _, rfl, rfl, rfl, Nat.le_refl _⟩, ⟨_, _, rfl, rfl, rfl, Nat.le_refl _⟩, ⟨_, _, rfl, rfl, rfl, Nat.le_refl _⟩, trivial⟩ (.inl rfl) rfl (v := .tup 0 _) rfl (O' := (4, ⟨_, _, _, _, .rows _⟩) :: (3, ⟨_, _, _, _, .rows _⟩) :: (2, ⟨_, _, _, _, .rows _⟩) :: _) rfl (fun h1 => ?_))
 refine So.e ?_
 show HT _ _ _ _ _
 refine HT.seq ?_
 refine HT.seq ?_
 refine R.tell [] [(2, ⟨26, 1, 8, true, .rows (fun j => ([.bs [], .v (.int .i64 0), .v (.int .i64 0), .v (.int .i64 0), .bs [], .bs ((rd2 b 0 0).1), .bs ((rd3 b 0 0).1), .bs ((rd4 b 0 0).1)] : List PV).getD j (.v undef))⟩), (3, ⟨63, 1, 3, true, .rows (fun j => ([.bs ((rdT b 0 0).1), .v (.int .i64 0), .v (.int .i64 0)] : List PV).getD j (.v undef))⟩), (4, ⟨63, 1, 3, true, .rows (fun j => ([.bs b, .v (.int .i64 (rd4 b 0 0).2.1), .v (.int .i64 (rd4 b 0 0).2.2)] : List PV).getD j (.v undef))⟩)] [2, 3, 4, 5, 6] [1] (fr0 := [(2, .ptr 1 0), (3, .p (.v (.int .i64 _))), (4, .ptr 2 0), (5, .ptr 3 0), (6, .ptr 4 0)]) (O0 := [(1, ⟨_, _, _, _, .rows _⟩)]) rfl rfl ⟨⟨⟨.refl _, rfl⟩, ⟨.refl _, trivial⟩, ⟨.refl _, rfl⟩, ⟨.refl _, rfl⟩, ⟨.refl _, rfl⟩, trivial⟩, ⟨⟨_, rfl, .inr (ob_rowsL (by intro j hj; match j, hj with | 0, _ => exact .refl _ | 1, _ => exact .refl _ | 2, _ => exact .refl _ | 3, _ => exact .refl _ | 4, _ => exact .refl _ | 5, _ => exact .refl _ | 6, _ => exact .refl _ | 7, _ => exact .refl _)), trivial⟩, ⟨_, rfl, .inr (ob_rowsL (by intro j hj; match j, hj with | 0, _ => exact .refl _ | 1, _ => exact .refl _ | 2, _ => exact .refl _)), trivial⟩, ⟨_, rfl, .inr (ob_rowsL (by intro j hj; match j, hj with | 0, _ => exact .refl _ | 1, _ => exact .refl _ | 2, _ => exact .refl _)), trivial⟩, ⟨_, rfl, .inl rfl, trivial⟩, trivial⟩⟩ ?_
 show HT _ _ _ _ _
 refine HT.region S_fget_ok ?_
 refine So.q rfl rfl (V.mv (v := .ptr 4 0) rfl ?_)
 refine So.q rfl rfl (V.ncPtr rfl ?_)
 refine So.q rfl rfl (V.faPtr ty63 rfl ty29 (lk rfl) rfl rfl (lk rfl) ?_)
 refine So.q rfl rfl (V.ldPtr ty29 rfl rfl rfl (lk rfl) (v := .p (.v (.int .i64 _))) rfl ?_)
 refine So.q rfl rfl (V.bin (a := (.v (.int .i64 _))) (b := (.v (.int .i64 (0)))) (r := .v (.bool _)) rfl rfl rfl trivial ?_)
 refine So.e ?_
 show HT _ _ _ _ _
 refine R.cond rfl rfl (fun h2 => ?_) (fun h2 => ?_)
 ·have h2 := of_decide_eq_false (bnT h2)
  refine HT.seq ?_
  refine HT.planS S_fget_ok S_fget_det mixed [1, 2, 3, 4, 6] [⟨[1, 2, 3, 4], 0, [1, 2, 3, 4]⟩, ⟨[1, 2, 3, 4], 5, [1, 2, 3, 4]⟩] (by kernel_rfl) ?_
  have hg : gmE b = (rd4 b 0 0).2.2 := gmE_1 (by assumption)
  have hg0 : ¬ gmE b = 0 := by rw [hg]; assumption
  refine Pl.lk ?_
  refine Si.n rfl (lk rfl) (V.mv (v := .ptr 4 0) rfl ?_)
  refine Si.n rfl (lk rfl) (V.ncPtr rfl ?_)
  refine Si.n rfl (lk rfl) (V.faPtr ty63 rfl ty29 (lk rfl) rfl rfl (lk rfl) ?_)
  refine Si.n rfl (lk rfl) (V.ldPtr ty29 rfl rfl rfl (lk rfl) (v := .p (.v (.int .i64 _))) rfl ?_)
  refine Si.e ?_
  refine ⟨flEq_nil, fun ff => ?_⟩
  refine Lo.n rfl (lk rfl) (A.bldS ty26 rfl rfl trivial rfl (f := fun j => ([.v (.slice none 0 0), .v (.int .i64 0), .v (.int .i64 0), .v (.int .i64 0), .v (.slice none 0 0), .v (.slice none 0 0), .v (.slice none 0 0), .v (.slice none 0 0)] : List PV).getD j (.v undef)) (by exact allP_spec (P := fun j => _ = _) ⟨⟨⟨⟨⟨⟨⟨⟨trivial, rfl⟩, rfl⟩, rfl⟩, rfl⟩, rfl⟩, rfl⟩, rfl⟩, rfl⟩) ?_)
  refine ⟨_, fun ff => ff, ap0d, rfl, FG.id, ?_⟩
  show planA _ _ _ _ _ [(1, .ptr 4 0), (2, .ptr 4 0), (3, .ptr 4 2), (4, .p (.v (.int .i64 _)))] _ _ _
  refine Pl.lk ?_
  refine Si.n rfl (lk rfl) (V.mv (v := .ptr 4 0) rfl ?_)
  refine Si.n rfl (lk rfl) (V.ncPtr rfl ?_)
  refine Si.n rfl (lk rfl) (V.faPtr ty63 rfl ty29 (lk rfl) rfl rfl (lk rfl) ?_)
  refine Si.n rfl (lk rfl) (V.ldPtr ty29 rfl rfl rfl (lk rfl) (v := .p (.v (.int .i64 _))) rfl ?_)
  refine Si.e ?_
  refine ⟨(flEq_cons rfl (flEq_cons rfl (flEq_cons rfl (flEq_cons rfl flEq_nil)))), fun ff => ?_⟩
  refine Lo.s rfl (A.stoAg ty26 rfl (n := 8) rfl (by decide) (by intro j hj; first | rfl | trivial | (match j, hj with | 0, _ => (first | trivial | rfl) | 1, _ => (first | trivial | rfl) | 2, _ => (first | trivial | rfl) | 3, _ => (first | trivial | rfl) | 4, _ => (first | trivial | rfl) | 5, _ => (first | trivial | rfl) | 6, _ => (first | trivial | rfl) | 7, _ => (first | trivial | rfl))) rfl rfl rfl ?_)
  refine ⟨_, fun ff => ff, ap0, rfl, FG.id, ?_⟩
  show planA _ _ _ _ _ [(1, .ptr 4 0), (2, .ptr 4 0), (3, .ptr 4 2), (4, .p (.v (.int .i64 _)))] _ _ _
  refine Pl.e ?_
  refine Si.n rfl (lk rfl) (V.mv (v := .ptr 4 0) rfl ?_)
  refine Si.n rfl (lk rfl) (V.ncPtr rfl ?_)
  refine Si.n rfl (lk rfl) (V.faPtr ty63 rfl ty29 (lk rfl) rfl rfl (lk rfl) ?_)
  refine Si.n rfl (lk rfl) (V.ldPtr ty29 rfl rfl rfl (lk rfl) (v := .p (.v (.int .i64 _))) rfl ?_)
  refine Si.n rfl (lk rfl) (V.as (v := .p (.v (.int .i64 _))) rfl ?_)
  refine Si.e ?_
  refine ⟨(flEq_cons rfl (flEq_cons rfl (flEq_cons rfl (flEq_cons rfl flEq_nil)))), ?_⟩
  show HT _ _ _ _ _
  refine HT.ret ?_
  exact retC_ok (sg []) [(2, .ptr 1 0), (3, .p (.v (.int .i64 ((gmE b)))))] [(1, ⟨26, 1, 8, true, .rows (fun j => ([.bs (gmG b), .v (.int .i64 (gmP b)), .v (.int .i64 (gmF b)), .v (.int .i64 (gmK b)), .bs (gmB b), .bs (gmS b), .bs (gmC b), .bs (gmM b)] : List PV).getD j (.v undef))⟩)] h ⟨⟨⟨.refl _, rfl⟩, ⟨le_int (by first | with_reducible rfl | exact hg.symm | exact hg0.symm | (rw [gmE_3 (by assumption) hgI]; rfl) | (rw [gmE_2 (by assumption) (by unfold gmI; assumption)]; rfl)), trivial⟩, trivial⟩, ⟨⟨_, rfl, .inr (ob_rowsL (by intro j hj; match j, hj with | 0, _ => (first | exact gm_0 (b := b) hg0 0 (by decide) | exact gm_1 (b := b) hg0 0 (by decide)) | 1, _ => (first | exact gm_0 (b := b) hg0 1 (by decide) | exact gm_1 (b := b) hg0 1 (by decide)) | 2, _ => (first | exact gm_0 (b := b) hg0 2 (by decide) | exact gm_1 (b := b) hg0 2 (by decide)) | 3, _ => (first | exact gm_0 (b := b) hg0 3 (by decide) | exact gm_1 (b := b) hg0 3 (by decide)) | 4, _ => (first | exact gm_0 (b := b) hg0 4 (by decide) | exact gm_1 (b := b) hg0 4 (by decide)) | 5, _ => (first | exact gm_0 (b := b) hg0 5 (by decide) | exact gm_1 (b := b) hg0 5 (by decide)) | 6, _ => (first | exact gm_0 (b := b) hg0 6 (by decide) | exact gm_1 (b := b) hg0 6 (by decide)) | 7, _ => (first | exact gm_0 (b := b) hg0 7 (by decide) | exact gm_1 (b := b) hg0 7 (by decide)))), trivial⟩, trivial⟩⟩ ⟨rvA_cell ty26 rfl rfl rfl rfl (Nat.le_refl _) (le_agg (fun j _ => by first | rfl | (dsimp only; rw [Nat.zero_add]))), .refl _, trivial⟩ trivial rfl trivial ⟨trivial, trivial, trivial⟩ rfl
 ·have h2 := of_decide_eq_true (bnF h2)
  refine HT.skip ?_
  show HT _ _ _ _ _
  refine HT.seq ?_
  refine HT.region S_fget_ok ?_
  refine So.q rfl rfl (V.mv (v := .ptr 3 0) rfl ?_)
  refine So.n (lk rfl) (A.call [.ptr 1 _] [(1, ⟨_, _, _, _, .rows _⟩)] (sg [(1, 3)]) 5 rfl rfl rfl rfl ⟨rfl, trivial⟩ rfl ⟨trivial, trivial⟩ ⟨rfl, trivial⟩ trivial rfl ((rdT b 0 0).1, 0, 0) ⟨.refl _, trivial⟩ ⟨⟨_, rfl, .inl rfl, trivial⟩, trivial⟩ (by trivial) (Φ := fun _ => True) (fun _ _ => trivial) ⟨⟨_, _, rfl, rfl, rfl, Nat.le_refl _⟩, trivial⟩ (.inl rfl) rfl (v := .agg 3 _) rfl (O' := (3, ⟨_, _, _, _, .rows _⟩) :: _) rfl (fun h3 => ?_))
  refine So.n (lk rfl) (A.alloc 5 1 ty57 rfl trivial (f := fun j => ([.v (.slice none 0 0), .v (.int .i64 0), .v (.int .i64 0)] : List PV).getD j (.v undef)) (fun j hj => by match j, hj with | 0, _ => rfl | 1, _ => rfl | 2, _ => rfl) ?_)
  refine So.s (A.stoAg ty57 rfl (n := 3) rfl (by decide) (by intro j hj; first | rfl | trivial | (match j, hj with | 0, _ => (first | trivial | rfl) | 1, _ => (first | trivial | rfl) | 2, _ => (first | trivial | rfl))) rfl rfl rfl ?_)
  refine So.e ?_
  show HT _ _ _ _ _
  refine HT.seq ?_
  refine HT.planS S_fget_ok S_fget_det mixed [] [⟨[0, 1, 2, 3, 4, 5, 6], 7, [0, 1, 2, 3, 4, 5]⟩, ⟨[0, 1, 2, 3, 4, 5], 8, []⟩, ⟨[9], 10, []⟩] (by kernel_rfl) ?_
  refine Pl.lk ?_
  refine Si.n rfl (lk rfl) (V.faPtr ty57 rfl ty22 (lk rfl) rfl rfl (lk rfl) ?_)
  refine Si.n rfl (lk rfl) (V.ldPtr ty22 rfl rfl rfl (lk rfl) (v := .p (.bs _)) rfl ?_)
  refine Si.n rfl (lk rfl) (V.faPtr ty57 rfl ty2 (lk rfl) rfl rfl (lk rfl) ?_)
  refine Si.n rfl (lk rfl) (V.ldPtr ty2 rfl rfl rfl (lk rfl) (v := .p (.v (.int .i64 _))) rfl ?_)
  refine Si.n rfl (lk rfl) (V.faPtr ty57 rfl ty3 (lk rfl) rfl rfl (lk rfl) ?_)
  refine Si.n rfl (lk rfl) (V.ldPtr ty3 rfl rfl rfl (lk rfl) (v := .p (.v (.int .i64 _))) rfl ?_)
  refine Si.n rfl (lk rfl) (V.mv (v := .ptr 3 0) rfl ?_)
  refine Si.e ?_
  refine ⟨flEq_nil, fun ff => ?_⟩
  refine Lo.n rfl (lk rfl) (A.call [.ptr 1 _, .p (.v (.int .i64 _))] [(1, ⟨_, _, _, _, .rows _⟩)] (sg [(1, 3)]) 6 rfl rfl rfl rfl ⟨rfl, trivial⟩ rfl ⟨trivial, trivial⟩ ⟨rfl, trivial, trivial⟩ trivial rfl ((rdT b 0 0).1, (pl3 (rdT b 0 0).1 0 0).2.1, (pl3 (rdT b 0 0).1 0 0).2.2, 1) ⟨.refl _, .refl _, trivial⟩ ⟨⟨_, rfl, .inl rfl, trivial⟩, trivial⟩ (by trivial) (Φ := fun _ => True) (fun _ _ => trivial) ⟨⟨_, _, rfl, rfl, rfl, Nat.le_refl _⟩, trivial⟩ (.inl rfl) rfl (v := .p (.v (.int .i64 _))) rfl (O' := (3, ⟨_, _, _, _, .rows _⟩) :: _) rfl (fun h4 => ?_))
  refine ⟨_, fun ff => ff, ap0d, rfl, FG.id, ?_⟩
  show planA _ _ _ _ _ [(0, .ptr 5 0), (1, .p (.bs _)), (2, .ptr 5 1), (3, .p (.v (.int .i64 _))), (4, .ptr 5 2), (5, .p (.v (.int .i64 _)))] _ _ _
  refine Pl.l0 ?_
  refine Si.n rfl (lk rfl) (V.faPtr ty57 rfl ty22 (lk rfl) rfl rfl (lk rfl) ?_)
  refine Si.n rfl (lk rfl) (V.ldPtr ty22 rfl rfl rfl (lk rfl) (v := .p (.bs _)) rfl ?_)
  refine Si.n rfl (lk rfl) (V.faPtr ty57 rfl ty2 (lk rfl) rfl rfl (lk rfl) ?_)
  refine Si.n rfl (lk rfl) (V.ldPtr ty2 rfl rfl rfl (lk rfl) (v := .p (.v (.int .i64 _))) rfl ?_)
  refine Si.n rfl (lk rfl) (V.faPtr ty57 rfl ty3 (lk rfl) rfl rfl (lk rfl) ?_)
  refine Si.n rfl (lk rfl) (V.ldPtr ty3 rfl rfl rfl (lk rfl) (v := .p (.v (.int .i64 _))) rfl ?_)
  refine Si.e ?_
  refine ⟨(flEq_cons rfl (flEq_cons rfl (flEq_cons rfl (flEq_cons rfl (flEq_cons rfl (flEq_cons rfl flEq_nil)))))), ?_⟩
  refine Lo.n rfl (lk rfl) (A.bldS ty24 rfl rfl ⟨by first | exact trivial | exact rfl | (intro j hj; first | trivial | rfl | (simp [BV.one]; done)), by first | exact trivial | exact rfl | (intro j hj; first | trivial | rfl | (simp [BV.one]; done)), by first | exact trivial | exact rfl | (intro j hj; first | trivial | rfl | (simp [BV.one]; done)), by first | exact trivial | exact rfl | (intro j hj; first | trivial | rfl | (simp [BV.one]; done)), trivial⟩ rfl (f := fun j => ([.bs ((pl1 (rdT b 0 0).1 0 0).1), .v (.int .i64 ((pl2 (rdT b 0 0).1 0 0).1)), .v (.int .i64 ((pl3 (rdT b 0 0).1 0 0).1)), .v (.int .i64 ((gm4 b).1)), .v (.slice none 0 0)] : List PV).getD j (.v undef)) (by exact allP_spec (P := fun j => _ = _) ⟨⟨⟨⟨⟨trivial, rfl⟩, rfl⟩, rfl⟩, rfl⟩, rfl⟩) ?_)
  refine Pl.l0 ?_
  refine Si.n rfl (lk rfl) (V.faPtr ty26 rfl ty24 (lk rfl) rfl rfl (lk rfl) ?_)
  refine Si.e ?_
  refine ⟨flEq_nil, ?_⟩
  refine Lo.s rfl (A.stoAgP ty24 rfl (n := 5) rfl (by decide) (by intro j hj; first | rfl | trivial | (match j, hj with | 0, _ => (first | trivial | rfl) | 1, _ => (first | trivial | rfl) | 2, _ => (first | trivial | rfl) | 3, _ => (first | trivial | rfl) | 4, _ => (first | trivial | rfl))) rfl (lk rfl) rfl ?_)
  refine Pl.e ?_
  refine Si.e ?_
  refine ⟨flEq_nil, ?_⟩
  show HT _ _ _ _ _
  refine HT.seq ?_
  refine R.tell [] [(2, ⟨26, 1, 8, true, .rows (fun j => if j = 4 then .bs [] else (fun j => ([.bs ((pl1 (rdT b 0 0).1 0 0).1), .v (.int .i64 ((pl2 (rdT b 0 0).1 0 0).1)), .v (.int .i64 ((pl3 (rdT b 0 0).1 0 0).1)), .v (.int .i64 ((gm4 b).1)), .v (.int .i64 0), .bs ((rd2 b 0 0).1), .bs ((rd3 b 0 0).1), .bs ((rd4 b 0 0).1)] : List PV).getD j (.v undef)) j)⟩)] [2, 3, 4, 5, 6] [1, 3, 4] (fr0 := [(2, .ptr 1 0), (3, .p (.v (.int .i64 _))), (4, .ptr 2 0), (5, .ptr 3 0), (6, .ptr 4 0)]) (O0 := [(1, ⟨_, _, _, _, .rows _⟩), (3, ⟨_, _, _, _, .rows _⟩), (4, ⟨_, _, _, _, .rows _⟩)]) rfl rfl ⟨⟨⟨.refl _, rfl⟩, ⟨.refl _, trivial⟩, ⟨.refl _, rfl⟩, ⟨.refl _, rfl⟩, ⟨.refl _, rfl⟩, trivial⟩, ⟨⟨_, rfl, .inr (ob_rowsL (by intro j hj; match j, hj with | 0, _ => exact .refl _ | 1, _ => exact .refl _ | 2, _ => exact .refl _ | 3, _ => exact .refl _ | 4, _ => exact le_nil rfl | 5, _ => exact .refl _ | 6, _ => exact .refl _ | 7, _ => exact .refl _)), trivial⟩, ⟨_, rfl, .inl rfl, trivial⟩, ⟨_, rfl, .inl rfl, trivial⟩, ⟨_, rfl, .inl rfl, trivial⟩, trivial⟩⟩ ?_
  show HT _ _ _ _ _
  refine HT.region S_fget_1_ok ?_
  refine So.q rfl rfl (V.mv (v := .ptr 3 0) rfl ?_)
  refine So.q rfl rfl (V.faPtr ty26 rfl ty24 (lk rfl) rfl rfl (lk rfl) ?_)
  refine So.q rfl rfl (V.faPtr ty24 rfl ty22 (lk rfl) rfl rfl (lk rfl) ?_)
  refine So.n (lk rfl) (A.bsl 5 ty83 ty67 rfl (lk rfl) (lk rfl) (fun _ => rfl) rfl rfl trivial ⟨trivial, trivial⟩ rfl (N := 1) rfl (c := .cells [.ptr 2 4]) rfl ?_)
  refine So.n (lk rfl) (A.call [.ptr 1 _, .own 3 _ _] [(1, ⟨_, _, _, _, .rows _⟩), (2, ⟨_, _, _, _, .rows _⟩), (3, ⟨_, _, _, _, .cells [.ptr 2 4]⟩)] (sg [(1, 3), (3, 5), (2, 2)]) 6 rfl rfl rfl rfl ⟨rfl, rfl, rfl, trivial⟩ rfl ⟨trivial, trivial, ⟨rfl, trivial⟩, trivial⟩ ⟨rfl, rfl, trivial⟩ trivial rfl ((rdT b 0 0).1, (gm4 b).2.1, (gm4 b).2.2, fun j => ([.bs ((pl1 (rdT b 0 0).1 0 0).1), .v (.int .i64 ((pl2 (rdT b 0 0).1 0 0).1)), .v (.int .i64 ((pl3 (rdT b 0 0).1 0 0).1)), .v (.int .i64 ((gm4 b).1)), .v (.int .i64 0), .bs ((rd2 b 0 0).1), .bs ((rd3 b 0 0).1), .bs ((rd4 b 0 0).1)] : List PV).getD j (.v undef)) ⟨.refl _, .refl _, trivial⟩ ⟨⟨_, rfl, .inl rfl, trivial⟩, ⟨_, rfl, .inl rfl, trivial⟩, ⟨_, rfl, .inl rfl, ⟨rfl, trivial⟩⟩, trivial⟩ (by trivial) (Φ := fun _ => True) (fun _ _ => trivial) ⟨⟨_, _, rfl, rfl, rfl, Nat.le_refl _⟩, ⟨_, _, rfl, rfl, rfl, Nat.le_refl _⟩, trivial⟩ (.inl rfl) rfl (v := .tup 0 _) rfl (O' := (3, ⟨_, _, _, _, .rows _⟩) :: (2, ⟨_, _, _, _, .rows _⟩) :: _) rfl (fun h5 => ?_))
  refine So.e ?_
  show HT _ _ _ _ _
  refine HT.seq ?_
  refine R.tell [] [(2, ⟨26, 1, 8, true, .rows (fun j => ([.bs ((pl1 (rdT b 0 0).1 0 0).1), .v (.int .i64 ((pl2 (rdT b 0 0).1 0 0).1)), .v (.int .i64 ((pl3 (rdT b 0 0).1 0 0).1)), .v (.int .i64 ((gm4 b).1)), .bs ((gm5 b).1), .bs ((rd2 b 0 0).1), .bs ((rd3 b 0 0).1), .bs ((rd4 b 0 0).1)] : List PV).getD j (.v undef))⟩)] [2, 3, 4, 5, 6] [1, 3, 4] (fr0 := [(2, .ptr 1 0), (3, .p (.v (.int .i64 _))), (4, .ptr 2 0), (5, .ptr 3 0), (6, .ptr 4 0)]) (O0 := [(1, ⟨_, _, _, _, .rows _⟩), (3, ⟨_, _, _, _, .rows _⟩), (4, ⟨_, _, _, _, .rows _⟩)]) rfl rfl ⟨⟨⟨.refl _, rfl⟩, ⟨.refl _, trivial⟩, ⟨.refl _, rfl⟩, ⟨.refl _, rfl⟩, ⟨.refl _, rfl⟩, trivial⟩, ⟨⟨_, rfl, .inr (ob_rowsL (by intro j hj; match j, hj with | 0, _ => exact .refl _ | 1, _ => exact .refl _ | 2, _ => exact .refl _ | 3, _ => exact .refl _ | 4, _ => exact .refl _ | 5, _ => exact .refl _ | 6, _ => exact .refl _ | 7, _ => exact .refl _)), trivial⟩, ⟨_, rfl, .inl rfl, trivial⟩, ⟨_, rfl, .inl rfl, trivial⟩, ⟨_, rfl, .inl rfl, trivial⟩, trivial⟩⟩ ?_
  show HT _ _ _ _ _
  refine HT.region S_fget_ok ?_
  refine So.q rfl rfl (V.mv (v := .ptr 3 0) rfl ?_)
  refine So.n (lk rfl) (A.call [.ptr 1 _, .p (.v (.bool true))] [(1, ⟨_, _, _, _, .rows _⟩)] (sg [(1, 3)]) 5 rfl rfl rfl rfl ⟨rfl, trivial⟩ rfl ⟨trivial, trivial⟩ ⟨rfl, trivial, trivial⟩ trivial rfl ((rdT b 0 0).1, (gm5 b).2.1, (gm5 b).2.2, _) ⟨.refl _, .refl _, trivial⟩ ⟨⟨_, rfl, .inl rfl, trivial⟩, trivial⟩ (by trivial) (Φ := fun _ => True) (fun _ _ => trivial) ⟨⟨_, _, rfl, rfl, rfl, Nat.le_refl _⟩, trivial⟩ (.inl rfl) rfl (v := .p (.v (.int .i64 _))) rfl (O' := (3, ⟨_, _, _, _, .rows _⟩) :: _) rfl (fun h6 => ?_))
  refine So.q rfl rfl (V.as (v := .p (.v (.int .i64 _))) rfl ?_)
  refine So.e ?_
  show HT _ _ _ _ _
  refine HT.seq ?_
  refine HT.seq ?_
  refine HT.region S_fget_ok ?_
  refine So.q rfl rfl (V.mv (v := .p (.v (.int .i64 _))) rfl ?_)
  refine So.q rfl rfl (V.bin (a := (.v (.int .i64 _))) (b := (.v (.int .i64 (0)))) (r := .v (.bool _)) rfl rfl rfl trivial ?_)
  refine So.e ?_
  show HT _ _ _ _ _
  refine R.cond rfl rfl (fun h7 => ?_) (fun h7 => ?_)
  ·have h7 := of_decide_eq_true h7
   refine HT.region S_fget_ok ?_
   have hgI : gmI b = 0 := by unfold gmI; assumption
   refine So.q rfl rfl (V.mv (v := .ptr 4 0) rfl ?_)
   refine So.q rfl rfl (V.ldPtrA ty26 rfl rfl rfl rfl (lk rfl) ?_)
   refine So.n (lk rfl) (A.call0 [.agg 8 _] 5 rfl rfl rfl rfl ⟨trivial, trivial⟩ trivial ((pl1 (rdT b 0 0).1 0 0).1, ((pl2 (rdT b 0 0).1 0 0).1), ((pl3 (rdT b 0 0).1 0 0).1), ((gm4 b).1), (gm5 b).1, (rd2 b 0 0).1, (rd3 b 0 0).1, (rd4 b 0 0).1) ⟨le_agg (fun j hj => by match j, hj with | 0, _ => rfl | 1, _ => rfl | 2, _ => rfl | 3, _ => rfl | 4, _ => rfl | 5, _ => rfl | 6, _ => rfl | 7, _ => rfl), trivial⟩ trivial (by trivial) (Φ := fun _ => True) (fun _ _ => trivial) (.inl rfl) (v := .p (.v (.bool _))) rfl (O' := _) rfl (fun h8 => ?_))
   refine So.n (lk rfl) (A.call [.ptr 1 _, .p (.v (.bool _))] [(1, ⟨_, _, _, _, .rows _⟩)] (sg [(1, 4)]) 5 rfl rfl rfl rfl ⟨rfl, trivial⟩ rfl ⟨trivial, trivial⟩ ⟨rfl, trivial, trivial⟩ trivial rfl (b, (rd4 b 0 0).2.1, (rd4 b 0 0).2.2, _) ⟨.refl _, .refl _, trivial⟩ ⟨⟨_, rfl, .inl rfl, trivial⟩, trivial⟩ (by trivial) (Φ := fun _ => True) (fun _ _ => trivial) ⟨⟨_, _, rfl, rfl, rfl, Nat.le_refl _⟩, trivial⟩ (.inl rfl) rfl (v := .p (.v (.int .i64 _))) rfl (O' := (4, ⟨_, _, _, _, .rows _⟩) :: _) rfl (fun h9 => ?_))
   refine So.q rfl rfl (V.as (v := .p (.v (.int .i64 _))) rfl ?_)
   refine So.e ?_
   show HT _ _ _ _ _
   refine HT.seq ?_
   refine HT.seq ?_
   refine HT.region S_fget_ok ?_
   refine So.q rfl rfl (V.mv (v := .p (.v (.int .i64 _))) rfl ?_)
   refine So.q rfl rfl (V.bin (a := (.v (.int .i64 _))) (b := (.v (.int .i64 (0)))) (r := .v (.bool _)) rfl rfl rfl trivial ?_)
   refine So.e ?_
   show HT _ _ _ _ _
   refine R.cond rfl rfl (fun h10 => ?_) (fun h10 => ?_)
   ·have h10 := of_decide_eq_false (bnT h10)
    refine HT.seq ?_
    refine HT.region S_fget_ok ?_
    have hg0 : ¬ gmE b = 0 := by first | (rw [gmE_3 (by assumption) hgI]; unfold gmO; assumption) | (rw [gmE_2 (by assumption) (by unfold gmI; assumption)]; unfold gmI; assumption) | (exfalso; contradiction)
    refine So.n (lk rfl) (A.bldS ty26 rfl rfl trivial rfl (f := fun j => ([.v (.slice none 0 0), .v (.int .i64 0), .v (.int .i64 0), .v (.int .i64 0), .v (.slice none 0 0), .v (.slice none 0 0), .v (.slice none 0 0), .v (.slice none 0 0)] : List PV).getD j (.v undef)) (by exact allP_spec (P := fun j => _ = _) ⟨⟨⟨⟨⟨⟨⟨⟨trivial, rfl⟩, rfl⟩, rfl⟩, rfl⟩, rfl⟩, rfl⟩, rfl⟩, rfl⟩) ?_)
    refine So.q rfl rfl (V.mv (v := .p (.v (.int .i64 _))) rfl ?_)
    refine So.s (A.stoAg ty26 rfl (n := 8) rfl (by decide) (by intro j hj; first | rfl | trivial | (match j, hj with | 0, _ => (first | trivial | rfl) | 1, _ => (first | trivial | rfl) | 2, _ => (first | trivial | rfl) | 3, _ => (first | trivial | rfl) | 4, _ => (first | trivial | rfl) | 5, _ => (first | trivial | rfl) | 6, _ => (first | trivial | rfl) | 7, _ => (first | trivial | rfl))) rfl rfl rfl ?_)
    refine So.q rfl rfl (V.as (v := .p (.v (.int .i64 _))) rfl ?_)
    refine So.e ?_
    show HT _ _ _ _ _
    refine HT.ret ?_
    exact retC_ok (sg []) [(2, .ptr 1 0), (3, .p (.v (.int .i64 ((gmE b)))))] [(1, ⟨26, 1, 8, true, .rows (fun j => ([.bs (gmG b), .v (.int .i64 (gmP b)), .v (.int .i64 (gmF b)), .v (.int .i64 (gmK b)), .bs (gmB b), .bs (gmS b), .bs (gmC b), .bs (gmM b)] : List PV).getD j (.v undef))⟩)] h ⟨⟨⟨.refl _, rfl⟩, ⟨le_int (by first | with_reducible rfl | exact hg.symm | exact hg0.symm | (rw [gmE_3 (by assumption) hgI]; rfl) | (rw [gmE_2 (by assumption) (by unfold gmI; assumption)]; rfl)), trivial⟩, trivial⟩, ⟨⟨_, rfl, .inr (ob_rowsL (by intro j hj; match j, hj with | 0, _ => (first | exact gm_0 (b := b) hg0 0 (by decide) | exact gm_1 (b := b) hg0 0 (by decide)) | 1, _ => (first | exact gm_0 (b := b) hg0 1 (by decide) | exact gm_1 (b := b) hg0 1 (by decide)) | 2, _ => (first | exact gm_0 (b := b) hg0 2 (by decide) | exact gm_1 (b := b) hg0 2 (by decide)) | 3, _ => (first | exact gm_0 (b := b) hg0 3 (by decide) | exact gm_1 (b := b) hg0 3 (by decide)) | 4, _ => (first | exact gm_0 (b := b) hg0 4 (by decide) | exact gm_1 (b := b) hg0 4 (by decide)) | 5, _ => (first | exact gm_0 (b := b) hg0 5 (by decide) | exact gm_1 (b := b) hg0 5 (by decide)) | 6, _ => (first | exact gm_0 (b := b) hg0 6 (by decide) | exact gm_1 (b := b) hg0 6 (by decide)) | 7, _ => (first | exact gm_0 (b := b) hg0 7 (by decide) | exact gm_1 (b := b) hg0 7 (by decide)))), trivial⟩, trivial⟩⟩ ⟨rvA_cell ty26 rfl rfl rfl rfl (Nat.le_refl _) (le_agg (fun j _ => by first | rfl | (dsimp only; rw [Nat.zero_add]))), .refl _, trivial⟩ trivial rfl trivial ⟨trivial, trivial, trivial⟩ rfl
   ·have h10 := of_decide_eq_true (bnF h10)
    refine HT.skip ?_
    show HT _ _ _ _ _
    refine HT.seq ?_
    refine HT.region S_fget_ok ?_
    have hg0 : gmE b = 0 := by first | (rw [gmE_3 (by assumption) hgI]; unfold gmO; assumption) | (exfalso; contradiction)
    refine So.q rfl rfl (V.ldPtrA ty26 rfl rfl rfl rfl (lk rfl) ?_)
    refine So.s (A.stoAg ty26 rfl (n := 8) rfl (by decide) (by intro j hj; first | rfl | trivial | (match j, hj with | 0, _ => (first | trivial | rfl) | 1, _ => (first | trivial | rfl) | 2, _ => (first | trivial | rfl) | 3, _ => (first | trivial | rfl) | 4, _ => (first | trivial | rfl) | 5, _ => (first | trivial | rfl) | 6, _ => (first | trivial | rfl) | 7, _ => (first | trivial | rfl))) rfl rfl rfl ?_)
    refine So.q rfl rfl (V.as (v := .p (.v (.int .i64 (0)))) rfl ?_)
    refine So.e ?_
    show HT _ _ _ _ _
    refine HT.ret ?_
    exact retC_ok (sg []) [(2, .ptr 1 0), (3, .p (.v (.int .i64 ((gmE b)))))] [(1, ⟨26, 1, 8, true, .rows (fun j => ([.bs (gmG b), .v (.int .i64 (gmP b)), .v (.int .i64 (gmF b)), .v (.int .i64 (gmK b)), .bs (gmB b), .bs (gmS b), .bs (gmC b), .bs (gmM b)] : List PV).getD j (.v undef))⟩)] h ⟨⟨⟨.refl _, rfl⟩, ⟨le_int (by first | with_reducible rfl | exact hg.symm | exact hg0.symm | (rw [gmE_3 (by assumption) hgI]; rfl) | (rw [gmE_2 (by assumption) (by unfold gmI; assumption)]; rfl)), trivial⟩, trivial⟩, ⟨⟨_, rfl, .inr (ob_rowsL (by intro j hj; match j, hj with | 0, _ => (first | exact gm_0 (b := b) hg0 0 (by decide) | exact gm_1 (b := b) hg0 0 (by decide)) | 1, _ => (first | exact gm_0 (b := b) hg0 1 (by decide) | exact gm_1 (b := b) hg0 1 (by decide)) | 2, _ => (first | exact gm_0 (b := b) hg0 2 (by decide) | exact gm_1 (b := b) hg0 2 (by decide)) | 3, _ => (first | exact gm_0 (b := b) hg0 3 (by decide) | exact gm_1 (b := b) hg0 3 (by decide)) | 4, _ => (first | exact gm_0 (b := b) hg0 4 (by decide) | exact gm_1 (b := b) hg0 4 (by decide)) | 5, _ => (first | exact gm_0 (b := b) hg0 5 (by decide) | exact gm_1 (b := b) hg0 5 (by decide)) | 6, _ => (first | exact gm_0 (b := b) hg0 6 (by decide) | exact gm_1 (b := b) hg0 6 (by decide)) | 7, _ => (first | exact gm_0 (b := b) hg0 7 (by decide) | exact gm_1 (b := b) hg0 7 (by decide)))), trivial⟩, trivial⟩⟩ ⟨rvA_cell ty26 rfl rfl rfl rfl (Nat.le_refl _) (le_agg (fun j _ => by first | rfl | (dsimp only; rw [Nat.zero_add]))), .refl _, trivial⟩ trivial rfl trivial ⟨trivial, trivial, trivial⟩ rfl
  ·have h7 := of_decide_eq_false h7
   refine HT.skip ?_
   show HT _ _ _ _ _
   refine HT.seq ?_
   refine HT.seq ?_
   refine HT.region S_fget_ok ?_
   refine So.q rfl rfl (V.mv (v := .p (.v (.int .i64 _))) rfl ?_)
   refine So.q rfl rfl (V.bin (a := (.v (.int .i64 _))) (b := (.v (.int .i64 (0)))) (r := .v (.bool _)) rfl rfl rfl trivial ?_)
   refine So.e ?_
   show HT _ _ _ _ _
   refine R.cond rfl rfl (fun h11 => ?_) (fun h11 => ?_)
   ·have h11 := of_decide_eq_false (bnT h11)
    refine HT.seq ?_
    refine HT.region S_fget_ok ?_
    have hg0 : ¬ gmE b = 0 := by first | (rw [gmE_3 (by assumption) hgI]; unfold gmO; assumption) | (rw [gmE_2 (by assumption) (by unfold gmI; assumption)]; unfold gmI; assumption) | (exfalso; contradiction)
    refine So.n (lk rfl) (A.bldS ty26 rfl rfl trivial rfl (f := fun j => ([.v (.slice none 0 0), .v (.int .i64 0), .v (.int .i64 0), .v (.int .i64 0), .v (.slice none 0 0), .v (.slice none 0 0), .v (.slice none 0 0), .v (.slice none 0 0)] : List PV).getD j (.v undef)) (by exact allP_spec (P := fun j => _ = _) ⟨⟨⟨⟨⟨⟨⟨⟨trivial, rfl⟩, rfl⟩, rfl⟩, rfl⟩, rfl⟩, rfl⟩, rfl⟩, rfl⟩) ?_)
    refine So.q rfl rfl (V.mv (v := .p (.v (.int .i64 _))) rfl ?_)
    refine So.s (A.stoAg ty26 rfl (n := 8) rfl (by decide) (by intro j hj; first | rfl | trivial | (match j, hj with | 0, _ => (first | trivial | rfl) | 1, _ => (first | trivial | rfl) | 2, _ => (first | trivial | rfl) | 3, _ => (first | trivial | rfl) | 4, _ => (first | trivial | rfl) | 5, _ => (first | trivial | rfl) | 6, _ => (first | trivial | rfl) | 7, _ => (first | trivial | rfl))) rfl rfl rfl ?_)
    refine So.q rfl rfl (V.as (v := .p (.v (.int .i64 _))) rfl ?_)
    refine So.e ?_
    show HT _ _ _ _ _
    refine HT.ret ?_
    exact retC_ok (sg []) [(2, .ptr 1 0), (3, .p (.v (.int .i64 ((gmE b)))))] [(1, ⟨26, 1, 8, true, .rows (fun j => ([.bs (gmG b), .v (.int .i64 (gmP b)), .v (.int .i64 (gmF b)), .v (.int .i64 (gmK b)), .bs (gmB b), .bs (gmS b), .bs (gmC b), .bs (gmM b)] : List PV).getD j (.v undef))⟩)] h ⟨⟨⟨.refl _, rfl⟩, ⟨le_int (by first | with_reducible rfl | exact hg.symm | exact hg0.symm | (rw [gmE_3 (by assumption) hgI]; rfl) | (rw [gmE_2 (by assumption) (by unfold gmI; assumption)]; rfl)), trivial⟩, trivial⟩, ⟨⟨_, rfl, .inr (ob_rowsL (by intro j hj; match j, hj with | 0, _ => (first | exact gm_0 (b := b) hg0 0 (by decide) | exact gm_1 (b := b) hg0 0 (by decide)) | 1, _ => (first | exact gm_0 (b := b) hg0 1 (by decide) | exact gm_1 (b := b) hg0 1 (by decide)) | 2, _ => (first | exact gm_0 (b := b) hg0 2 (by decide) | exact gm_1 (b := b) hg0 2 (by decide)) | 3, _ => (first | exact gm_0 (b := b) hg0 3 (by decide) | exact gm_1 (b := b) hg0 3 (by decide)) | 4, _ => (first | exact gm_0 (b := b) hg0 4 (by decide) | exact gm_1 (b := b) hg0 4 (by decide)) | 5, _ => (first | exact gm_0 (b := b) hg0 5 (by decide) | exact gm_1 (b := b) hg0 5 (by decide)) | 6, _ => (first | exact gm_0 (b := b) hg0 6 (by decide) | exact gm_1 (b := b) hg0 6 (by decide)) | 7, _ => (first | exact gm_0 (b := b) hg0 7 (by decide) | exact gm_1 (b := b) hg0 7 (by decide)))), trivial⟩, trivial⟩⟩ ⟨rvA_cell ty26 rfl rfl rfl rfl (Nat.le_refl _) (le_agg (fun j _ => by first | rfl | (dsimp only; rw [Nat.zero_add]))), .refl _, trivial⟩ trivial rfl trivial ⟨trivial, trivial, trivial⟩ rfl
   ·have h11 := of_decide_eq_true (bnF h11)
    refine HT.skip ?_
    show HT _ _ _ _ _
    refine HT.seq ?_
    refine HT.region S_fget_ok ?_
    have hg0 : gmE b = 0 := by first | (rw [gmE_3 (by assumption) hgI]; unfold gmO; assumption) | (exfalso; contradiction)
    refine So.q rfl rfl (V.ldPtrA ty26 rfl rfl rfl rfl (lk rfl) ?_)
    refine So.s (A.stoAg ty26 rfl (n := 8) rfl (by decide) (by intro j hj; first | rfl | trivial | (match j, hj with | 0, _ => (first | trivial | rfl) | 1, _ => (first | trivial | rfl) | 2, _ => (first | trivial | rfl) | 3, _ => (first | trivial | rfl) | 4, _ => (first | trivial | rfl) | 5, _ => (first | trivial | rfl) | 6, _ => (first | trivial | rfl) | 7, _ => (first | trivial | rfl))) rfl rfl rfl ?_)
    refine So.q rfl rfl (V.as (v := .p (.v (.int .i64 (0)))) rfl ?_)
    refine So.e ?_
    show HT _ _ _ _ _
    refine HT.ret ?_
    exact retC_ok (sg []) [(2, .ptr 1 0), (3, .p (.v (.int .i64 ((gmE b)))))] [(1, ⟨26, 1, 8, true, .rows (fun j => ([.bs (gmG b), .v (.int .i64 (gmP b)), .v (.int .i64 (gmF b)), .v (.int .i64 (gmK b)), .bs (gmB b), .bs (gmS b), .bs (gmC b), .bs (gmM b)] : List PV).getD j (.v undef))⟩)] h ⟨⟨⟨.refl _, rfl⟩, ⟨le_int (by first | with_reducible rfl | exact hg.symm | exact hg0.symm | (rw [gmE_3 (by assumption) hgI]; rfl) | (rw [gmE_2 (by assumption) (by unfold gmI; assumption)]; rfl)), trivial⟩, trivial⟩, ⟨⟨_, rfl, .inr (ob_rowsL (by intro j hj; match j, hj with | 0, _ => (first | exact gm_0 (b := b) hg0 0 (by decide) | exact gm_1 (b := b) hg0 0 (by decide)) | 1, _ => (first | exact gm_0 (b := b) hg0 1 (by decide) | exact gm_1 (b := b) hg0 1 (by decide)) | 2, _ => (first | exact gm_0 (b := b) hg0 2 (by decide) | exact gm_1 (b := b) hg0 2 (by decide)) | 3, _ => (first | exact gm_0 (b := b) hg0 3 (by decide) | exact gm_1 (b := b) hg0 3 (by decide)) | 4, _ => (first | exact gm_0 (b := b) hg0 4 (by decide) | exact gm_1 (b := b) hg0 4 (by decide)) | 5, _ => (first | exact gm_0 (b := b) hg0 5 (by decide) | exact gm_1 (b := b) hg0 5 (by decide)) | 6, _ => (first | exact gm_0 (b := b) hg0 6 (by decide) | exact gm_1 (b := b) hg0 6 (by decide)) | 7, _ => (first | exact gm_0 (b := b) hg0 7 (by decide) | exact gm_1 (b := b) hg0 7 (by decide)))), trivial⟩, trivial⟩⟩ ⟨rvA_cell ty26 rfl rfl rfl rfl (Nat.le_refl _) (le_agg (fun j _ => by first | rfl | (dsimp only; rw [Nat.zero_add]))), .refl _, trivial⟩ trivial rfl trivial ⟨trivial, trivial, trivial⟩ rfl
end Go.Vh

set_option linter.unusedVariables false
set_option linter.unusedSimpArgs false
namespace Go.Vh
open Go Go.Vc Go.Proofs Go.Vw
def headSp : Sp := ⟨[], mkE (α := Unit) (fun _ => []) (fun _ => []) (fun _ => True) (fun _ => [.p (.v (.bool true))]) (fun _ => [])⟩
def S_head : FuncId → Option Sp := fun f => if f = 23 then some fbytesSp else if f = 20 then some fgetSp else if f = 13 then some fputsSp else if f = 12 then some frightSp else none
theorem S_head_ok : ∀ f s, S_head f = some s → FOK Tryd.prog gl f s := fun f s h => by
 unfold S_head at h
 split at h
 ·rename_i e; cases h; subst e; exact fbytes_ok
 split at h
 ·rename_i e; cases h; subst e; exact fget_ok
 split at h
 ·rename_i e; cases h; subst e; exact fputs_ok
 split at h
 ·rename_i e; cases h; subst e; exact fright_ok
 cases h
set_option maxHeartbeats 1000000 in
set_option maxRecDepth 20000 in
theorem head_ok : FOK Tryd.prog gl 8 headSp := by
 refine FOK.ofE (tyOf_ok Tryd.prog) (slots := [0]) (nt := 56) Tryd.func8 rfl rfl rfl rfl (by decide) 0 (fun _ => rfl) (by decide) (fun _ => trivial) ?_
 rintro _ kk hlen hpre h
 replace hpre : True := hpre
 show HT (cx Tryd.prog 56 (tyOf Tryd.prog) gl []) _ [] [] _
 refine HT.seq ?_
 refine HT.region S_head_ok ?_
 refine So.q rfl rfl (V.as (v := .p (.v (.bool false))) rfl ?_)
 refine So.e ?_
 show HT _ _ _ _ _
 refine HT.seq ?_
 refine HT.region S_head_ok ?_
 refine So.n (lk rfl) (A.bsl 1 ty22 ty5 rfl (lk rfl) (lk rfl) (fun _ => rfl) rfl rfl trivial ⟨trivial, trivial⟩ rfl (N := 1) rfl (c := .bs [_]) rfl ?_)
 refine So.n (lk rfl) (A.cvM ty22 ty5 rfl (by first | rfl | omega | (simp; done) | (simp; omega)) rfl rfl ?_)
 refine So.n (lk rfl) (A.bldS ty24 rfl rfl ⟨by first | exact trivial | exact rfl | (intro j hj; first | trivial | rfl | (simp [BV.one]; done)), by first | exact trivial | exact rfl | (intro j hj; first | trivial | rfl | (simp [BV.one]; done)), trivial⟩ rfl (f := fun j => ([.bs [103], .v (.int .i64 0), .v (.int .i64 0), .v (.int .i64 5), .v (.slice none 0 0)] : List PV).getD j (.v undef)) (by exact allP_spec (P := fun j => _ = _) ⟨⟨⟨⟨⟨trivial, rfl⟩, rfl⟩, rfl⟩, rfl⟩, rfl⟩) ?_)
 refine So.n (lk rfl) (A.alloc 1 1 ty24 rfl trivial (f := fun j => ([.v (.slice none 0 0), .v (.int .i64 0), .v (.int .i64 0), .v (.int .i64 0), .v (.slice none 0 0)] : List PV).getD j (.v undef)) (fun j hj => by match j, hj with | 0, _ => rfl | 1, _ => rfl | 2, _ => rfl | 3, _ => rfl | 4, _ => rfl) ?_)
 refine So.s (A.stoAg ty24 rfl (n := 5) rfl (by decide) (by intro j hj; first | rfl | trivial | (match j, hj with | 0, _ => (first | trivial | rfl) | 1, _ => (first | trivial | rfl) | 2, _ => (first | trivial | rfl) | 3, _ => (first | trivial | rfl) | 4, _ => (first | trivial | rfl))) rfl rfl rfl ?_)
 refine So.e ?_
 show HT _ _ _ _ _
 refine HT.seq ?_
 refine HT.region S_head_ok ?_
 refine So.q rfl rfl (V.ldPtrA ty24 rfl rfl rfl rfl (lk rfl) ?_)
 refine So.n (lk rfl) (A.call0 [.agg 5 _] 2 rfl rfl rfl rfl ⟨trivial, trivial⟩ trivial ([103], 0, 0, 5, []) ⟨.agg _ _ _ (fun j hj => by match j, hj with | 0, _ => exact .refl _ | 1, _ => exact .refl _ | 2, _ => exact .refl _ | 3, _ => exact .refl _ | 4, _ => exact .nilBs), trivial⟩ trivial (by trivial) (Φ := fun _ => True) (fun _ _ => trivial) (.inl rfl) (v := .tup 2 _) rfl (O' := (4, ⟨5, 1, _, true, .bs _⟩) :: _) rfl (fun h1 => ?_))
 refine So.q rfl rfl (V.mv (v := .tup 2 _) rfl ?_)
 refine So.q rfl rfl (V.ext rfl (lk rfl) (v := .own 4 0 _) rfl ?_)
 refine So.q rfl rfl (V.ext rfl (lk rfl) (v := .p (.v (.int .i64 _))) rfl ?_)
 refine So.q rfl rfl (V.as (v := .own 4 0 _) rfl ?_)
 refine So.q rfl rfl (V.as (v := .p (.v (.int .i64 _))) rfl ?_)
 refine So.e ?_
 show HT _ _ _ _ _
 refine HT.seq ?_
 refine HT.region S_head_ok ?_
 refine So.n (lk rfl) (A.call0 [.p (.v (.slice none 0 0))] 5 rfl rfl rfl rfl ⟨trivial, trivial⟩ trivial ([]) ⟨le_nil rfl, trivial⟩ trivial (by trivial) (Φ := fun _ => True) (fun _ _ => trivial) (.inl rfl) (v := .tup 2 _) rfl (O' := _) rfl (fun h2 => ?_))
 refine So.q rfl rfl (V.mv (v := .tup 2 _) rfl ?_)
 refine So.q rfl rfl (V.ext rfl (lk rfl) (v := .agg 8 _) rfl ?_)
 refine So.q rfl rfl (V.ext rfl (lk rfl) (v := .p (.v (.int .i64 _))) rfl ?_)
 refine So.n (lk rfl) (A.alloc 5 1 ty26 rfl trivial (f := fun j => ([.v (.slice none 0 0), .v (.int .i64 0), .v (.int .i64 0), .v (.int .i64 0), .v (.slice none 0 0), .v (.slice none 0 0), .v (.slice none 0 0), .v (.slice none 0 0)] : List PV).getD j (.v undef)) (fun j hj => by match j, hj with | 0, _ => rfl | 1, _ => rfl | 2, _ => rfl | 3, _ => rfl | 4, _ => rfl | 5, _ => rfl | 6, _ => rfl | 7, _ => rfl) ?_)
 refine So.s (A.stoAg ty26 rfl (n := 8) rfl (by decide) (by intro j hj; first | rfl | trivial | (match j, hj with | 0, _ => (first | trivial | rfl) | 1, _ => (first | trivial | rfl) | 2, _ => (first | trivial | rfl) | 3, _ => (first | trivial | rfl) | 4, _ => (first | trivial | rfl) | 5, _ => (first | trivial | rfl) | 6, _ => (first | trivial | rfl) | 7, _ => (first | trivial | rfl))) rfl rfl rfl ?_)
 refine So.q rfl rfl (V.as (v := .p (.v (.int .i64 _))) rfl ?_)
 refine So.e ?_
 show HT _ _ _ _ _
 refine HT.seq ?_
 refine HT.region S_head_ok ?_
 refine So.n (lk rfl) (A.bsl 6 ty22 ty5 rfl (lk rfl) (lk rfl) (fun _ => rfl) rfl rfl trivial ⟨trivial, trivial⟩ rfl (N := 1) rfl (c := .bs [_]) rfl ?_)
 refine So.n (lk rfl) (A.cvM ty22 ty5 rfl (by first | rfl | omega | (simp; done) | (simp; omega)) rfl rfl ?_)
 refine So.n (lk rfl) (A.bldS ty35 rfl rfl ⟨by first | exact trivial | exact rfl | (intro j hj; first | trivial | rfl | (simp [BV.one]; done)), trivial⟩ rfl (f := fun j => ([.bs [103], .v (.int .i64 0), .v (.int .i64 0), .v (.int .i64 0), .v (.slice none 0 0)] : List PV).getD j (.v undef)) (by exact allP_spec (P := fun j => _ = _) ⟨⟨⟨⟨⟨trivial, rfl⟩, rfl⟩, rfl⟩, rfl⟩, rfl⟩) ?_)
 refine So.n (lk rfl) (A.call0 [.agg 5 _] 6 rfl rfl rfl rfl ⟨trivial, trivial⟩ trivial ([103], 0, 0, 0, []) ⟨.agg _ _ _ (fun j hj => by match j, hj with | 0, _ => exact .refl _ | 1, _ => exact .refl _ | 2, _ => exact .refl _ | 3, _ => exact .refl _ | 4, _ => exact .nilBs), trivial⟩ trivial (by trivial) (Φ := fun _ => True) (fun _ _ => trivial) (.inl rfl) (v := .tup 2 _) rfl (O' := (8, ⟨5, 1, _, true, .bs _⟩) :: _) rfl (fun h3 => ?_))
 refine So.q rfl rfl (V.mv (v := .tup 2 _) rfl ?_)
 refine So.q rfl rfl (V.ext rfl (lk rfl) (v := .own 8 0 _) rfl ?_)
 refine So.q rfl rfl (V.ext rfl (lk rfl) (v := .p (.v (.int .i64 _))) rfl ?_)
 refine So.q rfl rfl (V.as (v := .own 8 0 _) rfl ?_)
 refine So.q rfl rfl (V.as (v := .p (.v (.int .i64 _))) rfl ?_)
 refine So.e ?_
 show HT _ _ _ _ _
 refine HT.seq ?_
 refine HT.region S_head_ok ?_
 refine So.q rfl rfl (V.mv (v := .p (.v (.int .i64 _))) rfl ?_)
 refine So.q rfl rfl (V.bin (a := (.v (.int .i64 _))) (b := (.v (.int .i64 (0)))) (r := .v (.bool _)) rfl rfl rfl trivial ?_)
 refine So.q rfl rfl (V.mv (v := .p (.v (.bool _))) rfl ?_)
 refine So.gd rfl rfl (lk rfl) (lk rfl) (fun h4 => ?_) (fun h4 => ?_)
 ·have h4 := of_decide_eq_true h4
  refine A.v rfl (V.mv (v := .own 4 0 _) rfl ?_)
  refine So.gy rfl rfl (lk rfl) (lk rfl) ?_
  refine A.v rfl (V.len ty22 (v := .own 4 0 _) rfl rfl ?_)
  refine So.gy rfl rfl (lk rfl) (lk rfl) ?_
  refine A.v rfl (V.bin (a := (.v (.int .i64 _))) (b := (.v (.int .i64 (16)))) (r := .v (.bool _)) rfl rfl rfl trivial ?_)
  refine So.q rfl rfl (V.pkTrue (u := .p (.v (.bool _))) rfl rfl ?_)
  refine So.q rfl rfl (V.mv (v := .p (.v (.bool _))) rfl ?_)
  refine So.gd rfl rfl (lk rfl) (lk rfl) (fun h5 => ?_) (fun h5 => ?_)
  ·have h5 := of_decide_eq_true h5
   refine A.v rfl (V.mv (v := .p (.v (.int .i64 _))) rfl ?_)
   refine So.gy rfl rfl (lk rfl) (lk rfl) ?_
   refine A.v rfl (V.bin (a := (.v (.int .i64 _))) (b := (.v (.int .i64 (111)))) (r := .v (.bool _)) rfl rfl rfl trivial ?_)
   refine So.q rfl rfl (V.pkTrue (u := .p (.v (.bool _))) rfl rfl ?_)
   refine So.q rfl rfl (V.mv (v := .p (.v (.bool _))) rfl ?_)
   refine So.gd rfl rfl (lk rfl) (lk rfl) (fun h6 => ?_) (fun h6 => ?_)
   ·have h6 := of_decide_eq_true h6
    refine A.v rfl (V.mv (v := .p (.v (.int .i64 _))) rfl ?_)
    refine So.gy rfl rfl (lk rfl) (lk rfl) ?_
    refine A.v rfl (V.bin (a := (.v (.int .i64 _))) (b := (.v (.int .i64 (0)))) (r := .v (.bool _)) rfl rfl rfl trivial ?_)
    refine So.q rfl rfl (V.pkTrue (u := .p (.v (.bool _))) rfl rfl ?_)
    refine So.q rfl rfl (V.mv (v := .p (.v (.bool _))) rfl ?_)
    refine So.gd rfl rfl (lk rfl) (lk rfl) (fun h7 => ?_) (fun h7 => ?_)
    ·have h7 := of_decide_eq_true h7
     refine A.v rfl (V.mv (v := .own 8 0 _) rfl ?_)
     refine So.gy rfl rfl (lk rfl) (lk rfl) ?_
     refine A.v rfl (V.len ty22 (v := .own 8 0 _) rfl rfl ?_)
     refine So.gy rfl rfl (lk rfl) (lk rfl) ?_
     refine A.v rfl (V.bin (a := (.v (.int .i64 _))) (b := (.v (.int .i64 (19)))) (r := .v (.bool _)) rfl rfl rfl trivial ?_)
     refine So.q rfl rfl (V.pkTrue (u := .p (.v (.bool _))) rfl rfl ?_)
     refine So.q rfl rfl (V.mv (v := .p (.v (.bool _))) rfl ?_)
     refine So.gd rfl rfl (lk rfl) (lk rfl) (fun h8 => ?_) (fun h8 => ?_)
     ·have h8 := of_decide_eq_true h8
      refine A.v rfl (V.ldPtrA ty24 rfl rfl rfl rfl (lk rfl) ?_)
      refine So.gy rfl rfl (lk rfl) (lk rfl) ?_
      refine A.call0 [.agg 5 _] 9 rfl rfl rfl rfl ⟨trivial, trivial⟩ trivial ([103], 0, 0, 5, []) ⟨.agg _ _ _ (fun j hj => by match j, hj with | 0, _ => exact .refl _ | 1, _ => exact .refl _ | 2, _ => exact .refl _ | 3, _ => exact .refl _ | 4, _ => exact .nilBs), trivial⟩ trivial (by trivial) (Φ := fun _ => True) (fun _ _ => trivial) (.inl rfl) (v := .p (.v (.bool _))) rfl (O' := _) rfl (fun h9 => ?_)
      refine So.q rfl rfl (V.pkTrue (u := .p (.v (.bool _))) rfl rfl ?_)
      refine So.q rfl rfl (V.mv (v := .p (.v (.bool _))) rfl ?_)
      refine So.gd rfl rfl (lk rfl) (lk rfl) (fun h10 => ?_) (fun h10 => ?_)
      ·have h10 := of_decide_eq_true h10
       refine A.bldS ty24 rfl rfl trivial rfl (f := fun j => ([.v (.slice none 0 0), .v (.int .i64 0), .v (.int .i64 0), .v (.int .i64 0), .v (.slice none 0 0)] : List PV).getD j (.v undef)) (by exact allP_spec (P := fun j => _ = _) ⟨⟨⟨⟨⟨trivial, rfl⟩, rfl⟩, rfl⟩, rfl⟩, rfl⟩) ?_
       refine So.gy rfl rfl (lk rfl) (lk rfl) ?_
       refine A.call0 [.agg 5 _] 9 rfl rfl rfl rfl ⟨trivial, trivial⟩ trivial ([], 0, 0, 0, []) ⟨.agg _ _ _ (fun j hj => by match j, hj with | 0, _ => exact .nilBs | 1, _ => exact .refl _ | 2, _ => exact .refl _ | 3, _ => exact .refl _ | 4, _ => exact .nilBs), trivial⟩ trivial (by trivial) (Φ := fun _ => True) (fun _ _ => trivial) (.inl rfl) (v := .p (.v (.bool _))) rfl (O' := _) rfl (fun h11 => ?_)
       refine So.gy rfl rfl (lk rfl) (lk rfl) ?_
       refine A.v rfl (V.not rfl ?_)
       refine So.q rfl rfl (V.pkTrue (u := .p (.v (.bool _))) rfl rfl ?_)
       refine So.q rfl rfl (V.as (v := .p (.v (.bool _))) rfl ?_)
       refine So.e ?_
       show HT _ _ _ _ _
       refine HT.ret ?_
       exact ret_ok (sg []) h rfl rfl rfl trivial ⟨trivial, trivial⟩ rfl ⟨⟨⟨le_bool (by first | rfl | exact (decide_eq_true hd7).symm | (rw [decide_eq_false hd7]; rfl)), trivial⟩, trivial⟩, trivial⟩
      ·have h10 := of_decide_eq_false h10
       first | exact absurd (by first | exact hd1 | exact hd3 | exact hd4 | exact hd6 | exact hd7 | (rw [hd2]; rfl) | (rw [hd5]; rfl)) h10 | exact absurd h10 (by first | exact hd1 | exact hd3 | exact hd4 | exact hd6 | exact hd7 | (rw [hd2]; rfl) | (rw [hd5]; rfl))
     ·have h8 := of_decide_eq_false h8
      first | exact absurd (by first | exact hd1 | exact hd3 | exact hd4 | exact hd6 | exact hd7 | (rw [hd2]; rfl) | (rw [hd5]; rfl)) h8 | exact absurd h8 (by first | exact hd1 | exact hd3 | exact hd4 | exact hd6 | exact hd7 | (rw [hd2]; rfl) | (rw [hd5]; rfl))
    ·have h7 := of_decide_eq_false h7
     first | exact absurd (by first | exact hd1 | exact hd3 | exact hd4 | exact hd6 | exact hd7 | (rw [hd2]; rfl) | (rw [hd5]; rfl)) h7 | exact absurd h7 (by first | exact hd1 | exact hd3 | exact hd4 | exact hd6 | exact hd7 | (rw [hd2]; rfl) | (rw [hd5]; rfl))
   ·have h6 := of_decide_eq_false h6
    first | exact absurd (by first | exact hd1 | exact hd3 | exact hd4 | exact hd6 | exact hd7 | (rw [hd2]; rfl) | (rw [hd5]; rfl)) h6 | exact absurd h6 (by first | exact hd1 | exact hd3 | exact hd4 | exact hd6 | exact hd7 | (rw [hd2]; rfl) | (rw [hd5]; rfl))
  ·have h5 := of_decide_eq_false h5
   first | exact absurd (by first | exact hd1 | exact hd3 | exact hd4 | exact hd6 | exact hd7 | (rw [hd2]; rfl) | (rw [hd5]; rfl)) h5 | exact absurd h5 (by first | exact hd1 | exact hd3 | exact hd4 | exact hd6 | exact hd7 | (rw [hd2]; rfl) | (rw [hd5]; rfl))
 ·have h4 := of_decide_eq_false h4
  first | exact absurd (by first | exact hd1 | exact hd3 | exact hd4 | exact hd6 | exact hd7 | (rw [hd2]; rfl) | (rw [hd5]; rfl)) h4 | exact absurd h4 (by first | exact hd1 | exact hd3 | exact hd4 | exact hd6 | exact hd7 | (rw [hd2]; rfl) | (rw [hd5]; rfl))
end Go.Vh

set_option linter.unusedVariables false
set_option linter.unusedSimpArgs false
namespace Go.Vh
open Go Go.Vc Go.Proofs Go.Vw
def lawSealsSp : Sp := ⟨[], mkE (α := (List UInt8) × Int × Int × Int × (List UInt8) × (List UInt8)) (fun (g, ep, fr, gn, cl, b) => [.agg 5 (fun j => ([.bs g, .v (.int .i64 ep), .v (.int .i64 fr), .v (.int .i64 gn), .bs cl] : List PV).getD j (.v undef)), .p (.bs (b))]) (fun (g, ep, fr, gn, cl, b) => []) (fun (g, ep, fr, gn, cl, b) => True) (fun (g, ep, fr, gn, cl, b) => [.p (.v (.bool true))]) (fun (g, ep, fr, gn, cl, b) => [])⟩
def S_lawSeals : FuncId → Option Sp := fun f => if f = 8 then some headSp else if f = 9 then some greatSp else if f = 13 then some fputsSp else if f = 14 then some rputsSp else if f = 15 then some fgetsSp else if f = 16 then some rgetsSp else if f = 17 then some samesSp else if f = 18 then some faheadSp else if f = 19 then some raheadSp else none
theorem S_lawSeals_ok : ∀ f s, S_lawSeals f = some s → FOK Tryd.prog gl f s := fun f s h => by
 unfold S_lawSeals at h
 split at h
 ·rename_i e; cases h; subst e; exact head_ok
 split at h
 ·rename_i e; cases h; subst e; exact great_ok
 split at h
 ·rename_i e; cases h; subst e; exact fputs_ok
 split at h
 ·rename_i e; cases h; subst e; exact rputs_ok
 split at h
 ·rename_i e; cases h; subst e; exact fgets_ok
 split at h
 ·rename_i e; cases h; subst e; exact rgets_ok
 split at h
 ·rename_i e; cases h; subst e; exact sames_ok
 split at h
 ·rename_i e; cases h; subst e; exact fahead_ok
 split at h
 ·rename_i e; cases h; subst e; exact rahead_ok
 cases h
theorem S_lawSeals_det : ∀ f s, S_lawSeals f = some s → SpDet s.sp := fun f s h => by
 unfold S_lawSeals at h
 split at h
 ·cases h; exact mkE_det _ _ _ _ _
 split at h
 ·cases h; exact mkE_det _ _ _ _ _
 split at h
 ·cases h; exact mkE_det _ _ _ _ _
 split at h
 ·cases h; exact mkE_det _ _ _ _ _
 split at h
 ·cases h; exact mkE_det _ _ _ _ _
 split at h
 ·cases h; exact mkE_det _ _ _ _ _
 split at h
 ·cases h; exact mkE_det _ _ _ _ _
 split at h
 ·cases h; exact mkE_det _ _ _ _ _
 split at h
 ·cases h; exact mkE_det _ _ _ _ _
 cases h
set_option maxHeartbeats 1000000 in
set_option maxRecDepth 20000 in
theorem lawSeals_ok : FOK Tryd.prog gl 4 lawSealsSp := by
 refine FOK.ofE (tyOf_ok Tryd.prog) (slots := [4]) (nt := 75) Tryd.func4 rfl rfl rfl rfl (by decide) 2 (fun ⟨_, _, _, _, _, _⟩ => rfl) (by decide) (fun ⟨_, _, _, _, _, _⟩ => ⟨trivial, trivial, trivial⟩) ?_
 rintro ⟨g, ep, fr, gn, cl, b⟩ kk hlen hpre h
 have hl1 : (b).length ≤ 9223372036854775807 := hlen.2.1
 replace hpre : True := hpre
 show HT (cx Tryd.prog 75 (tyOf Tryd.prog) gl []) _ [(0, .agg 5 (fun j => ([.bs g, .v (.int .i64 ep), .v (.int .i64 fr), .v (.int .i64 gn), .bs cl] : List PV).getD j (.v undef))), (1, .p (.bs (b)))] [] _
 refine HT.seq ?_
 refine HT.region S_lawSeals_ok ?_
 refine So.n (lk rfl) (A.boxAg 1 1 (n := 5) rfl (by intro j hj; first | rfl | trivial | (match j, hj with | 0, _ => (first | trivial | rfl) | 1, _ => (first | trivial | rfl) | 2, _ => (first | trivial | rfl) | 3, _ => (first | trivial | rfl) | 4, _ => (first | trivial | rfl)) | (split <;> first | rfl | trivial | (split <;> first | rfl | trivial))) rfl trivial ?_)
 refine So.q rfl rfl (V.as (v := .p (.v (.bool false))) rfl ?_)
 refine So.e ?_
 show HT _ _ _ _ _
 refine HT.seq ?_
 refine HT.region S_lawSeals_ok ?_
 refine So.n (lk rfl) (A.call0 [] 2 rfl rfl rfl rfl trivial trivial () trivial trivial (by trivial) (Φ := fun _ => True) (fun _ _ => trivial) (.inl rfl) (v := .p (.v (.bool true))) rfl (O' := _) rfl (fun h1 => ?_))
 refine So.q rfl rfl (V.as (v := .p (.v (.bool true))) rfl ?_)
 refine So.e ?_
 show HT _ _ _ _ _
 refine HT.seq ?_
 refine HT.seq ?_
 refine HT.region S_lawSeals_ok ?_
 refine So.q rfl rfl (V.faPtr ty35 rfl ty22 (lk rfl) rfl rfl (lk rfl) ?_)
 refine So.q rfl rfl (V.ldPtr ty22 rfl rfl rfl (lk rfl) (v := .p (.bs _)) rfl ?_)
 refine So.q rfl rfl (V.faPtr ty35 rfl ty22 (lk rfl) rfl rfl (lk rfl) ?_)
 refine So.q rfl rfl (V.ldPtr ty22 rfl rfl rfl (lk rfl) (v := .p (.bs _)) rfl ?_)
 refine So.q rfl rfl (V.mv (v := .p (.bs _)) rfl ?_)
 refine So.n (lk rfl) (A.bsl 2 ty51 ty22 rfl (lk rfl) (lk rfl) (fun _ => rfl) rfl rfl trivial ⟨trivial, trivial, trivial, trivial⟩ rfl (N := 3) rfl (c := .rows _) rfl ?_)
 refine So.n (lk rfl) (A.call0 [.p (.sl _ _ _)] 3 rfl rfl rfl rfl ⟨trivial, trivial⟩ trivial [g, cl, b] ⟨le_sl rfl (by intro j hj; match j, hj with | 0, _ => rfl | 1, _ => rfl | 2, _ => rfl), trivial⟩ trivial (by trivial) (Φ := fun _ => True) (fun _ _ => trivial) (.inr ⟨trivial, by simp [Hp.scal, OC.scal, PV.scal, BV.scal]⟩) (v := .p (.v (.bool _))) rfl (O' := _) rfl (fun h2 => ?_))
 refine So.e ?_
 show HT _ _ _ _ _
 refine R.cond rfl rfl (fun h3 => ?_) (fun h3 => ?_)
 ·have h3 := great_t h3
  refine HT.seq ?_
  refine HT.region S_lawSeals_ok ?_
  refine So.q rfl rfl (V.mv (v := .p (.v (.bool true))) rfl ?_)
  refine So.q rfl rfl (V.as (v := .p (.v (.bool true))) rfl ?_)
  refine So.e ?_
  show HT _ _ _ _ _
  refine HT.ret ?_
  exact ret_ok (sg []) h rfl rfl rfl trivial ⟨trivial, trivial⟩ rfl ⟨⟨⟨le_bool (by first | rfl | exact decide_eq_true rfl), trivial⟩, trivial⟩, trivial⟩
 ·have h3 := great_f h3
  refine HT.skip ?_
  show HT _ _ _ _ _
  refine HT.seq ?_
  refine HT.region S_lawSeals_ok ?_
  refine So.q rfl rfl (V.ldPtrA ty35 rfl rfl rfl rfl (lk rfl) ?_)
  refine So.n (lk rfl) (A.call0 [.agg 5 _] 3 rfl rfl rfl rfl ⟨trivial, trivial⟩ trivial (g, ep, fr, gn, cl) ⟨le_agg (fun j hj => by match j, hj with | 0, _ => rfl | 1, _ => rfl | 2, _ => rfl | 3, _ => rfl | 4, _ => rfl), trivial⟩ trivial (by trivial) (Φ := fun _ => True) (fun _ _ => trivial) (.inl rfl) (v := .tup 2 _) rfl (O' := (5, ⟨5, 1, _, true, .bs _⟩) :: _) rfl (fun h4 => ?_))
  refine So.q rfl rfl (V.mv (v := .tup 2 _) rfl ?_)
  refine So.q rfl rfl (V.ext rfl (lk rfl) (v := .own 5 0 _) rfl ?_)
  refine So.q rfl rfl (V.ext rfl (lk rfl) (v := .p (.v (.int .i64 _))) rfl ?_)
  refine So.q rfl rfl (V.as (v := .own 5 0 _) rfl ?_)
  refine So.q rfl rfl (V.as (v := .p (.v (.int .i64 _))) rfl ?_)
  refine So.e ?_
  show HT _ _ _ _ _
  refine HT.frzS 5 rfl rfl rfl ?_
  show HT _ _ _ _ _
  refine HT.seq ?_
  refine HT.region S_lawSeals_ok ?_
  refine So.q rfl rfl (V.ldPtrA ty35 rfl rfl rfl rfl (lk rfl) ?_)
  refine So.n (lk rfl) (A.call0 [.agg 5 _] 3 rfl rfl rfl rfl ⟨trivial, trivial⟩ trivial (g, ep, fr, gn, cl) ⟨le_agg (fun j hj => by match j, hj with | 0, _ => rfl | 1, _ => rfl | 2, _ => rfl | 3, _ => rfl | 4, _ => rfl), trivial⟩ trivial (by trivial) (Φ := fun _ => True) (fun _ _ => trivial) (.inl rfl) (v := .tup 2 _) rfl (O' := (5, ⟨5, 1, _, true, .bs _⟩) :: _) rfl (fun h5 => ?_))
  refine So.q rfl rfl (V.mv (v := .tup 2 _) rfl ?_)
  refine So.q rfl rfl (V.ext rfl (lk rfl) (v := .own 5 0 _) rfl ?_)
  refine So.q rfl rfl (V.ext rfl (lk rfl) (v := .p (.v (.int .i64 _))) rfl ?_)
  refine So.q rfl rfl (V.as (v := .own 5 0 _) rfl ?_)
  refine So.q rfl rfl (V.as (v := .p (.v (.int .i64 _))) rfl ?_)
  refine So.e ?_
  show HT _ _ _ _ _
  refine HT.frzS 5 rfl rfl rfl ?_
  show HT _ _ _ _ _
  refine HT.seq ?_
  refine HT.region S_lawSeals_ok ?_
  refine So.q rfl rfl (V.mv (v := .p (.bs _)) rfl ?_)
  refine So.n (lk rfl) (A.call0 [.p (.bs _)] 3 rfl rfl rfl rfl ⟨trivial, trivial⟩ trivial _ ⟨.refl _, trivial⟩ trivial (by trivial) (Φ := fun _ => True) (fun _ _ => trivial) (.inl rfl) (v := .tup 2 _) rfl (O' := _) rfl (fun h6 => ?_))
  refine So.q rfl rfl (V.mv (v := .tup 2 _) rfl ?_)
  refine So.q rfl rfl (V.ext rfl (lk rfl) (v := .agg 5 _) rfl ?_)
  refine So.q rfl rfl (V.ext rfl (lk rfl) (v := .p (.v (.int .i64 _))) rfl ?_)
  refine So.n (lk rfl) (A.alloc 3 1 ty35 rfl trivial (f := fun j => ([.v (.slice none 0 0), .v (.int .i64 0), .v (.int .i64 0), .v (.int .i64 0), .v (.slice none 0 0)] : List PV).getD j (.v undef)) (fun j hj => by match j, hj with | 0, _ => rfl | 1, _ => rfl | 2, _ => rfl | 3, _ => rfl | 4, _ => rfl) ?_)
  refine So.s (A.stoAg ty35 rfl (n := 5) rfl (by decide) (by intro j hj; first | rfl | trivial | (match j, hj with | 0, _ => (first | trivial | rfl) | 1, _ => (first | trivial | rfl) | 2, _ => (first | trivial | rfl) | 3, _ => (first | trivial | rfl) | 4, _ => (first | trivial | rfl))) rfl rfl rfl ?_)
  refine So.q rfl rfl (V.as (v := .p (.v (.int .i64 _))) rfl ?_)
  refine So.e ?_
  show HT _ _ _ _ _
  refine HT.seq ?_
  refine HT.region S_lawSeals_ok ?_
  refine So.q rfl rfl (V.mv (v := .p (.bs _)) rfl ?_)
  refine So.n (lk rfl) (A.call0 [.p (.bs _)] 4 rfl rfl rfl rfl ⟨trivial, trivial⟩ trivial _ ⟨.refl _, trivial⟩ trivial (by trivial) (Φ := fun _ => True) (fun _ _ => trivial) (.inl rfl) (v := .tup 2 _) rfl (O' := _) rfl (fun h7 => ?_))
  refine So.q rfl rfl (V.mv (v := .tup 2 _) rfl ?_)
  refine So.q rfl rfl (V.ext rfl (lk rfl) (v := .agg 5 _) rfl ?_)
  refine So.q rfl rfl (V.ext rfl (lk rfl) (v := .p (.v (.int .i64 _))) rfl ?_)
  refine So.n (lk rfl) (A.alloc 4 1 ty35 rfl trivial (f := fun j => ([.v (.slice none 0 0), .v (.int .i64 0), .v (.int .i64 0), .v (.int .i64 0), .v (.slice none 0 0)] : List PV).getD j (.v undef)) (fun j hj => by match j, hj with | 0, _ => rfl | 1, _ => rfl | 2, _ => rfl | 3, _ => rfl | 4, _ => rfl) ?_)
  refine So.s (A.stoAg ty35 rfl (n := 5) rfl (by decide) (by intro j hj; first | rfl | trivial | (match j, hj with | 0, _ => (first | trivial | rfl) | 1, _ => (first | trivial | rfl) | 2, _ => (first | trivial | rfl) | 3, _ => (first | trivial | rfl) | 4, _ => (first | trivial | rfl))) rfl rfl rfl ?_)
  refine So.q rfl rfl (V.as (v := .p (.v (.int .i64 _))) rfl ?_)
  refine So.e ?_
  show HT _ _ _ _ _
  refine HT.seq ?_
  refine HT.drawn S_lawSeals_ok S_lawSeals_det mixed (by kernel_rfl) ?_
  refine Sd.n (lk rfl) (V.mv (v := .p (.v (.bool true))) rfl ?_)
  refine Sd.n (lk rfl) (V.mv (v := .p (.v (.bool true))) rfl ?_)
  refine Sd.gy rfl rfl (lk rfl) (lk rfl) ?_
  refine V.mv (v := .p (.bs _)) rfl ?_
  refine Sd.gy rfl rfl (lk rfl) (lk rfl) ?_
  refine V.cvBs ty9 rfl rfl ?_
  refine Sd.gy rfl rfl (lk rfl) (lk rfl) ?_
  refine V.mv (v := .p (.bs _)) rfl ?_
  refine Sd.gy rfl rfl (lk rfl) (lk rfl) ?_
  refine V.cvBs ty9 rfl rfl ?_
  refine Sd.gy rfl rfl (lk rfl) (lk rfl) ?_
  refine V.bin (a := (.str _)) (b := (.str _)) (r := .v (.bool _)) rfl rfl rfl trivial ?_
  refine Sd.n (lk rfl) (V.pkTrue (u := .p (.v (.bool _))) rfl rfl ?_)
  refine Sd.n (lk rfl) (V.mv (v := .p (.v (.bool _))) rfl ?_)
  refine Sd.gd rfl rfl (lk rfl) (lk rfl) (fun h8 => ?_) (fun h8 => ?_)
  ·have h8 := of_decide_eq_true h8
   refine V.mv (v := .p (.v (.int .i64 _))) rfl ?_
   refine Sd.gy rfl rfl (lk rfl) (lk rfl) ?_
   refine V.mv (v := .p (.v (.int .i64 _))) rfl ?_
   refine Sd.gy rfl rfl (lk rfl) (lk rfl) ?_
   refine V.bin (a := (.v (.int .i64 _))) (b := (.v (.int .i64 _))) (r := .v (.bool _)) rfl rfl rfl trivial ?_
   refine Sd.n (lk rfl) (V.pkTrue (u := .p (.v (.bool _))) rfl rfl ?_)
   refine Sd.n (lk rfl) (V.mv (v := .p (.v (.bool _))) rfl ?_)
   refine Sd.gd rfl rfl (lk rfl) (lk rfl) (fun h9 => ?_) (fun h9 => ?_)
   ·have h9 := of_decide_eq_true h9
    refine V.ldPtrA ty35 rfl rfl rfl rfl (lk rfl) ?_
    refine Sd.gy rfl rfl (lk rfl) (lk rfl) ?_
    refine V.ldPtrA ty35 rfl rfl rfl rfl (lk rfl) ?_
    refine Sd.gy rfl rfl (lk rfl) (lk rfl) ?_
    refine V.call [.agg 5 _, .agg 5 _] 5 rfl rfl rfl rfl ⟨trivial, trivial, trivial⟩ trivial (gs1 b, gs2 b, gs3 b, gs4 b, gs5 b, gs1 b, gs2 b, gs3 b, gs4 b, gs5 b) ⟨le_agg (fun j hj => by match j, hj with | 0, _ => rfl | 1, _ => rfl | 2, _ => rfl | 3, _ => rfl | 4, _ => rfl), le_agg (fun j hj => by match j, hj with | 0, _ => rfl | 1, _ => rfl | 2, _ => rfl | 3, _ => rfl | 4, _ => rfl), trivial⟩ trivial (by trivial) (Φ := fun _ => True) (fun _ _ => trivial) (.inl ⟨trivial, trivial, trivial⟩) (v := .p (.v (.bool _))) rfl (fun h10 => ?_)
    refine Sd.n (lk rfl) (V.pkTrue (u := .p (.v (.bool _))) rfl rfl ?_)
    refine Sd.n (lk rfl) (V.mv (v := .p (.v (.bool _))) rfl ?_)
    refine Sd.gd rfl rfl (lk rfl) (lk rfl) (fun h11 => ?_) (fun h11 => ?_)
    ·have h11 := of_decide_eq_true h11
     refine V.mv (v := .p (.v (.int .i64 _))) rfl ?_
     refine Sd.gy rfl rfl (lk rfl) (lk rfl) ?_
     refine V.mv (v := .p (.v (.int .i64 _))) rfl ?_
     refine Sd.gy rfl rfl (lk rfl) (lk rfl) ?_
     refine V.bin (a := (.v (.int .i64 _))) (b := (.v (.int .i64 _))) (r := .v (.bool _)) rfl rfl rfl trivial ?_
     refine Sd.n (lk rfl) (V.pkTrue (u := .p (.v (.bool _))) rfl rfl ?_)
     refine Sd.n (lk rfl) (V.mv (v := .p (.v (.bool _))) rfl ?_)
     refine Sd.gd rfl rfl (lk rfl) (lk rfl) (fun h12 => ?_) (fun h12 => ?_)
     ·have h12 := of_decide_eq_true h12
      refine V.ldPtrA ty35 rfl rfl rfl rfl (lk rfl) ?_
      refine Sd.gy rfl rfl (lk rfl) (lk rfl) ?_
      refine V.call [.agg 5 _] 5 rfl rfl rfl rfl ⟨trivial, trivial⟩ trivial (g, ep, fr, gn, cl) ⟨le_agg (fun j hj => by match j, hj with | 0, _ => rfl | 1, _ => rfl | 2, _ => rfl | 3, _ => rfl | 4, _ => rfl), trivial⟩ trivial (by trivial) (Φ := fun _ => True) (fun _ _ => trivial) (.inl ⟨trivial, trivial⟩) (v := .p (.bs _)) rfl (fun h13 => ?_)
      refine Sd.gy rfl rfl (lk rfl) (lk rfl) ?_
      refine V.cvBs ty9 rfl rfl ?_
      refine Sd.gy rfl rfl (lk rfl) (lk rfl) ?_
      refine V.ldPtrA ty35 rfl rfl rfl rfl (lk rfl) ?_
      refine Sd.gy rfl rfl (lk rfl) (lk rfl) ?_
      refine V.call [.agg 5 _] 5 rfl rfl rfl rfl ⟨trivial, trivial⟩ trivial (g, ep, fr, gn, cl) ⟨le_agg (fun j hj => by match j, hj with | 0, _ => rfl | 1, _ => rfl | 2, _ => rfl | 3, _ => rfl | 4, _ => rfl), trivial⟩ trivial (by trivial) (Φ := fun _ => True) (fun _ _ => trivial) (.inl ⟨trivial, trivial⟩) (v := .p (.bs _)) rfl (fun h14 => ?_)
      refine Sd.gy rfl rfl (lk rfl) (lk rfl) ?_
      refine V.cvBs ty9 rfl rfl ?_
      refine Sd.gy rfl rfl (lk rfl) (lk rfl) ?_
      refine V.bin (a := (.str _)) (b := (.str _)) (r := .v (.bool _)) rfl rfl rfl trivial ?_
      refine Sd.n (lk rfl) (V.pkTrue (u := .p (.v (.bool _))) rfl rfl ?_)
      refine Sd.n (lk rfl) (V.as (v := .p (.v (.bool _))) rfl ?_)
      refine Sd.e ?_
      show HT _ _ _ _ _
      refine HT.ret ?_
      exact ret_ok (sg []) h rfl rfl rfl trivial ⟨trivial, trivial⟩ rfl ⟨⟨⟨le_bool (by first | rfl | exact decide_eq_true rfl), trivial⟩, trivial⟩, trivial⟩
     ·have h12 := of_decide_eq_false h12
      first | exact absurd (by first | rfl | exact ⟨rfl, rfl, rfl, rfl, rfl⟩) h12 | exact absurd h12 (by first | rfl | exact ⟨rfl, rfl, rfl, rfl, rfl⟩)
    ·have h11 := of_decide_eq_false h11
     first | exact absurd (by first | rfl | exact ⟨rfl, rfl, rfl, rfl, rfl⟩) h11 | exact absurd h11 (by first | rfl | exact ⟨rfl, rfl, rfl, rfl, rfl⟩)
   ·have h9 := of_decide_eq_false h9
    first | exact absurd (by first | rfl | exact ⟨rfl, rfl, rfl, rfl, rfl⟩) h9 | exact absurd h9 (by first | rfl | exact ⟨rfl, rfl, rfl, rfl, rfl⟩)
  ·have h8 := of_decide_eq_false h8
   first | exact absurd (by first | rfl | exact ⟨rfl, rfl, rfl, rfl, rfl⟩) h8 | exact absurd h8 (by first | rfl | exact ⟨rfl, rfl, rfl, rfl, rfl⟩)
end Go.Vh
