/- What is proved: each function of the seat's program does what its contract says, wherever it is called; no condition. -/
import Derived.Test.YtkabppmmdhkmiaaDoorWalk0
import Derived.Test.YtkabppmmdhkmiaaDoorWalk1
set_option linter.unusedVariables false
set_option linter.unusedSimpArgs false
set_option linter.unusedVariables false
set_option linter.unusedSimpArgs false
namespace Go.Vh
open Go Go.Vc Go.Proofs Go.Vw
def rtext_4Sp : Sp := ⟨[1, 2, 4], mkE (α := (List UInt8) × Int × Int × (Nat → PV) × (Nat → PV)) (fun (b, p, e, u, f) => [.ptr 1 (0), .own 3 (0) (4)]) (fun (b, p, e, u, f) => [(1, ⟨63, 1, 3, true, .rows (fun j => ([.bs b, .v (.int .i64 p), .v (.int .i64 e)] : List PV).getD j (.v undef))⟩), (2, ⟨63, 1, 3, true, .rows (fun j => if j = 0 then .bs [] else u j)⟩), (4, ⟨26, 1, 8, true, .rows (fun j => if j = 5 then .bs ([]) else if j = 6 then .bs ([]) else if j = 7 then .bs ([]) else f j)⟩), (3, ⟨67, 1, 4, true, .cells [.ptr 2 (0), .ptr 4 (5), .ptr 4 (6), .ptr 4 (7)]⟩)]) (fun (b, p, e, u, f) => True) (fun (b, p, e, u, f) => []) (fun (b, p, e, u, f) => [(1, ⟨63, 1, 3, true, .rows (fun j => ([.bs b, .v (.int .i64 (rd4 b p e).2.1), .v (.int .i64 (rd4 b p e).2.2)] : List PV).getD j (.v undef))⟩), (2, ⟨63, 1, 3, true, .rows (fun j => if j = 0 then .bs (rdT b p e).1 else u j)⟩), (4, ⟨26, 1, 8, true, .rows (fun j => if j = 5 then .bs ((rd2 b p e).1) else if j = 6 then .bs ((rd3 b p e).1) else if j = 7 then .bs ((rd4 b p e).1) else f j)⟩)])⟩
def S_rtext_4 : FuncId → Option Sp := fun f => if f = 49 then some getTextSp else none
theorem S_rtext_4_ok : ∀ f s, S_rtext_4 f = some s → FOK Tryd.prog gl f s := fun f s h => by
 unfold S_rtext_4 at h
 split at h
 ·rename_i e; cases h; subst e; exact getText_ok
 cases h
theorem S_rtext_4_det : ∀ f s, S_rtext_4 f = some s → SpDet s.sp := fun f s h => by
 unfold S_rtext_4 at h
 split at h
 ·cases h; exact mkE_det _ _ _ _ _
 cases h
set_option maxHeartbeats 4000000 in
set_option maxRecDepth 20000 in
theorem rtext_4_ok : FOK Tryd.prog gl 34 rtext_4Sp := by
 refine FOK.ofE (tyOf_ok Tryd.prog) (slots := []) (nt := 39) Tryd.func34 rfl rfl rfl rfl (by decide) 2 (fun ⟨_, _, _, _, _⟩ => rfl) (by decide) (fun ⟨_, _, _, _, _⟩ => ⟨rfl, rfl, trivial⟩) ?_
 rintro ⟨b, p, e, u, f⟩ kk hlen hpre h
 have hl1 : _ ≤ 9223372036854775807 := hlen.2.1
 replace hpre : True := hpre
 show HT (cx Tryd.prog 39 (tyOf Tryd.prog) gl [1, 2, 4]) _ [(0, .ptr 1 (0)), (1, .own 3 (0) (4))] [(1, ⟨63, 1, 3, true, .rows (fun j => ([.bs b, .v (.int .i64 p), .v (.int .i64 e)] : List PV).getD j (.v undef))⟩), (2, ⟨63, 1, 3, true, .rows (fun j => if j = 0 then .bs [] else u j)⟩), (4, ⟨26, 1, 8, true, .rows (fun j => if j = 5 then .bs ([]) else if j = 6 then .bs ([]) else if j = 7 then .bs ([]) else f j)⟩), (3, ⟨67, 1, 4, true, .cells [.ptr 2 (0), .ptr 4 (5), .ptr 4 (6), .ptr 4 (7)]⟩)] _
 refine HT.seq ?_
 refine HT.region S_rtext_4_ok ?_
 refine So.q rfl rfl (V.mv (v := .own 3 0 _) rfl ?_)
 refine So.q rfl rfl (V.len ty83 (v := .own 3 0 _) rfl rfl ?_)
 refine So.q rfl rfl (V.mv (v := .p (.v (.int .i64 (0)))) rfl ?_)
 refine So.e ?_
 show HT _ _ _ _ _
 refine HT.block ?_
 refine HT.rounds 5 ?_
 show HT _ _ _ _ _
 refine HT.seq ?_
 refine HT.region S_rtext_4_ok ?_
 refine So.q rfl rfl (V.bin (a := (.v (.int .i64 _))) (b := (.v (.int .i64 _))) (r := .v (.bool _)) rfl rfl rfl trivial ?_)
 refine So.e ?_
 show HT _ _ _ _ _
 refine HT.seq ?_
 refine R.cond rfl rfl (fun h1 => ?_) (fun h1 => ?_)
 ·have h1 := of_decide_eq_true h1
  refine HT.skip ?_
  show HT _ _ _ _ _
  refine R.cut (True) [] [(1, ⟨63, 1, 3, true, .rows (fun j => ([.bs b, .v (.int .i64 (rdT b p e).2.1), .v (.int .i64 (rdT b p e).2.2)] : List PV).getD j (.v undef))⟩), (2, ⟨63, 1, 3, true, .rows (fun j => if j = 0 then .bs ((rdT b p e).1) else u j)⟩)] [0, 6, 7, 8] [3, 4] (fr0 := [(0, .ptr 1 0), (6, .own 3 0 _), (7, .p (.v (.int .i64 _))), (8, .p (.v (.int .i64 _)))]) (O0 := [(3, ⟨_, _, _, _, .cells _⟩), (4, ⟨_, _, _, _, .rows _⟩)]) rfl rfl ?_ (fun hphi => ?_)
  ·refine HT.block ?_
   refine HT.seq ?_
   refine HT.region S_rtext_4_ok ?_
   refine So.q rfl rfl (V.ixOwn10 ty83 ty67 rfl rfl rfl rfl rfl (by omega) rfl ?_)
   refine So.q rfl rfl (V.ldPtr ty67 rfl rfl rfl (lk rfl) (v := .ptr 2 0) rfl ?_)
   refine So.q rfl rfl (V.as (v := .ptr 2 0) rfl ?_)
   refine So.e ?_
   show HT _ _ _ _ _
   refine HT.seq ?_
   refine HT.region S_rtext_4_ok ?_
   refine So.q rfl rfl (V.mv (v := .ptr 1 0) rfl ?_)
   refine So.q rfl rfl (V.ncPtr rfl ?_)
   refine So.q rfl rfl (V.faPtr ty63 rfl ty29 (lk rfl) rfl rfl (lk rfl) ?_)
   refine So.q rfl rfl (V.ldPtr ty29 rfl rfl rfl (lk rfl) (v := .p (.v (.int .i64 _))) rfl ?_)
   refine So.q rfl rfl (V.bin (a := (.v (.int .i64 _))) (b := (.v (.int .i64 (0)))) (r := .v (.bool _)) rfl rfl rfl trivial ?_)
   refine So.e ?_
   show HT _ _ _ _ _
   refine R.cond rfl rfl (fun h2 => ?_) (fun h2 => ?_)
   ·have h2 := of_decide_eq_true h2
    refine HT.planS S_rtext_4_ok S_rtext_4_det mixed [] [⟨[0, 1, 2, 3, 4, 5, 6, 7, 8, 9, 10, 11, 12, 13, 14, 15, 16], 17, [1, 2, 14, 15]⟩, ⟨[1, 2, 14, 15, 18, 19], 20, [2, 15]⟩, ⟨[2, 15, 21, 22], 23, []⟩] (by kernel_rfl) ?_
    refine Pl.lk ?_
    refine Si.n rfl (lk rfl) (V.mv (v := .ptr 2 0) rfl ?_)
    refine Si.n rfl (lk rfl) (V.mv (v := .ptr 1 0) rfl ?_)
    refine Si.n rfl (lk rfl) (V.mv (v := .ptr 1 0) rfl ?_)
    refine Si.n rfl (lk rfl) (V.mv (v := .ptr 1 0) rfl ?_)
    refine Si.n rfl (lk rfl) (V.ncPtr rfl ?_)
    refine Si.n rfl (lk rfl) (V.faPtr ty63 rfl ty22 (lk rfl) rfl rfl (lk rfl) ?_)
    refine Si.n rfl (lk rfl) (V.ldPtr ty22 rfl rfl rfl (lk rfl) (v := .p (.bs _)) rfl ?_)
    refine Si.n rfl (lk rfl) (V.mv (v := .ptr 1 0) rfl ?_)
    refine Si.n rfl (lk rfl) (V.ncPtr rfl ?_)
    refine Si.n rfl (lk rfl) (V.faPtr ty63 rfl ty3 (lk rfl) rfl rfl (lk rfl) ?_)
    refine Si.n rfl (lk rfl) (V.ldPtr ty3 rfl rfl rfl (lk rfl) (v := .p (.v (.int .i64 _))) rfl ?_)
    refine Si.n rfl (lk rfl) (V.call [.p (.bs _), .p (.v (.int .i64 _))] 5 rfl rfl rfl rfl ⟨trivial, trivial, trivial⟩ ⟨lk rfl, lk rfl, lk rfl, trivial⟩ (_, _) ⟨.refl _, .refl _, trivial⟩ trivial (by trivial) (Φ := fun (b, i) => ((getTextF b i).2.2 = 0 → 0 ≤ i ∧ i < (getTextF b i).2.1 ∧ (getTextF b i).2.1 ≤ b.length) ∧ (getTextF b i).1.length ≤ 1048576) (fun (b, i) _ => ⟨getTextF_ok b i, getTextF_len b i⟩) (.inl ⟨trivial, trivial, trivial⟩) (v := .tup 3 _) rfl (fun h3 => ?_))
    try dsimp only at h3
    refine Si.n rfl (lk rfl) (V.mv (v := .tup 3 _) rfl ?_)
    refine Si.n rfl (lk rfl) (V.ext rfl (lk rfl) (v := .p (.bs _)) rfl ?_)
    refine Si.n rfl (lk rfl) (V.ext rfl (lk rfl) (v := .p (.v (.int .i64 _))) rfl ?_)
    refine Si.n rfl (lk rfl) (V.ext rfl (lk rfl) (v := .p (.v (.int .i64 _))) rfl ?_)
    refine Si.n rfl (lk rfl) (V.ncPtr rfl ?_)
    refine Si.e ?_
    refine ⟨flEq_nil, fun ff => ?_⟩
    refine Lo.s rfl (A.sto ty22 rfl rfl rfl (v := .p (.bs _)) rfl trivial rfl (lk rfl) rfl rfl ?_)
    refine ⟨_, fun ff => ff, ap0, rfl, FG.id, ?_⟩
    show planA _ _ _ _ _ [(1, .ptr 1 0), (2, .ptr 1 0), (14, .p (.v (.int .i64 _))), (15, .p (.v (.int .i64 _)))] _ _ _
    refine Pl.lk ?_
    refine Si.n rfl (lk rfl) (V.mv (v := .ptr 1 0) rfl ?_)
    refine Si.n rfl (lk rfl) (V.mv (v := .ptr 1 0) rfl ?_)
    refine Si.n rfl (lk rfl) (V.ext rfl (lk rfl) (v := .p (.v (.int .i64 _))) rfl ?_)
    refine Si.n rfl (lk rfl) (V.ext rfl (lk rfl) (v := .p (.v (.int .i64 _))) rfl ?_)
    refine Si.n rfl (lk rfl) (V.ncPtr rfl ?_)
    refine Si.n rfl (lk rfl) (V.faPtr ty63 rfl ty3 (lk rfl) rfl rfl (lk rfl) ?_)
    refine Si.e ?_
    refine ⟨(flEq_cons rfl (flEq_cons rfl (flEq_cons rfl (flEq_cons rfl flEq_nil)))), fun ff => ?_⟩
    refine Lo.s rfl (A.sto ty3 rfl rfl rfl (v := .p (.v (.int .i64 _))) rfl rfl rfl (lk rfl) rfl rfl ?_)
    refine ⟨_, fun ff => ff, ap0, rfl, FG.id, ?_⟩
    show planA _ _ _ _ _ [(2, .ptr 1 0), (15, .p (.v (.int .i64 _)))] _ _ _
    refine Pl.l0 ?_
    refine Si.n rfl (lk rfl) (V.mv (v := .ptr 1 0) rfl ?_)
    refine Si.n rfl (lk rfl) (V.ext rfl (lk rfl) (v := .p (.v (.int .i64 _))) rfl ?_)
    refine Si.n rfl (lk rfl) (V.ncPtr rfl ?_)
    refine Si.n rfl (lk rfl) (V.faPtr ty63 rfl ty29 (lk rfl) rfl rfl (lk rfl) ?_)
    refine Si.e ?_
    refine ⟨(flEq_cons rfl (flEq_cons rfl flEq_nil)), ?_⟩
    refine Lo.s rfl (A.sto ty29 rfl rfl rfl (v := .p (.v (.int .i64 _))) rfl rfl rfl (lk rfl) rfl rfl ?_)
    refine Pl.e ?_
    refine Si.e ?_
    refine ⟨flEq_nil, ?_⟩
    exact ⟨by first | rfl | omega | (simp; done) | (simp; omega), ⟨⟨⟨.refl _, rfl⟩, ⟨.refl _, rfl⟩, ⟨.refl _, trivial⟩, ⟨.refl _, trivial⟩, trivial⟩, ⟨⟨_, rfl, .inr (ob_rows (by rfl) (by first | (rw [show rdT b p e = Go.Vh.gT b p from rdT_0 (e := e) (by assumption)]; (intro j hj; match j, hj with | 0, _ => rfl | 1, _ => rfl | 2, _ => rfl)) | (rw [show rdT b p e = ([], p, e) from rdT_1 (e := e) (by assumption)]; (intro j hj; match j, hj with | 0, _ => rfl | 1, _ => rfl | 2, _ => rfl)))), trivial⟩, ⟨_, rfl, .inr (ob_rows (by rfl) (by first | (rw [show rdT b p e = Go.Vh.gT b p from rdT_0 (e := e) (by assumption)]; intro j hj; by_cases h0 : j = 0 <;> first | (simp [h0, gT]; done) | (exfalso; omega)) | (rw [show rdT b p e = ([], p, e) from rdT_1 (e := e) (by assumption)]; intro j hj; by_cases h0 : j = 0 <;> first | (simp [h0, gT]; done) | (exfalso; omega)))), trivial⟩, ⟨_, rfl, .inl rfl, ⟨rfl, rfl, rfl, rfl, trivial⟩⟩, ⟨_, rfl, .inl rfl, trivial⟩, trivial⟩⟩⟩
   ·have h2 := of_decide_eq_false h2
    refine HT.skip ?_
    exact ⟨by first | rfl | omega | (simp; done) | (simp; omega), ⟨⟨⟨.refl _, rfl⟩, ⟨.refl _, rfl⟩, ⟨.refl _, trivial⟩, ⟨.refl _, trivial⟩, trivial⟩, ⟨⟨_, rfl, .inr (ob_rows (by rfl) (by first | (rw [show rdT b p e = Go.Vh.gT b p from rdT_0 (e := e) (by assumption)]; (intro j hj; match j, hj with | 0, _ => rfl | 1, _ => rfl | 2, _ => rfl)) | (rw [show rdT b p e = ([], p, e) from rdT_1 (e := e) (by assumption)]; (intro j hj; match j, hj with | 0, _ => rfl | 1, _ => rfl | 2, _ => rfl)))), trivial⟩, ⟨_, rfl, .inr (ob_rows (by rfl) (by first | (rw [show rdT b p e = Go.Vh.gT b p from rdT_0 (e := e) (by assumption)]; intro j hj; by_cases h0 : j = 0 <;> first | (simp [h0, gT]; done) | (exfalso; omega)) | (rw [show rdT b p e = ([], p, e) from rdT_1 (e := e) (by assumption)]; intro j hj; by_cases h0 : j = 0 <;> first | (simp [h0, gT]; done) | (exfalso; omega)))), trivial⟩, ⟨_, rfl, .inl rfl, ⟨rfl, rfl, rfl, rfl, trivial⟩⟩, ⟨_, rfl, .inl rfl, trivial⟩, trivial⟩⟩⟩
  ·refine HT.region S_rtext_4_ok ?_
   refine So.q rfl rfl (V.addI rfl rfl (by omega) ?_)
   refine So.q rfl rfl (V.mv (v := .p (.v (.int .i64 _))) rfl ?_)
   refine So.e ?_
   show HT _ _ _ _ _
   refine HT.seq ?_
   refine HT.region S_rtext_4_ok ?_
   refine So.q rfl rfl (V.bin (a := (.v (.int .i64 _))) (b := (.v (.int .i64 _))) (r := .v (.bool _)) rfl rfl rfl trivial ?_)
   refine So.e ?_
   show HT _ _ _ _ _
   refine HT.seq ?_
   refine R.cond rfl rfl (fun h4 => ?_) (fun h4 => ?_)
   ·have h4 := of_decide_eq_true h4
    refine HT.skip ?_
    show HT _ _ _ _ _
    refine R.cut (True) [] [(1, ⟨63, 1, 3, true, .rows (fun j => ([.bs b, .v (.int .i64 (rd2 b p e).2.1), .v (.int .i64 (rd2 b p e).2.2)] : List PV).getD j (.v undef))⟩), (4, ⟨26, 1, 8, true, .rows (fun j => if j = 5 then .bs ((rd2 b p e).1) else if j = 6 then .bs ([]) else if j = 7 then .bs ([]) else f j)⟩)] [0, 6, 7, 8] [2, 3] (fr0 := [(0, .ptr 1 0), (6, .own 3 0 _), (7, .p (.v (.int .i64 _))), (8, .p (.v (.int .i64 _)))]) (O0 := [(2, ⟨_, _, _, _, .rows _⟩), (3, ⟨_, _, _, _, .cells _⟩)]) rfl rfl ?_ (fun hphi => ?_)
    ·refine HT.block ?_
     refine HT.seq ?_
     refine HT.region S_rtext_4_ok ?_
     refine So.q rfl rfl (V.ixOwn10 ty83 ty67 rfl rfl rfl rfl rfl (by omega) rfl ?_)
     refine So.q rfl rfl (V.ldPtr ty67 rfl rfl rfl (lk rfl) (v := .ptr 4 5) rfl ?_)
     refine So.q rfl rfl (V.as (v := .ptr 4 5) rfl ?_)
     refine So.e ?_
     show HT _ _ _ _ _
     refine HT.seq ?_
     refine HT.region S_rtext_4_ok ?_
     refine So.q rfl rfl (V.mv (v := .ptr 1 0) rfl ?_)
     refine So.q rfl rfl (V.ncPtr rfl ?_)
     refine So.q rfl rfl (V.faPtr ty63 rfl ty29 (lk rfl) rfl rfl (lk rfl) ?_)
     refine So.q rfl rfl (V.ldPtr ty29 rfl rfl rfl (lk rfl) (v := .p (.v (.int .i64 _))) rfl ?_)
     refine So.q rfl rfl (V.bin (a := (.v (.int .i64 _))) (b := (.v (.int .i64 (0)))) (r := .v (.bool _)) rfl rfl rfl trivial ?_)
     refine So.e ?_
     show HT _ _ _ _ _
     refine R.cond rfl rfl (fun h5 => ?_) (fun h5 => ?_)
     ·have h5 := of_decide_eq_true h5
      refine HT.planS S_rtext_4_ok S_rtext_4_det mixed [] [⟨[0, 1, 2, 3, 4, 5, 6, 7, 8, 9, 10, 11, 12, 13, 14, 15, 16], 17, [1, 2, 14, 15]⟩, ⟨[1, 2, 14, 15, 18, 19], 20, [2, 15]⟩, ⟨[2, 15, 21, 22], 23, []⟩] (by kernel_rfl) ?_
      refine Pl.lk ?_
      refine Si.n rfl (lk rfl) (V.mv (v := .ptr 4 5) rfl ?_)
      refine Si.n rfl (lk rfl) (V.mv (v := .ptr 1 0) rfl ?_)
      refine Si.n rfl (lk rfl) (V.mv (v := .ptr 1 0) rfl ?_)
      refine Si.n rfl (lk rfl) (V.mv (v := .ptr 1 0) rfl ?_)
      refine Si.n rfl (lk rfl) (V.ncPtr rfl ?_)
      refine Si.n rfl (lk rfl) (V.faPtr ty63 rfl ty22 (lk rfl) rfl rfl (lk rfl) ?_)
      refine Si.n rfl (lk rfl) (V.ldPtr ty22 rfl rfl rfl (lk rfl) (v := .p (.bs _)) rfl ?_)
      refine Si.n rfl (lk rfl) (V.mv (v := .ptr 1 0) rfl ?_)
      refine Si.n rfl (lk rfl) (V.ncPtr rfl ?_)
      refine Si.n rfl (lk rfl) (V.faPtr ty63 rfl ty3 (lk rfl) rfl rfl (lk rfl) ?_)
      refine Si.n rfl (lk rfl) (V.ldPtr ty3 rfl rfl rfl (lk rfl) (v := .p (.v (.int .i64 _))) rfl ?_)
      refine Si.n rfl (lk rfl) (V.call [.p (.bs _), .p (.v (.int .i64 _))] 5 rfl rfl rfl rfl ⟨trivial, trivial, trivial⟩ ⟨lk rfl, lk rfl, lk rfl, trivial⟩ (_, _) ⟨.refl _, .refl _, trivial⟩ trivial (by trivial) (Φ := fun (b, i) => ((getTextF b i).2.2 = 0 → 0 ≤ i ∧ i < (getTextF b i).2.1 ∧ (getTextF b i).2.1 ≤ b.length) ∧ (getTextF b i).1.length ≤ 1048576) (fun (b, i) _ => ⟨getTextF_ok b i, getTextF_len b i⟩) (.inl ⟨trivial, trivial, trivial⟩) (v := .tup 3 _) rfl (fun h6 => ?_))
      try dsimp only at h6
      refine Si.n rfl (lk rfl) (V.mv (v := .tup 3 _) rfl ?_)
      refine Si.n rfl (lk rfl) (V.ext rfl (lk rfl) (v := .p (.bs _)) rfl ?_)
      refine Si.n rfl (lk rfl) (V.ext rfl (lk rfl) (v := .p (.v (.int .i64 _))) rfl ?_)
      refine Si.n rfl (lk rfl) (V.ext rfl (lk rfl) (v := .p (.v (.int .i64 _))) rfl ?_)
      refine Si.n rfl (lk rfl) (V.ncPtr rfl ?_)
      refine Si.e ?_
      refine ⟨flEq_nil, fun ff => ?_⟩
      refine Lo.s rfl (A.sto ty22 rfl rfl rfl (v := .p (.bs _)) rfl trivial rfl (lk rfl) rfl rfl ?_)
      refine ⟨_, fun ff => ff, ap0, rfl, FG.id, ?_⟩
      show planA _ _ _ _ _ [(1, .ptr 1 0), (2, .ptr 1 0), (14, .p (.v (.int .i64 _))), (15, .p (.v (.int .i64 _)))] _ _ _
      refine Pl.lk ?_
      refine Si.n rfl (lk rfl) (V.mv (v := .ptr 1 0) rfl ?_)
      refine Si.n rfl (lk rfl) (V.mv (v := .ptr 1 0) rfl ?_)
      refine Si.n rfl (lk rfl) (V.ext rfl (lk rfl) (v := .p (.v (.int .i64 _))) rfl ?_)
      refine Si.n rfl (lk rfl) (V.ext rfl (lk rfl) (v := .p (.v (.int .i64 _))) rfl ?_)
      refine Si.n rfl (lk rfl) (V.ncPtr rfl ?_)
      refine Si.n rfl (lk rfl) (V.faPtr ty63 rfl ty3 (lk rfl) rfl rfl (lk rfl) ?_)
      refine Si.e ?_
      refine ⟨(flEq_cons rfl (flEq_cons rfl (flEq_cons rfl (flEq_cons rfl flEq_nil)))), fun ff => ?_⟩
      refine Lo.s rfl (A.sto ty3 rfl rfl rfl (v := .p (.v (.int .i64 _))) rfl rfl rfl (lk rfl) rfl rfl ?_)
      refine ⟨_, fun ff => ff, ap0, rfl, FG.id, ?_⟩
      show planA _ _ _ _ _ [(2, .ptr 1 0), (15, .p (.v (.int .i64 _)))] _ _ _
      refine Pl.l0 ?_
      refine Si.n rfl (lk rfl) (V.mv (v := .ptr 1 0) rfl ?_)
      refine Si.n rfl (lk rfl) (V.ext rfl (lk rfl) (v := .p (.v (.int .i64 _))) rfl ?_)
      refine Si.n rfl (lk rfl) (V.ncPtr rfl ?_)
      refine Si.n rfl (lk rfl) (V.faPtr ty63 rfl ty29 (lk rfl) rfl rfl (lk rfl) ?_)
      refine Si.e ?_
      refine ⟨(flEq_cons rfl (flEq_cons rfl flEq_nil)), ?_⟩
      refine Lo.s rfl (A.sto ty29 rfl rfl rfl (v := .p (.v (.int .i64 _))) rfl rfl rfl (lk rfl) rfl rfl ?_)
      refine Pl.e ?_
      refine Si.e ?_
      refine ⟨flEq_nil, ?_⟩
      exact ⟨by first | rfl | omega | (simp; done) | (simp; omega), ⟨⟨⟨.refl _, rfl⟩, ⟨.refl _, rfl⟩, ⟨.refl _, trivial⟩, ⟨.refl _, trivial⟩, trivial⟩, ⟨⟨_, rfl, .inr (ob_rows (by rfl) (by first | (rw [show rd2 b p e = Go.Vh.gT b (rdT b p e).2.1 from rdT_0 (e := (rdT b p e).2.2) (by assumption)]; (intro j hj; match j, hj with | 0, _ => rfl | 1, _ => rfl | 2, _ => rfl)) | (rw [show rd2 b p e = ([], (rdT b p e).2.1, (rdT b p e).2.2) from rdT_1 (e := (rdT b p e).2.2) (by assumption)]; (intro j hj; match j, hj with | 0, _ => rfl | 1, _ => rfl | 2, _ => rfl)))), trivial⟩, ⟨_, rfl, .inr (ob_rows (by rfl) (by first | (rw [show rd2 b p e = Go.Vh.gT b (rdT b p e).2.1 from rdT_0 (e := (rdT b p e).2.2) (by assumption)]; intro j hj; by_cases h5 : j = 5 <;> by_cases h6 : j = 6 <;> by_cases h7 : j = 7 <;> first | (simp [h5, h6, h7, gT]; done) | (exfalso; omega)) | (rw [show rd2 b p e = ([], (rdT b p e).2.1, (rdT b p e).2.2) from rdT_1 (e := (rdT b p e).2.2) (by assumption)]; intro j hj; by_cases h5 : j = 5 <;> by_cases h6 : j = 6 <;> by_cases h7 : j = 7 <;> first | (simp [h5, h6, h7, gT]; done) | (exfalso; omega)))), trivial⟩, ⟨_, rfl, .inl rfl, trivial⟩, ⟨_, rfl, .inl rfl, ⟨rfl, rfl, rfl, rfl, trivial⟩⟩, trivial⟩⟩⟩
     ·have h5 := of_decide_eq_false h5
      refine HT.skip ?_
      exact ⟨by first | rfl | omega | (simp; done) | (simp; omega), ⟨⟨⟨.refl _, rfl⟩, ⟨.refl _, rfl⟩, ⟨.refl _, trivial⟩, ⟨.refl _, trivial⟩, trivial⟩, ⟨⟨_, rfl, .inr (ob_rows (by rfl) (by first | (rw [show rd2 b p e = Go.Vh.gT b (rdT b p e).2.1 from rdT_0 (e := (rdT b p e).2.2) (by assumption)]; (intro j hj; match j, hj with | 0, _ => rfl | 1, _ => rfl | 2, _ => rfl)) | (rw [show rd2 b p e = ([], (rdT b p e).2.1, (rdT b p e).2.2) from rdT_1 (e := (rdT b p e).2.2) (by assumption)]; (intro j hj; match j, hj with | 0, _ => rfl | 1, _ => rfl | 2, _ => rfl)))), trivial⟩, ⟨_, rfl, .inr (ob_rows (by rfl) (by first | (rw [show rd2 b p e = Go.Vh.gT b (rdT b p e).2.1 from rdT_0 (e := (rdT b p e).2.2) (by assumption)]; intro j hj; by_cases h5 : j = 5 <;> by_cases h6 : j = 6 <;> by_cases h7 : j = 7 <;> first | (simp [h5, h6, h7, gT]; done) | (exfalso; omega)) | (rw [show rd2 b p e = ([], (rdT b p e).2.1, (rdT b p e).2.2) from rdT_1 (e := (rdT b p e).2.2) (by assumption)]; intro j hj; by_cases h5 : j = 5 <;> by_cases h6 : j = 6 <;> by_cases h7 : j = 7 <;> first | (simp [h5, h6, h7, gT]; done) | (exfalso; omega)))), trivial⟩, ⟨_, rfl, .inl rfl, trivial⟩, ⟨_, rfl, .inl rfl, ⟨rfl, rfl, rfl, rfl, trivial⟩⟩, trivial⟩⟩⟩
    ·refine HT.region S_rtext_4_ok ?_
     refine So.q rfl rfl (V.addI rfl rfl (by omega) ?_)
     refine So.q rfl rfl (V.mv (v := .p (.v (.int .i64 _))) rfl ?_)
     refine So.e ?_
     show HT _ _ _ _ _
     refine HT.seq ?_
     refine HT.region S_rtext_4_ok ?_
     refine So.q rfl rfl (V.bin (a := (.v (.int .i64 _))) (b := (.v (.int .i64 _))) (r := .v (.bool _)) rfl rfl rfl trivial ?_)
     refine So.e ?_
     show HT _ _ _ _ _
     refine HT.seq ?_
     refine R.cond rfl rfl (fun h7 => ?_) (fun h7 => ?_)
     ·have h7 := of_decide_eq_true h7
      refine HT.skip ?_
      show HT _ _ _ _ _
      refine R.cut (True) [] [(1, ⟨63, 1, 3, true, .rows (fun j => ([.bs b, .v (.int .i64 (rd3 b p e).2.1), .v (.int .i64 (rd3 b p e).2.2)] : List PV).getD j (.v undef))⟩), (4, ⟨26, 1, 8, true, .rows (fun j => if j = 5 then .bs ((rd2 b p e).1) else if j = 6 then .bs ((rd3 b p e).1) else if j = 7 then .bs ([]) else f j)⟩)] [0, 6, 7, 8] [2, 3] (fr0 := [(0, .ptr 1 0), (6, .own 3 0 _), (7, .p (.v (.int .i64 _))), (8, .p (.v (.int .i64 _)))]) (O0 := [(2, ⟨_, _, _, _, .rows _⟩), (3, ⟨_, _, _, _, .cells _⟩)]) rfl rfl ?_ (fun hphi => ?_)
      ·refine HT.block ?_
       refine HT.seq ?_
       refine HT.region S_rtext_4_ok ?_
       refine So.q rfl rfl (V.ixOwn10 ty83 ty67 rfl rfl rfl rfl rfl (by omega) rfl ?_)
       refine So.q rfl rfl (V.ldPtr ty67 rfl rfl rfl (lk rfl) (v := .ptr 4 6) rfl ?_)
       refine So.q rfl rfl (V.as (v := .ptr 4 6) rfl ?_)
       refine So.e ?_
       show HT _ _ _ _ _
       refine HT.seq ?_
       refine HT.region S_rtext_4_ok ?_
       refine So.q rfl rfl (V.mv (v := .ptr 1 0) rfl ?_)
       refine So.q rfl rfl (V.ncPtr rfl ?_)
       refine So.q rfl rfl (V.faPtr ty63 rfl ty29 (lk rfl) rfl rfl (lk rfl) ?_)
       refine So.q rfl rfl (V.ldPtr ty29 rfl rfl rfl (lk rfl) (v := .p (.v (.int .i64 _))) rfl ?_)
       refine So.q rfl rfl (V.bin (a := (.v (.int .i64 _))) (b := (.v (.int .i64 (0)))) (r := .v (.bool _)) rfl rfl rfl trivial ?_)
       refine So.e ?_
       show HT _ _ _ _ _
       refine R.cond rfl rfl (fun h8 => ?_) (fun h8 => ?_)
       ·have h8 := of_decide_eq_true h8
        refine HT.planS S_rtext_4_ok S_rtext_4_det mixed [] [⟨[0, 1, 2, 3, 4, 5, 6, 7, 8, 9, 10, 11, 12, 13, 14, 15, 16], 17, [1, 2, 14, 15]⟩, ⟨[1, 2, 14, 15, 18, 19], 20, [2, 15]⟩, ⟨[2, 15, 21, 22], 23, []⟩] (by kernel_rfl) ?_
        refine Pl.lk ?_
        refine Si.n rfl (lk rfl) (V.mv (v := .ptr 4 6) rfl ?_)
        refine Si.n rfl (lk rfl) (V.mv (v := .ptr 1 0) rfl ?_)
        refine Si.n rfl (lk rfl) (V.mv (v := .ptr 1 0) rfl ?_)
        refine Si.n rfl (lk rfl) (V.mv (v := .ptr 1 0) rfl ?_)
        refine Si.n rfl (lk rfl) (V.ncPtr rfl ?_)
        refine Si.n rfl (lk rfl) (V.faPtr ty63 rfl ty22 (lk rfl) rfl rfl (lk rfl) ?_)
        refine Si.n rfl (lk rfl) (V.ldPtr ty22 rfl rfl rfl (lk rfl) (v := .p (.bs _)) rfl ?_)
        refine Si.n rfl (lk rfl) (V.mv (v := .ptr 1 0) rfl ?_)
        refine Si.n rfl (lk rfl) (V.ncPtr rfl ?_)
        refine Si.n rfl (lk rfl) (V.faPtr ty63 rfl ty3 (lk rfl) rfl rfl (lk rfl) ?_)
        refine Si.n rfl (lk rfl) (V.ldPtr ty3 rfl rfl rfl (lk rfl) (v := .p (.v (.int .i64 _))) rfl ?_)
        refine Si.n rfl (lk rfl) (V.call [.p (.bs _), .p (.v (.int .i64 _))] 5 rfl rfl rfl rfl ⟨trivial, trivial, trivial⟩ ⟨lk rfl, lk rfl, lk rfl, trivial⟩ (_, _) ⟨.refl _, .refl _, trivial⟩ trivial (by trivial) (Φ := fun (b, i) => ((getTextF b i).2.2 = 0 → 0 ≤ i ∧ i < (getTextF b i).2.1 ∧ (getTextF b i).2.1 ≤ b.length) ∧ (getTextF b i).1.length ≤ 1048576) (fun (b, i) _ => ⟨getTextF_ok b i, getTextF_len b i⟩) (.inl ⟨trivial, trivial, trivial⟩) (v := .tup 3 _) rfl (fun h9 => ?_))
        try dsimp only at h9
        refine Si.n rfl (lk rfl) (V.mv (v := .tup 3 _) rfl ?_)
        refine Si.n rfl (lk rfl) (V.ext rfl (lk rfl) (v := .p (.bs _)) rfl ?_)
        refine Si.n rfl (lk rfl) (V.ext rfl (lk rfl) (v := .p (.v (.int .i64 _))) rfl ?_)
        refine Si.n rfl (lk rfl) (V.ext rfl (lk rfl) (v := .p (.v (.int .i64 _))) rfl ?_)
        refine Si.n rfl (lk rfl) (V.ncPtr rfl ?_)
        refine Si.e ?_
        refine ⟨flEq_nil, fun ff => ?_⟩
        refine Lo.s rfl (A.sto ty22 rfl rfl rfl (v := .p (.bs _)) rfl trivial rfl (lk rfl) rfl rfl ?_)
        refine ⟨_, fun ff => ff, ap0, rfl, FG.id, ?_⟩
        show planA _ _ _ _ _ [(1, .ptr 1 0), (2, .ptr 1 0), (14, .p (.v (.int .i64 _))), (15, .p (.v (.int .i64 _)))] _ _ _
        refine Pl.lk ?_
        refine Si.n rfl (lk rfl) (V.mv (v := .ptr 1 0) rfl ?_)
        refine Si.n rfl (lk rfl) (V.mv (v := .ptr 1 0) rfl ?_)
        refine Si.n rfl (lk rfl) (V.ext rfl (lk rfl) (v := .p (.v (.int .i64 _))) rfl ?_)
        refine Si.n rfl (lk rfl) (V.ext rfl (lk rfl) (v := .p (.v (.int .i64 _))) rfl ?_)
        refine Si.n rfl (lk rfl) (V.ncPtr rfl ?_)
        refine Si.n rfl (lk rfl) (V.faPtr ty63 rfl ty3 (lk rfl) rfl rfl (lk rfl) ?_)
        refine Si.e ?_
        refine ⟨(flEq_cons rfl (flEq_cons rfl (flEq_cons rfl (flEq_cons rfl flEq_nil)))), fun ff => ?_⟩
        refine Lo.s rfl (A.sto ty3 rfl rfl rfl (v := .p (.v (.int .i64 _))) rfl rfl rfl (lk rfl) rfl rfl ?_)
        refine ⟨_, fun ff => ff, ap0, rfl, FG.id, ?_⟩
        show planA _ _ _ _ _ [(2, .ptr 1 0), (15, .p (.v (.int .i64 _)))] _ _ _
        refine Pl.l0 ?_
        refine Si.n rfl (lk rfl) (V.mv (v := .ptr 1 0) rfl ?_)
        refine Si.n rfl (lk rfl) (V.ext rfl (lk rfl) (v := .p (.v (.int .i64 _))) rfl ?_)
        refine Si.n rfl (lk rfl) (V.ncPtr rfl ?_)
        refine Si.n rfl (lk rfl) (V.faPtr ty63 rfl ty29 (lk rfl) rfl rfl (lk rfl) ?_)
        refine Si.e ?_
        refine ⟨(flEq_cons rfl (flEq_cons rfl flEq_nil)), ?_⟩
        refine Lo.s rfl (A.sto ty29 rfl rfl rfl (v := .p (.v (.int .i64 _))) rfl rfl rfl (lk rfl) rfl rfl ?_)
        refine Pl.e ?_
        refine Si.e ?_
        refine ⟨flEq_nil, ?_⟩
        exact ⟨by first | rfl | omega | (simp; done) | (simp; omega), ⟨⟨⟨.refl _, rfl⟩, ⟨.refl _, rfl⟩, ⟨.refl _, trivial⟩, ⟨.refl _, trivial⟩, trivial⟩, ⟨⟨_, rfl, .inr (ob_rows (by rfl) (by first | (rw [show rd3 b p e = Go.Vh.gT b (rd2 b p e).2.1 from rdT_0 (e := (rd2 b p e).2.2) (by assumption)]; (intro j hj; match j, hj with | 0, _ => rfl | 1, _ => rfl | 2, _ => rfl)) | (rw [show rd3 b p e = ([], (rd2 b p e).2.1, (rd2 b p e).2.2) from rdT_1 (e := (rd2 b p e).2.2) (by assumption)]; (intro j hj; match j, hj with | 0, _ => rfl | 1, _ => rfl | 2, _ => rfl)))), trivial⟩, ⟨_, rfl, .inr (ob_rows (by rfl) (by first | (rw [show rd3 b p e = Go.Vh.gT b (rd2 b p e).2.1 from rdT_0 (e := (rd2 b p e).2.2) (by assumption)]; intro j hj; by_cases h5 : j = 5 <;> by_cases h6 : j = 6 <;> by_cases h7 : j = 7 <;> first | (simp [h5, h6, h7, gT]; done) | (exfalso; omega)) | (rw [show rd3 b p e = ([], (rd2 b p e).2.1, (rd2 b p e).2.2) from rdT_1 (e := (rd2 b p e).2.2) (by assumption)]; intro j hj; by_cases h5 : j = 5 <;> by_cases h6 : j = 6 <;> by_cases h7 : j = 7 <;> first | (simp [h5, h6, h7, gT]; done) | (exfalso; omega)))), trivial⟩, ⟨_, rfl, .inl rfl, trivial⟩, ⟨_, rfl, .inl rfl, ⟨rfl, rfl, rfl, rfl, trivial⟩⟩, trivial⟩⟩⟩
       ·have h8 := of_decide_eq_false h8
        refine HT.skip ?_
        exact ⟨by first | rfl | omega | (simp; done) | (simp; omega), ⟨⟨⟨.refl _, rfl⟩, ⟨.refl _, rfl⟩, ⟨.refl _, trivial⟩, ⟨.refl _, trivial⟩, trivial⟩, ⟨⟨_, rfl, .inr (ob_rows (by rfl) (by first | (rw [show rd3 b p e = Go.Vh.gT b (rd2 b p e).2.1 from rdT_0 (e := (rd2 b p e).2.2) (by assumption)]; (intro j hj; match j, hj with | 0, _ => rfl | 1, _ => rfl | 2, _ => rfl)) | (rw [show rd3 b p e = ([], (rd2 b p e).2.1, (rd2 b p e).2.2) from rdT_1 (e := (rd2 b p e).2.2) (by assumption)]; (intro j hj; match j, hj with | 0, _ => rfl | 1, _ => rfl | 2, _ => rfl)))), trivial⟩, ⟨_, rfl, .inr (ob_rows (by rfl) (by first | (rw [show rd3 b p e = Go.Vh.gT b (rd2 b p e).2.1 from rdT_0 (e := (rd2 b p e).2.2) (by assumption)]; intro j hj; by_cases h5 : j = 5 <;> by_cases h6 : j = 6 <;> by_cases h7 : j = 7 <;> first | (simp [h5, h6, h7, gT]; done) | (exfalso; omega)) | (rw [show rd3 b p e = ([], (rd2 b p e).2.1, (rd2 b p e).2.2) from rdT_1 (e := (rd2 b p e).2.2) (by assumption)]; intro j hj; by_cases h5 : j = 5 <;> by_cases h6 : j = 6 <;> by_cases h7 : j = 7 <;> first | (simp [h5, h6, h7, gT]; done) | (exfalso; omega)))), trivial⟩, ⟨_, rfl, .inl rfl, trivial⟩, ⟨_, rfl, .inl rfl, ⟨rfl, rfl, rfl, rfl, trivial⟩⟩, trivial⟩⟩⟩
      ·refine HT.region S_rtext_4_ok ?_
       refine So.q rfl rfl (V.addI rfl rfl (by omega) ?_)
       refine So.q rfl rfl (V.mv (v := .p (.v (.int .i64 _))) rfl ?_)
       refine So.e ?_
       show HT _ _ _ _ _
       refine HT.seq ?_
       refine HT.region S_rtext_4_ok ?_
       refine So.q rfl rfl (V.bin (a := (.v (.int .i64 _))) (b := (.v (.int .i64 _))) (r := .v (.bool _)) rfl rfl rfl trivial ?_)
       refine So.e ?_
       show HT _ _ _ _ _
       refine HT.seq ?_
       refine R.cond rfl rfl (fun h10 => ?_) (fun h10 => ?_)
       ·have h10 := of_decide_eq_true h10
        refine HT.skip ?_
        show HT _ _ _ _ _
        refine R.cut (True) [] [(1, ⟨63, 1, 3, true, .rows (fun j => ([.bs b, .v (.int .i64 (rd4 b p e).2.1), .v (.int .i64 (rd4 b p e).2.2)] : List PV).getD j (.v undef))⟩), (4, ⟨26, 1, 8, true, .rows (fun j => if j = 5 then .bs ((rd2 b p e).1) else if j = 6 then .bs ((rd3 b p e).1) else if j = 7 then .bs ((rd4 b p e).1) else f j)⟩)] [0, 6, 7, 8] [2, 3] (fr0 := [(0, .ptr 1 0), (6, .own 3 0 _), (7, .p (.v (.int .i64 _))), (8, .p (.v (.int .i64 _)))]) (O0 := [(2, ⟨_, _, _, _, .rows _⟩), (3, ⟨_, _, _, _, .cells _⟩)]) rfl rfl ?_ (fun hphi => ?_)
        ·refine HT.block ?_
         refine HT.seq ?_
         refine HT.region S_rtext_4_ok ?_
         refine So.q rfl rfl (V.ixOwn10 ty83 ty67 rfl rfl rfl rfl rfl (by omega) rfl ?_)
         refine So.q rfl rfl (V.ldPtr ty67 rfl rfl rfl (lk rfl) (v := .ptr 4 7) rfl ?_)
         refine So.q rfl rfl (V.as (v := .ptr 4 7) rfl ?_)
         refine So.e ?_
         show HT _ _ _ _ _
         refine HT.seq ?_
         refine HT.region S_rtext_4_ok ?_
         refine So.q rfl rfl (V.mv (v := .ptr 1 0) rfl ?_)
         refine So.q rfl rfl (V.ncPtr rfl ?_)
         refine So.q rfl rfl (V.faPtr ty63 rfl ty29 (lk rfl) rfl rfl (lk rfl) ?_)
         refine So.q rfl rfl (V.ldPtr ty29 rfl rfl rfl (lk rfl) (v := .p (.v (.int .i64 _))) rfl ?_)
         refine So.q rfl rfl (V.bin (a := (.v (.int .i64 _))) (b := (.v (.int .i64 (0)))) (r := .v (.bool _)) rfl rfl rfl trivial ?_)
         refine So.e ?_
         show HT _ _ _ _ _
         refine R.cond rfl rfl (fun h11 => ?_) (fun h11 => ?_)
         ·have h11 := of_decide_eq_true h11
          refine HT.planS S_rtext_4_ok S_rtext_4_det mixed [] [⟨[0, 1, 2, 3, 4, 5, 6, 7, 8, 9, 10, 11, 12, 13, 14, 15, 16], 17, [1, 2, 14, 15]⟩, ⟨[1, 2, 14, 15, 18, 19], 20, [2, 15]⟩, ⟨[2, 15, 21, 22], 23, []⟩] (by kernel_rfl) ?_
          refine Pl.lk ?_
          refine Si.n rfl (lk rfl) (V.mv (v := .ptr 4 7) rfl ?_)
          refine Si.n rfl (lk rfl) (V.mv (v := .ptr 1 0) rfl ?_)
          refine Si.n rfl (lk rfl) (V.mv (v := .ptr 1 0) rfl ?_)
          refine Si.n rfl (lk rfl) (V.mv (v := .ptr 1 0) rfl ?_)
          refine Si.n rfl (lk rfl) (V.ncPtr rfl ?_)
          refine Si.n rfl (lk rfl) (V.faPtr ty63 rfl ty22 (lk rfl) rfl rfl (lk rfl) ?_)
          refine Si.n rfl (lk rfl) (V.ldPtr ty22 rfl rfl rfl (lk rfl) (v := .p (.bs _)) rfl ?_)
          refine Si.n rfl (lk rfl) (V.mv (v := .ptr 1 0) rfl ?_)
          refine Si.n rfl (lk rfl) (V.ncPtr rfl ?_)
          refine Si.n rfl (lk rfl) (V.faPtr ty63 rfl ty3 (lk rfl) rfl rfl (lk rfl) ?_)
          refine Si.n rfl (lk rfl) (V.ldPtr ty3 rfl rfl rfl (lk rfl) (v := .p (.v (.int .i64 _))) rfl ?_)
          refine Si.n rfl (lk rfl) (V.call [.p (.bs _), .p (.v (.int .i64 _))] 5 rfl rfl rfl rfl ⟨trivial, trivial, trivial⟩ ⟨lk rfl, lk rfl, lk rfl, trivial⟩ (_, _) ⟨.refl _, .refl _, trivial⟩ trivial (by trivial) (Φ := fun (b, i) => ((getTextF b i).2.2 = 0 → 0 ≤ i ∧ i < (getTextF b i).2.1 ∧ (getTextF b i).2.1 ≤ b.length) ∧ (getTextF b i).1.length ≤ 1048576) (fun (b, i) _ => ⟨getTextF_ok b i, getTextF_len b i⟩) (.inl ⟨trivial, trivial, trivial⟩) (v := .tup 3 _) rfl (fun h12 => ?_))
          try dsimp only at h12
          refine Si.n rfl (lk rfl) (V.mv (v := .tup 3 _) rfl ?_)
          refine Si.n rfl (lk rfl) (V.ext rfl (lk rfl) (v := .p (.bs _)) rfl ?_)
          refine Si.n rfl (lk rfl) (V.ext rfl (lk rfl) (v := .p (.v (.int .i64 _))) rfl ?_)
          refine Si.n rfl (lk rfl) (V.ext rfl (lk rfl) (v := .p (.v (.int .i64 _))) rfl ?_)
          refine Si.n rfl (lk rfl) (V.ncPtr rfl ?_)
          refine Si.e ?_
          refine ⟨flEq_nil, fun ff => ?_⟩
          refine Lo.s rfl (A.sto ty22 rfl rfl rfl (v := .p (.bs _)) rfl trivial rfl (lk rfl) rfl rfl ?_)
          refine ⟨_, fun ff => ff, ap0, rfl, FG.id, ?_⟩
          show planA _ _ _ _ _ [(1, .ptr 1 0), (2, .ptr 1 0), (14, .p (.v (.int .i64 _))), (15, .p (.v (.int .i64 _)))] _ _ _
          refine Pl.lk ?_
          refine Si.n rfl (lk rfl) (V.mv (v := .ptr 1 0) rfl ?_)
          refine Si.n rfl (lk rfl) (V.mv (v := .ptr 1 0) rfl ?_)
          refine Si.n rfl (lk rfl) (V.ext rfl (lk rfl) (v := .p (.v (.int .i64 _))) rfl ?_)
          refine Si.n rfl (lk rfl) (V.ext rfl (lk rfl) (v := .p (.v (.int .i64 _))) rfl ?_)
          refine Si.n rfl (lk rfl) (V.ncPtr rfl ?_)
          refine Si.n rfl (lk rfl) (V.faPtr ty63 rfl ty3 (lk rfl) rfl rfl (lk rfl) ?_)
          refine Si.e ?_
          refine ⟨(flEq_cons rfl (flEq_cons rfl (flEq_cons rfl (flEq_cons rfl flEq_nil)))), fun ff => ?_⟩
          refine Lo.s rfl (A.sto ty3 rfl rfl rfl (v := .p (.v (.int .i64 _))) rfl rfl rfl (lk rfl) rfl rfl ?_)
          refine ⟨_, fun ff => ff, ap0, rfl, FG.id, ?_⟩
          show planA _ _ _ _ _ [(2, .ptr 1 0), (15, .p (.v (.int .i64 _)))] _ _ _
          refine Pl.l0 ?_
          refine Si.n rfl (lk rfl) (V.mv (v := .ptr 1 0) rfl ?_)
          refine Si.n rfl (lk rfl) (V.ext rfl (lk rfl) (v := .p (.v (.int .i64 _))) rfl ?_)
          refine Si.n rfl (lk rfl) (V.ncPtr rfl ?_)
          refine Si.n rfl (lk rfl) (V.faPtr ty63 rfl ty29 (lk rfl) rfl rfl (lk rfl) ?_)
          refine Si.e ?_
          refine ⟨(flEq_cons rfl (flEq_cons rfl flEq_nil)), ?_⟩
          refine Lo.s rfl (A.sto ty29 rfl rfl rfl (v := .p (.v (.int .i64 _))) rfl rfl rfl (lk rfl) rfl rfl ?_)
          refine Pl.e ?_
          refine Si.e ?_
          refine ⟨flEq_nil, ?_⟩
          exact ⟨by first | rfl | omega | (simp; done) | (simp; omega), ⟨⟨⟨.refl _, rfl⟩, ⟨.refl _, rfl⟩, ⟨.refl _, trivial⟩, ⟨.refl _, trivial⟩, trivial⟩, ⟨⟨_, rfl, .inr (ob_rows (by rfl) (by first | (rw [show rd4 b p e = Go.Vh.gT b (rd3 b p e).2.1 from rdT_0 (e := (rd3 b p e).2.2) (by assumption)]; (intro j hj; match j, hj with | 0, _ => rfl | 1, _ => rfl | 2, _ => rfl)) | (rw [show rd4 b p e = ([], (rd3 b p e).2.1, (rd3 b p e).2.2) from rdT_1 (e := (rd3 b p e).2.2) (by assumption)]; (intro j hj; match j, hj with | 0, _ => rfl | 1, _ => rfl | 2, _ => rfl)))), trivial⟩, ⟨_, rfl, .inr (ob_rows (by rfl) (by first | (rw [show rd4 b p e = Go.Vh.gT b (rd3 b p e).2.1 from rdT_0 (e := (rd3 b p e).2.2) (by assumption)]; intro j hj; by_cases h5 : j = 5 <;> by_cases h6 : j = 6 <;> by_cases h7 : j = 7 <;> first | (simp [h5, h6, h7, gT]; done) | (exfalso; omega)) | (rw [show rd4 b p e = ([], (rd3 b p e).2.1, (rd3 b p e).2.2) from rdT_1 (e := (rd3 b p e).2.2) (by assumption)]; intro j hj; by_cases h5 : j = 5 <;> by_cases h6 : j = 6 <;> by_cases h7 : j = 7 <;> first | (simp [h5, h6, h7, gT]; done) | (exfalso; omega)))), trivial⟩, ⟨_, rfl, .inl rfl, trivial⟩, ⟨_, rfl, .inl rfl, ⟨rfl, rfl, rfl, rfl, trivial⟩⟩, trivial⟩⟩⟩
         ·have h11 := of_decide_eq_false h11
          refine HT.skip ?_
          exact ⟨by first | rfl | omega | (simp; done) | (simp; omega), ⟨⟨⟨.refl _, rfl⟩, ⟨.refl _, rfl⟩, ⟨.refl _, trivial⟩, ⟨.refl _, trivial⟩, trivial⟩, ⟨⟨_, rfl, .inr (ob_rows (by rfl) (by first | (rw [show rd4 b p e = Go.Vh.gT b (rd3 b p e).2.1 from rdT_0 (e := (rd3 b p e).2.2) (by assumption)]; (intro j hj; match j, hj with | 0, _ => rfl | 1, _ => rfl | 2, _ => rfl)) | (rw [show rd4 b p e = ([], (rd3 b p e).2.1, (rd3 b p e).2.2) from rdT_1 (e := (rd3 b p e).2.2) (by assumption)]; (intro j hj; match j, hj with | 0, _ => rfl | 1, _ => rfl | 2, _ => rfl)))), trivial⟩, ⟨_, rfl, .inr (ob_rows (by rfl) (by first | (rw [show rd4 b p e = Go.Vh.gT b (rd3 b p e).2.1 from rdT_0 (e := (rd3 b p e).2.2) (by assumption)]; intro j hj; by_cases h5 : j = 5 <;> by_cases h6 : j = 6 <;> by_cases h7 : j = 7 <;> first | (simp [h5, h6, h7, gT]; done) | (exfalso; omega)) | (rw [show rd4 b p e = ([], (rd3 b p e).2.1, (rd3 b p e).2.2) from rdT_1 (e := (rd3 b p e).2.2) (by assumption)]; intro j hj; by_cases h5 : j = 5 <;> by_cases h6 : j = 6 <;> by_cases h7 : j = 7 <;> first | (simp [h5, h6, h7, gT]; done) | (exfalso; omega)))), trivial⟩, ⟨_, rfl, .inl rfl, trivial⟩, ⟨_, rfl, .inl rfl, ⟨rfl, rfl, rfl, rfl, trivial⟩⟩, trivial⟩⟩⟩
        ·refine HT.region S_rtext_4_ok ?_
         refine So.q rfl rfl (V.addI rfl rfl (by omega) ?_)
         refine So.q rfl rfl (V.mv (v := .p (.v (.int .i64 _))) rfl ?_)
         refine So.e ?_
         show HT _ _ _ _ _
         refine HT.seq ?_
         refine HT.region S_rtext_4_ok ?_
         refine So.q rfl rfl (V.bin (a := (.v (.int .i64 _))) (b := (.v (.int .i64 _))) (r := .v (.bool _)) rfl rfl rfl trivial ?_)
         refine So.e ?_
         show HT _ _ _ _ _
         refine HT.seq ?_
         refine R.cond rfl rfl (fun h13 => ?_) (fun h13 => ?_)
         ·have h13 := of_decide_eq_true h13
          exfalso; omega
         ·have h13 := of_decide_eq_false h13
          refine HT.exit ?_
          exact ret_ok (sg [(1, 1), (2, 2), (4, 4)]) h rfl rfl rfl ⟨trivial, trivial, trivial, trivial⟩ trivial rfl ⟨trivial, ⟨⟨_, rfl, .inr (ob_rows (by first | rfl | ((try dsimp only); (first | with_reducible rfl | (intro j hj; rfl)))) (by first | rfl | ((try dsimp only); (first | with_reducible rfl | (intro j hj; rfl))))), trivial⟩, ⟨_, rfl, .inr (ob_rows (by first | rfl | ((try dsimp only); (first | with_reducible rfl | (intro j hj; rfl)))) (by first | rfl | ((try dsimp only); (first | with_reducible rfl | (intro j hj; rfl))))), trivial⟩, ⟨_, rfl, .inr (ob_rows (by first | rfl | ((try dsimp only); (first | with_reducible rfl | (intro j hj; rfl)))) (by first | rfl | ((try dsimp only); (first | with_reducible rfl | (intro j hj; rfl))))), trivial⟩, trivial⟩⟩
       ·have h10 := of_decide_eq_false h10
        exfalso; omega
     ·have h7 := of_decide_eq_false h7
      exfalso; omega
   ·have h4 := of_decide_eq_false h4
    exfalso; omega
 ·have h1 := of_decide_eq_false h1
  exfalso; omega
end Go.Vh

set_option linter.unusedVariables false
set_option linter.unusedSimpArgs false
namespace Go.Vh
open Go Go.Vc Go.Proofs Go.Vw
def fgetSp : Sp := ⟨[], mkE (α := (List UInt8)) (fun b => [.p (.bs (b))]) (fun b => []) (fun b => True) (fun b => [.agg 8 (fun j => ([.bs (gmG b), .v (.int .i64 (gmP b)), .v (.int .i64 (gmF b)), .v (.int .i64 (gmK b)), .bs (gmB b), .bs (gmS b), .bs (gmC b), .bs (gmM b)] : List PV).getD j (.v undef)), .p (.v (.int .i64 ((gmE b))))]) (fun b => [])⟩
def S_fget : FuncId → Option Sp := fun f => if f = 34 then some rtext_4Sp else if f = 32 then some rplaceSp else if f = 33 then some frnumSp else if f = 35 then some rendSp else if f = 24 then some fmsgSp else none
theorem S_fget_ok : ∀ f s, S_fget f = some s → FOK Tryd.prog gl f s := fun f s h => by
 unfold S_fget at h
 split at h
 ·rename_i e; cases h; subst e; exact rtext_4_ok
 split at h
 ·rename_i e; cases h; subst e; exact rplace_ok
 split at h
 ·rename_i e; cases h; subst e; exact frnum_ok
 split at h
 ·rename_i e; cases h; subst e; exact rend_ok
 split at h
 ·rename_i e; cases h; subst e; exact fmsg_ok
 cases h
theorem S_fget_det : ∀ f s, S_fget f = some s → SpDet s.sp := fun f s h => by
 unfold S_fget at h
 split at h
 ·cases h; exact mkE_det _ _ _ _ _
 split at h
 ·cases h; exact mkE_det _ _ _ _ _
 split at h
 ·cases h; exact mkE_det _ _ _ _ _
 split at h
 ·cases h; exact mkE_det _ _ _ _ _
 split at h
 ·cases h; exact mkE_det _ _ _ _ _
 cases h
def S_fget_1 : FuncId → Option Sp := fun f => if f = 34 then some rtext_bSp else none
theorem S_fget_1_ok : ∀ f s, S_fget_1 f = some s → FOK Tryd.prog gl f s := fun f s h => by
 unfold S_fget_1 at h
 split at h
 ·rename_i e; cases h; subst e; exact rtext_b_ok
 cases h
set_option maxHeartbeats 1000000 in
set_option maxRecDepth 20000 in
theorem fget_ok : FOK Tryd.prog gl 20 fgetSp := by
 refine FOK.ofEC (tyOf_ok Tryd.prog) (rvs := [.cell 2 26, .tmp 3]) (nt := 63) Tryd.func20 rfl rfl rfl rfl (by decide) 1 (fun _ => rfl) (by decide) (fun _ => ⟨trivial, trivial⟩) ?_
 rintro b kk hlen hpre h
 have hl0 : (b).length ≤ 9223372036854775807 := hlen.1
 replace hpre : True := hpre
 show HT (cx Tryd.prog 63 (tyOf Tryd.prog) gl []) _ [(0, .p (.bs (b)))] [] _
 refine HT.seq ?_
 refine HT.region S_fget_ok ?_
 refine So.n (lk rfl) (A.alloc 1 1 ty26 rfl trivial (f := fun j => ([.v (.slice none 0 0), .v (.int .i64 0), .v (.int .i64 0), .v (.int .i64 0), .v (.slice none 0 0), .v (.slice none 0 0), .v (.slice none 0 0), .v (.slice none 0 0)] : List PV).getD j (.v undef)) (fun j hj => by match j, hj with | 0, _ => rfl | 1, _ => rfl | 2, _ => rfl | 3, _ => rfl | 4, _ => rfl | 5, _ => rfl | 6, _ => rfl | 7, _ => rfl) ?_)
 refine So.q rfl rfl (V.as (v := .p (.v (.int .i64 (0)))) rfl ?_)
 refine So.e ?_
 show HT _ _ _ _ _
 refine HT.seq ?_
 refine HT.region S_fget_ok ?_
 refine So.n (lk rfl) (A.alloc 2 1 ty26 rfl trivial (f := fun j => ([.v (.slice none 0 0), .v (.int .i64 0), .v (.int .i64 0), .v (.int .i64 0), .v (.slice none 0 0), .v (.slice none 0 0), .v (.slice none 0 0), .v (.slice none 0 0)] : List PV).getD j (.v undef)) (fun j hj => by match j, hj with | 0, _ => rfl | 1, _ => rfl | 2, _ => rfl | 3, _ => rfl | 4, _ => rfl | 5, _ => rfl | 6, _ => rfl | 7, _ => rfl) ?_)
 refine So.e ?_
 show HT _ _ _ _ _
 refine HT.seq ?_
 refine HT.region S_fget_ok ?_
 refine So.n (lk rfl) (A.bldS ty63 rfl rfl trivial rfl (f := fun j => ([.v (.slice none 0 0), .v (.int .i64 0), .v (.int .i64 0)] : List PV).getD j (.v undef)) (by exact allP_spec (P := fun j => _ = _) ⟨⟨⟨trivial, rfl⟩, rfl⟩, rfl⟩) ?_)
 refine So.n (lk rfl) (A.boxAg 3 1 (n := 3) rfl (by intro j hj; first | rfl | trivial | (match j, hj with | 0, _ => (first | trivial | rfl) | 1, _ => (first | trivial | rfl) | 2, _ => (first | trivial | rfl)) | (split <;> first | rfl | trivial | (split <;> first | rfl | trivial))) rfl trivial ?_)
 refine So.q rfl rfl (V.as (v := .ptr 3 0) rfl ?_)
 refine So.e ?_
 show HT _ _ _ _ _
 refine HT.seq ?_
 refine HT.region S_fget_ok ?_
 refine So.q rfl rfl (V.mv (v := .p (.bs _)) rfl ?_)
 refine So.n (lk rfl) (A.bldS ty63 rfl rfl ⟨by first | exact trivial | exact rfl | (intro j hj; first | trivial | rfl | (simp [BV.one]; done)), trivial⟩ rfl (f := fun j => ([.bs b, .v (.int .i64 0), .v (.int .i64 0)] : List PV).getD j (.v undef)) (by exact allP_spec (P := fun j => _ = _) ⟨⟨⟨trivial, rfl⟩, rfl⟩, rfl⟩) ?_)
 refine So.n (lk rfl) (A.boxAg 4 1 (n := 3) rfl (by intro j hj; first | rfl | trivial | (match j, hj with | 0, _ => (first | trivial | rfl) | 1, _ => (first | trivial | rfl) | 2, _ => (first | trivial | rfl)) | (split <;> first | rfl | trivial | (split <;> first | rfl | trivial))) rfl trivial ?_)
 refine So.q rfl rfl (V.as (v := .ptr 4 0) rfl ?_)
 refine So.e ?_
 show HT _ _ _ _ _
 refine HT.seq ?_
 refine R.tell [] [(2, ⟨26, 1, 8, true, .rows (fun j => if j = 5 then .bs [] else if j = 6 then .bs [] else if j = 7 then .bs [] else (fun j => ([.bs [], .v (.int .i64 0), .v (.int .i64 0), .v (.int .i64 0), .bs [], .v undef, .v undef, .v undef] : List PV).getD j (.v undef)) j)⟩), (3, ⟨63, 1, 3, true, .rows (fun j => if j = 0 then .bs [] else (fun _ => .v (.int .i64 0)) j)⟩)] [2, 3, 4, 5, 6] [1, 4] (fr0 := [(2, .ptr 1 0), (3, .p (.v (.int .i64 _))), (4, .ptr 2 0), (5, .ptr 3 0), (6, .ptr 4 0)]) (O0 := [(1, ⟨_, _, _, _, .rows _⟩), (4, ⟨_, _, _, _, .rows _⟩)]) rfl rfl ⟨⟨⟨.refl _, rfl⟩, ⟨.refl _, trivial⟩, ⟨.refl _, rfl⟩, ⟨.refl _, rfl⟩, ⟨.refl _, rfl⟩, trivial⟩, ⟨⟨_, rfl, .inr (ob_rowsL (by intro j hj; match j, hj with | 0, _ => exact le_nil rfl | 1, _ => exact .refl _ | 2, _ => exact .refl _ | 3, _ => exact .refl _ | 4, _ => exact le_nil rfl | 5, _ => exact le_nil rfl | 6, _ => exact le_nil rfl | 7, _ => exact le_nil rfl)), trivial⟩, ⟨_, rfl, .inr (ob_rowsL (by intro j hj; match j, hj with | 0, _ => exact le_nil rfl | 1, _ => exact .refl _ | 2, _ => exact .refl _)), trivial⟩, ⟨_, rfl, .inl rfl, trivial⟩, ⟨_, rfl, .inl rfl, trivial⟩, trivial⟩⟩ ?_
 show HT _ _ _ _ _
 refine HT.region S_fget_ok ?_
 refine So.q rfl rfl (V.mv (v := .ptr 4 0) rfl ?_)
 refine So.q rfl rfl (V.mv (v := .ptr 3 0) rfl ?_)
 refine So.q rfl rfl (V.ncPtr rfl ?_)
 refine So.q rfl rfl (V.faPtr ty63 rfl ty22 (lk rfl) rfl rfl (lk rfl) ?_)
 refine So.q rfl rfl (V.faPtr ty26 rfl ty22 (lk rfl) rfl rfl (lk rfl) ?_)
 refine So.q rfl rfl (V.faPtr ty26 rfl ty22 (lk rfl) rfl rfl (lk rfl) ?_)
 refine So.q rfl rfl (V.faPtr ty26 rfl ty22 (lk rfl) rfl rfl (lk rfl) ?_)
 refine So.n (lk rfl) (A.bsl 5 ty83 ty67 rfl (lk rfl) (lk rfl) (fun _ => rfl) rfl rfl trivial ⟨trivial, trivial, trivial, trivial, trivial⟩ rfl (N := 4) rfl (c := .cells [.ptr 3 0, .ptr 2 5, .ptr 2 6, .ptr 2 7]) rfl ?_)
 refine So.n (lk rfl) (A.call [.ptr 1 _, .own 3 _ _] [(1, ⟨_, _, _, _, .rows _⟩), (2, ⟨_, _, _, _, .rows _⟩), (4, ⟨_, _, _, _, .rows _⟩), (3, ⟨_, _, _, _, .cells [.ptr 2 0, .ptr 4 5, .ptr 4 6, .ptr 4 7]⟩)] (sg [(1, 4), (3, 5), (2, 3), (4, 2)]) 6 rfl rfl rfl rfl ⟨rfl, rfl, rfl, rfl, trivial⟩ rfl ⟨trivial, trivial, trivial, ⟨rfl, rfl, rfl, rfl, trivial⟩, trivial⟩ ⟨rfl, rfl, trivial⟩ trivial rfl (b, 0, 0, fun _ => .v (.int .i64 0), fun j => ([.bs [], .v (.int .i64 0), .v (.int .i64 0), .v (.int .i64 0), .bs [], .v undef, .v undef, .v undef] : List PV).getD j (.v undef)) ⟨.refl _, .refl _, trivial⟩ ⟨⟨_, rfl, .inl rfl, trivial⟩, ⟨_, rfl, .inl rfl, trivial⟩, ⟨_, rfl, .inl rfl, trivial⟩, ⟨_, rfl, .inl rfl, ⟨rfl, rfl, rfl, rfl, trivial⟩⟩, trivial⟩ (by trivial) (Φ := fun _ => True) (fun _ _ => trivial) ⟨⟨_, _, rfl, rfl, rfl, Nat.le_refl _⟩, ⟨_, _, rfl, rfl, rfl, Nat.le_refl _⟩, ⟨_, _, rfl, rfl, rfl, Nat.le_refl _⟩, trivial⟩ (.inl rfl) rfl (v := .tup 0 _) rfl (O' := (4, ⟨_, _, _, _, .rows _⟩) :: (3, ⟨_, _, _, _, .rows _⟩) :: (2, ⟨_, _, _, _, .rows _⟩) :: _) rfl (fun h1 => ?_))
 refine So.e ?_
 show HT _ _ _ _ _
 refine HT.seq ?_
 refine HT.seq ?_
 refine R.tell [] [(2, ⟨26, 1, 8, true, .rows (fun j => ([.bs [], .v (.int .i64 0), .v (.int .i64 0), .v (.int .i64 0), .bs [], .bs ((rd2 b 0 0).1), .bs ((rd3 b 0 0).1), .bs ((rd4 b 0 0).1)] : List PV).getD j (.v undef))⟩), (3, ⟨63, 1, 3, true, .rows (fun j => ([.bs ((rdT b 0 0).1), .v (.int .i64 0), .v (.int .i64 0)] : List PV).getD j (.v undef))⟩), (4, ⟨63, 1, 3, true, .rows (fun j => ([.bs b, .v (.int .i64 (rd4 b 0 0).2.1), .v (.int .i64 (rd4 b 0 0).2.2)] : List PV).getD j (.v undef))⟩)] [2, 3, 4, 5, 6] [1] (fr0 := [(2, .ptr 1 0), (3, .p (.v (.int .i64 _))), (4, .ptr 2 0), (5, .ptr 3 0), (6, .ptr 4 0)]) (O0 := [(1, ⟨_, _, _, _, .rows _⟩)]) rfl rfl ⟨⟨⟨.refl _, rfl⟩, ⟨.refl _, trivial⟩, ⟨.refl _, rfl⟩, ⟨.refl _, rfl⟩, ⟨.refl _, rfl⟩, trivial⟩, ⟨⟨_, rfl, .inr (ob_rowsL (by intro j hj; match j, hj with | 0, _ => exact .refl _ | 1, _ => exact .refl _ | 2, _ => exact .refl _ | 3, _ => exact .refl _ | 4, _ => exact .refl _ | 5, _ => exact .refl _ | 6, _ => exact .refl _ | 7, _ => exact .refl _)), trivial⟩, ⟨_, rfl, .inr (ob_rowsL (by intro j hj; match j, hj with | 0, _ => exact .refl _ | 1, _ => exact .refl _ | 2, _ => exact .refl _)), trivial⟩, ⟨_, rfl, .inr (ob_rowsL (by intro j hj; match j, hj with | 0, _ => exact .refl _ | 1, _ => exact .refl _ | 2, _ => exact .refl _)), trivial⟩, ⟨_, rfl, .inl rfl, trivial⟩, trivial⟩⟩ ?_
 show HT _ _ _ _ _
 refine HT.region S_fget_ok ?_
 refine So.q rfl rfl (V.mv (v := .ptr 4 0) rfl ?_)
 refine So.q rfl rfl (V.ncPtr rfl ?_)
 refine So.q rfl rfl (V.faPtr ty63 rfl ty29 (lk rfl) rfl rfl (lk rfl) ?_)
 refine So.q rfl rfl (V.ldPtr ty29 rfl rfl rfl (lk rfl) (v := .p (.v (.int .i64 _))) rfl ?_)
 refine So.q rfl rfl (V.bin (a := (.v (.int .i64 _))) (b := (.v (.int .i64 (0)))) (r := .v (.bool _)) rfl rfl rfl trivial ?_)
 refine So.e ?_
 show HT _ _ _ _ _
 refine R.cond rfl rfl (fun h2 => ?_) (fun h2 => ?_)
 ·have h2 := of_decide_eq_false (bnT h2)
  refine HT.seq ?_
  refine HT.planS S_fget_ok S_fget_det mixed [1, 2, 3, 4, 6] [⟨[1, 2, 3, 4], 0, [1, 2, 3, 4]⟩, ⟨[1, 2, 3, 4], 5, [1, 2, 3, 4]⟩] (by kernel_rfl) ?_
  have hg : gmE b = (rd4 b 0 0).2.2 := gmE_1 (by assumption)
  have hg0 : ¬ gmE b = 0 := by rw [hg]; assumption
  refine Pl.lk ?_
  refine Si.n rfl (lk rfl) (V.mv (v := .ptr 4 0) rfl ?_)
  refine Si.n rfl (lk rfl) (V.ncPtr rfl ?_)
  refine Si.n rfl (lk rfl) (V.faPtr ty63 rfl ty29 (lk rfl) rfl rfl (lk rfl) ?_)
  refine Si.n rfl (lk rfl) (V.ldPtr ty29 rfl rfl rfl (lk rfl) (v := .p (.v (.int .i64 _))) rfl ?_)
  refine Si.e ?_
  refine ⟨flEq_nil, fun ff => ?_⟩
  refine Lo.n rfl (lk rfl) (A.bldS ty26 rfl rfl trivial rfl (f := fun j => ([.v (.slice none 0 0), .v (.int .i64 0), .v (.int .i64 0), .v (.int .i64 0), .v (.slice none 0 0), .v (.slice none 0 0), .v (.slice none 0 0), .v (.slice none 0 0)] : List PV).getD j (.v undef)) (by exact allP_spec (P := fun j => _ = _) ⟨⟨⟨⟨⟨⟨⟨⟨trivial, rfl⟩, rfl⟩, rfl⟩, rfl⟩, rfl⟩, rfl⟩, rfl⟩, rfl⟩) ?_)
  refine ⟨_, fun ff => ff, ap0d, rfl, FG.id, ?_⟩
  show planA _ _ _ _ _ [(1, .ptr 4 0), (2, .ptr 4 0), (3, .ptr 4 2), (4, .p (.v (.int .i64 _)))] _ _ _
  refine Pl.lk ?_
  refine Si.n rfl (lk rfl) (V.mv (v := .ptr 4 0) rfl ?_)
  refine Si.n rfl (lk rfl) (V.ncPtr rfl ?_)
  refine Si.n rfl (lk rfl) (V.faPtr ty63 rfl ty29 (lk rfl) rfl rfl (lk rfl) ?_)
  refine Si.n rfl (lk rfl) (V.ldPtr ty29 rfl rfl rfl (lk rfl) (v := .p (.v (.int .i64 _))) rfl ?_)
  refine Si.e ?_
  refine ⟨(flEq_cons rfl (flEq_cons rfl (flEq_cons rfl (flEq_cons rfl flEq_nil)))), fun ff => ?_⟩
  refine Lo.s rfl (A.stoAg ty26 rfl (n := 8) rfl (by decide) (by intro j hj; first | rfl | trivial | (match j, hj with | 0, _ => (first | trivial | rfl) | 1, _ => (first | trivial | rfl) | 2, _ => (first | trivial | rfl) | 3, _ => (first | trivial | rfl) | 4, _ => (first | trivial | rfl) | 5, _ => (first | trivial | rfl) | 6, _ => (first | trivial | rfl) | 7, _ => (first | trivial | rfl))) rfl rfl rfl ?_)
  refine ⟨_, fun ff => ff, ap0, rfl, FG.id, ?_⟩
  show planA _ _ _ _ _ [(1, .ptr 4 0), (2, .ptr 4 0), (3, .ptr 4 2), (4, .p (.v (.int .i64 _)))] _ _ _
  refine Pl.e ?_
  refine Si.n rfl (lk rfl) (V.mv (v := .ptr 4 0) rfl ?_)
  refine Si.n rfl (lk rfl) (V.ncPtr rfl ?_)
  refine Si.n rfl (lk rfl) (V.faPtr ty63 rfl ty29 (lk rfl) rfl rfl (lk rfl) ?_)
  refine Si.n rfl (lk rfl) (V.ldPtr ty29 rfl rfl rfl (lk rfl) (v := .p (.v (.int .i64 _))) rfl ?_)
  refine Si.n rfl (lk rfl) (V.as (v := .p (.v (.int .i64 _))) rfl ?_)
  refine Si.e ?_
  refine ⟨(flEq_cons rfl (flEq_cons rfl (flEq_cons rfl (flEq_cons rfl flEq_nil)))), ?_⟩
  show HT _ _ _ _ _
  refine HT.ret ?_
  exact retC_ok (sg []) [(2, .ptr 1 0), (3, .p (.v (.int .i64 ((gmE b)))))] [(1, ⟨26, 1, 8, true, .rows (fun j => ([.bs (gmG b), .v (.int .i64 (gmP b)), .v (.int .i64 (gmF b)), .v (.int .i64 (gmK b)), .bs (gmB b), .bs (gmS b), .bs (gmC b), .bs (gmM b)] : List PV).getD j (.v undef))⟩)] h ⟨⟨⟨.refl _, rfl⟩, ⟨le_int (by first | with_reducible rfl | exact hg.symm | exact hg0.symm | (rw [gmE_3 (by assumption) hgI]; rfl) | (rw [gmE_2 (by assumption) (by unfold gmI; assumption)]; rfl)), trivial⟩, trivial⟩, ⟨⟨_, rfl, .inr (ob_rowsL (by intro j hj; match j, hj with | 0, _ => (first | exact gm_0 (b := b) hg0 0 (by decide) | exact gm_1 (b := b) hg0 0 (by decide)) | 1, _ => (first | exact gm_0 (b := b) hg0 1 (by decide) | exact gm_1 (b := b) hg0 1 (by decide)) | 2, _ => (first | exact gm_0 (b := b) hg0 2 (by decide) | exact gm_1 (b := b) hg0 2 (by decide)) | 3, _ => (first | exact gm_0 (b := b) hg0 3 (by decide) | exact gm_1 (b := b) hg0 3 (by decide)) | 4, _ => (first | exact gm_0 (b := b) hg0 4 (by decide) | exact gm_1 (b := b) hg0 4 (by decide)) | 5, _ => (first | exact gm_0 (b := b) hg0 5 (by decide) | exact gm_1 (b := b) hg0 5 (by decide)) | 6, _ => (first | exact gm_0 (b := b) hg0 6 (by decide) | exact gm_1 (b := b) hg0 6 (by decide)) | 7, _ => (first | exact gm_0 (b := b) hg0 7 (by decide) | exact gm_1 (b := b) hg0 7 (by decide)))), trivial⟩, trivial⟩⟩ ⟨rvA_cell ty26 rfl rfl rfl rfl (Nat.le_refl _) (le_agg (fun j _ => by first | rfl | (dsimp only; rw [Nat.zero_add]))), .refl _, trivial⟩ trivial rfl trivial ⟨trivial, trivial, trivial⟩ rfl
 ·have h2 := of_decide_eq_true (bnF h2)
  refine HT.skip ?_
  show HT _ _ _ _ _
  refine HT.seq ?_
  refine HT.region S_fget_ok ?_
  refine So.q rfl rfl (V.mv (v := .ptr 3 0) rfl ?_)
  refine So.n (lk rfl) (A.call [.ptr 1 _] [(1, ⟨_, _, _, _, .rows _⟩)] (sg [(1, 3)]) 5 rfl rfl rfl rfl ⟨rfl, trivial⟩ rfl ⟨trivial, trivial⟩ ⟨rfl, trivial⟩ trivial rfl ((rdT b 0 0).1, 0, 0) ⟨.refl _, trivial⟩ ⟨⟨_, rfl, .inl rfl, trivial⟩, trivial⟩ (by trivial) (Φ := fun _ => True) (fun _ _ => trivial) ⟨⟨_, _, rfl, rfl, rfl, Nat.le_refl _⟩, trivial⟩ (.inl rfl) rfl (v := .agg 3 _) rfl (O' := (3, ⟨_, _, _, _, .rows _⟩) :: _) rfl (fun h3 => ?_))
  refine So.n (lk rfl) (A.alloc 5 1 ty57 rfl trivial (f := fun j => ([.v (.slice none 0 0), .v (.int .i64 0), .v (.int .i64 0)] : List PV).getD j (.v undef)) (fun j hj => by match j, hj with | 0, _ => rfl | 1, _ => rfl | 2, _ => rfl) ?_)
  refine So.s (A.stoAg ty57 rfl (n := 3) rfl (by decide) (by intro j hj; first | rfl | trivial | (match j, hj with | 0, _ => (first | trivial | rfl) | 1, _ => (first | trivial | rfl) | 2, _ => (first | trivial | rfl))) rfl rfl rfl ?_)
  refine So.e ?_
  show HT _ _ _ _ _
  refine HT.seq ?_
  refine HT.planS S_fget_ok S_fget_det mixed [] [⟨[0, 1, 2, 3, 4, 5, 6], 7, [0, 1, 2, 3, 4, 5]⟩, ⟨[0, 1, 2, 3, 4, 5], 8, []⟩, ⟨[9], 10, []⟩] (by kernel_rfl) ?_
  refine Pl.lk ?_
  refine Si.n rfl (lk rfl) (V.faPtr ty57 rfl ty22 (lk rfl) rfl rfl (lk rfl) ?_)
  refine Si.n rfl (lk rfl) (V.ldPtr ty22 rfl rfl rfl (lk rfl) (v := .p (.bs _)) rfl ?_)
  refine Si.n rfl (lk rfl) (V.faPtr ty57 rfl ty2 (lk rfl) rfl rfl (lk rfl) ?_)
  refine Si.n rfl (lk rfl) (V.ldPtr ty2 rfl rfl rfl (lk rfl) (v := .p (.v (.int .i64 _))) rfl ?_)
  refine Si.n rfl (lk rfl) (V.faPtr ty57 rfl ty3 (lk rfl) rfl rfl (lk rfl) ?_)
  refine Si.n rfl (lk rfl) (V.ldPtr ty3 rfl rfl rfl (lk rfl) (v := .p (.v (.int .i64 _))) rfl ?_)
  refine Si.n rfl (lk rfl) (V.mv (v := .ptr 3 0) rfl ?_)
  refine Si.e ?_
  refine ⟨flEq_nil, fun ff => ?_⟩
  refine Lo.n rfl (lk rfl) (A.call [.ptr 1 _, .p (.v (.int .i64 _))] [(1, ⟨_, _, _, _, .rows _⟩)] (sg [(1, 3)]) 6 rfl rfl rfl rfl ⟨rfl, trivial⟩ rfl ⟨trivial, trivial⟩ ⟨rfl, trivial, trivial⟩ trivial rfl ((rdT b 0 0).1, (pl3 (rdT b 0 0).1 0 0).2.1, (pl3 (rdT b 0 0).1 0 0).2.2, 1) ⟨.refl _, .refl _, trivial⟩ ⟨⟨_, rfl, .inl rfl, trivial⟩, trivial⟩ (by trivial) (Φ := fun _ => True) (fun _ _ => trivial) ⟨⟨_, _, rfl, rfl, rfl, Nat.le_refl _⟩, trivial⟩ (.inl rfl) rfl (v := .p (.v (.int .i64 _))) rfl (O' := (3, ⟨_, _, _, _, .rows _⟩) :: _) rfl (fun h4 => ?_))
  refine ⟨_, fun ff => ff, ap0d, rfl, FG.id, ?_⟩
  show planA _ _ _ _ _ [(0, .ptr 5 0), (1, .p (.bs _)), (2, .ptr 5 1), (3, .p (.v (.int .i64 _))), (4, .ptr 5 2), (5, .p (.v (.int .i64 _)))] _ _ _
  refine Pl.l0 ?_
  refine Si.n rfl (lk rfl) (V.faPtr ty57 rfl ty22 (lk rfl) rfl rfl (lk rfl) ?_)
  refine Si.n rfl (lk rfl) (V.ldPtr ty22 rfl rfl rfl (lk rfl) (v := .p (.bs _)) rfl ?_)
  refine Si.n rfl (lk rfl) (V.faPtr ty57 rfl ty2 (lk rfl) rfl rfl (lk rfl) ?_)
  refine Si.n rfl (lk rfl) (V.ldPtr ty2 rfl rfl rfl (lk rfl) (v := .p (.v (.int .i64 _))) rfl ?_)
  refine Si.n rfl (lk rfl) (V.faPtr ty57 rfl ty3 (lk rfl) rfl rfl (lk rfl) ?_)
  refine Si.n rfl (lk rfl) (V.ldPtr ty3 rfl rfl rfl (lk rfl) (v := .p (.v (.int .i64 _))) rfl ?_)
  refine Si.e ?_
  refine ⟨(flEq_cons rfl (flEq_cons rfl (flEq_cons rfl (flEq_cons rfl (flEq_cons rfl (flEq_cons rfl flEq_nil)))))), ?_⟩
  refine Lo.n rfl (lk rfl) (A.bldS ty24 rfl rfl ⟨by first | exact trivial | exact rfl | (intro j hj; first | trivial | rfl | (simp [BV.one]; done)), by first | exact trivial | exact rfl | (intro j hj; first | trivial | rfl | (simp [BV.one]; done)), by first | exact trivial | exact rfl | (intro j hj; first | trivial | rfl | (simp [BV.one]; done)), by first | exact trivial | exact rfl | (intro j hj; first | trivial | rfl | (simp [BV.one]; done)), trivial⟩ rfl (f := fun j => ([.bs ((pl1 (rdT b 0 0).1 0 0).1), .v (.int .i64 ((pl2 (rdT b 0 0).1 0 0).1)), .v (.int .i64 ((pl3 (rdT b 0 0).1 0 0).1)), .v (.int .i64 ((gm4 b).1)), .v (.slice none 0 0)] : List PV).getD j (.v undef)) (by exact allP_spec (P := fun j => _ = _) ⟨⟨⟨⟨⟨trivial, rfl⟩, rfl⟩, rfl⟩, rfl⟩, rfl⟩) ?_)
  refine Pl.l0 ?_
  refine Si.n rfl (lk rfl) (V.faPtr ty26 rfl ty24 (lk rfl) rfl rfl (lk rfl) ?_)
  refine Si.e ?_
  refine ⟨flEq_nil, ?_⟩
  refine Lo.s rfl (A.stoAgP ty24 rfl (n := 5) rfl (by decide) (by intro j hj; first | rfl | trivial | (match j, hj with | 0, _ => (first | trivial | rfl) | 1, _ => (first | trivial | rfl) | 2, _ => (first | trivial | rfl) | 3, _ => (first | trivial | rfl) | 4, _ => (first | trivial | rfl))) rfl (lk rfl) rfl ?_)
  refine Pl.e ?_
  refine Si.e ?_
  refine ⟨flEq_nil, ?_⟩
  show HT _ _ _ _ _
  refine HT.seq ?_
  refine R.tell [] [(2, ⟨26, 1, 8, true, .rows (fun j => if j = 4 then .bs [] else (fun j => ([.bs ((pl1 (rdT b 0 0).1 0 0).1), .v (.int .i64 ((pl2 (rdT b 0 0).1 0 0).1)), .v (.int .i64 ((pl3 (rdT b 0 0).1 0 0).1)), .v (.int .i64 ((gm4 b).1)), .v (.int .i64 0), .bs ((rd2 b 0 0).1), .bs ((rd3 b 0 0).1), .bs ((rd4 b 0 0).1)] : List PV).getD j (.v undef)) j)⟩)] [2, 3, 4, 5, 6] [1, 3, 4] (fr0 := [(2, .ptr 1 0), (3, .p (.v (.int .i64 _))), (4, .ptr 2 0), (5, .ptr 3 0), (6, .ptr 4 0)]) (O0 := [(1, ⟨_, _, _, _, .rows _⟩), (3, ⟨_, _, _, _, .rows _⟩), (4, ⟨_, _, _, _, .rows _⟩)]) rfl rfl ⟨⟨⟨.refl _, rfl⟩, ⟨.refl _, trivial⟩, ⟨.refl _, rfl⟩, ⟨.refl _, rfl⟩, ⟨.refl _, rfl⟩, trivial⟩, ⟨⟨_, rfl, .inr (ob_rowsL (by intro j hj; match j, hj with | 0, _ => exact .refl _ | 1, _ => exact .refl _ | 2, _ => exact .refl _ | 3, _ => exact .refl _ | 4, _ => exact le_nil rfl | 5, _ => exact .refl _ | 6, _ => exact .refl _ | 7, _ => exact .refl _)), trivial⟩, ⟨_, rfl, .inl rfl, trivial⟩, ⟨_, rfl, .inl rfl, trivial⟩, ⟨_, rfl, .inl rfl, trivial⟩, trivial⟩⟩ ?_
  show HT _ _ _ _ _
  refine HT.region S_fget_1_ok ?_
  refine So.q rfl rfl (V.mv (v := .ptr 3 0) rfl ?_)
  refine So.q rfl rfl (V.faPtr ty26 rfl ty24 (lk rfl) rfl rfl (lk rfl) ?_)
  refine So.q rfl rfl (V.faPtr ty24 rfl ty22 (lk rfl) rfl rfl (lk rfl) ?_)
  refine So.n (lk rfl) (A.bsl 5 ty83 ty67 rfl (lk rfl) (lk rfl) (fun _ => rfl) rfl rfl trivial ⟨trivial, trivial⟩ rfl (N := 1) rfl (c := .cells [.ptr 2 4]) rfl ?_)
  refine So.n (lk rfl) (A.call [.ptr 1 _, .own 3 _ _] [(1, ⟨_, _, _, _, .rows _⟩), (2, ⟨_, _, _, _, .rows _⟩), (3, ⟨_, _, _, _, .cells [.ptr 2 4]⟩)] (sg [(1, 3), (3, 5), (2, 2)]) 6 rfl rfl rfl rfl ⟨rfl, rfl, rfl, trivial⟩ rfl ⟨trivial, trivial, ⟨rfl, trivial⟩, trivial⟩ ⟨rfl, rfl, trivial⟩ trivial rfl ((rdT b 0 0).1, (gm4 b).2.1, (gm4 b).2.2, fun j => ([.bs ((pl1 (rdT b 0 0).1 0 0).1), .v (.int .i64 ((pl2 (rdT b 0 0).1 0 0).1)), .v (.int .i64 ((pl3 (rdT b 0 0).1 0 0).1)), .v (.int .i64 ((gm4 b).1)), .v (.int .i64 0), .bs ((rd2 b 0 0).1), .bs ((rd3 b 0 0).1), .bs ((rd4 b 0 0).1)] : List PV).getD j (.v undef)) ⟨.refl _, .refl _, trivial⟩ ⟨⟨_, rfl, .inl rfl, trivial⟩, ⟨_, rfl, .inl rfl, trivial⟩, ⟨_, rfl, .inl rfl, ⟨rfl, trivial⟩⟩, trivial⟩ (by trivial) (Φ := fun _ => True) (fun _ _ => trivial) ⟨⟨_, _, rfl, rfl, rfl, Nat.le_refl _⟩, ⟨_, _, rfl, rfl, rfl, Nat.le_refl _⟩, trivial⟩ (.inl rfl) rfl (v := .tup 0 _) rfl (O' := (3, ⟨_, _, _, _, .rows _⟩) :: (2, ⟨_, _, _, _, .rows _⟩) :: _) rfl (fun h5 => ?_))
  refine So.e ?_
  show HT _ _ _ _ _
  refine HT.seq ?_
  refine R.tell [] [(2, ⟨26, 1, 8, true, .rows (fun j => ([.bs ((pl1 (rdT b 0 0).1 0 0).1), .v (.int .i64 ((pl2 (rdT b 0 0).1 0 0).1)), .v (.int .i64 ((pl3 (rdT b 0 0).1 0 0).1)), .v (.int .i64 ((gm4 b).1)), .bs ((gm5 b).1), .bs ((rd2 b 0 0).1), .bs ((rd3 b 0 0).1), .bs ((rd4 b 0 0).1)] : List PV).getD j (.v undef))⟩)] [2, 3, 4, 5, 6] [1, 3, 4] (fr0 := [(2, .ptr 1 0), (3, .p (.v (.int .i64 _))), (4, .ptr 2 0), (5, .ptr 3 0), (6, .ptr 4 0)]) (O0 := [(1, ⟨_, _, _, _, .rows _⟩), (3, ⟨_, _, _, _, .rows _⟩), (4, ⟨_, _, _, _, .rows _⟩)]) rfl rfl ⟨⟨⟨.refl _, rfl⟩, ⟨.refl _, trivial⟩, ⟨.refl _, rfl⟩, ⟨.refl _, rfl⟩, ⟨.refl _, rfl⟩, trivial⟩, ⟨⟨_, rfl, .inr (ob_rowsL (by intro j hj; match j, hj with | 0, _ => exact .refl _ | 1, _ => exact .refl _ | 2, _ => exact .refl _ | 3, _ => exact .refl _ | 4, _ => exact .refl _ | 5, _ => exact .refl _ | 6, _ => exact .refl _ | 7, _ => exact .refl _)), trivial⟩, ⟨_, rfl, .inl rfl, trivial⟩, ⟨_, rfl, .inl rfl, trivial⟩, ⟨_, rfl, .inl rfl, trivial⟩, trivial⟩⟩ ?_
  show HT _ _ _ _ _
  refine HT.region S_fget_ok ?_
  refine So.q rfl rfl (V.mv (v := .ptr 3 0) rfl ?_)
  refine So.n (lk rfl) (A.call [.ptr 1 _, .p (.v (.bool true))] [(1, ⟨_, _, _, _, .rows _⟩)] (sg [(1, 3)]) 5 rfl rfl rfl rfl ⟨rfl, trivial⟩ rfl ⟨trivial, trivial⟩ ⟨rfl, trivial, trivial⟩ trivial rfl ((rdT b 0 0).1, (gm5 b).2.1, (gm5 b).2.2, _) ⟨.refl _, .refl _, trivial⟩ ⟨⟨_, rfl, .inl rfl, trivial⟩, trivial⟩ (by trivial) (Φ := fun _ => True) (fun _ _ => trivial) ⟨⟨_, _, rfl, rfl, rfl, Nat.le_refl _⟩, trivial⟩ (.inl rfl) rfl (v := .p (.v (.int .i64 _))) rfl (O' := (3, ⟨_, _, _, _, .rows _⟩) :: _) rfl (fun h6 => ?_))
  refine So.q rfl rfl (V.as (v := .p (.v (.int .i64 _))) rfl ?_)
  refine So.e ?_
  show HT _ _ _ _ _
  refine HT.seq ?_
  refine HT.seq ?_
  refine HT.region S_fget_ok ?_
  refine So.q rfl rfl (V.mv (v := .p (.v (.int .i64 _))) rfl ?_)
  refine So.q rfl rfl (V.bin (a := (.v (.int .i64 _))) (b := (.v (.int .i64 (0)))) (r := .v (.bool _)) rfl rfl rfl trivial ?_)
  refine So.e ?_
  show HT _ _ _ _ _
  refine R.cond rfl rfl (fun h7 => ?_) (fun h7 => ?_)
  ·have h7 := of_decide_eq_true h7
   refine HT.region S_fget_ok ?_
   have hgI : gmI b = 0 := by unfold gmI; assumption
   refine So.q rfl rfl (V.mv (v := .ptr 4 0) rfl ?_)
   refine So.q rfl rfl (V.ldPtrA ty26 rfl rfl rfl rfl (lk rfl) ?_)
   refine So.n (lk rfl) (A.call0 [.agg 8 _] 5 rfl rfl rfl rfl ⟨trivial, trivial⟩ trivial ((pl1 (rdT b 0 0).1 0 0).1, ((pl2 (rdT b 0 0).1 0 0).1), ((pl3 (rdT b 0 0).1 0 0).1), ((gm4 b).1), (gm5 b).1, (rd2 b 0 0).1, (rd3 b 0 0).1, (rd4 b 0 0).1) ⟨le_agg (fun j hj => by match j, hj with | 0, _ => rfl | 1, _ => rfl | 2, _ => rfl | 3, _ => rfl | 4, _ => rfl | 5, _ => rfl | 6, _ => rfl | 7, _ => rfl), trivial⟩ trivial (by trivial) (Φ := fun _ => True) (fun _ _ => trivial) (.inl rfl) (v := .p (.v (.bool _))) rfl (O' := _) rfl (fun h8 => ?_))
   refine So.n (lk rfl) (A.call [.ptr 1 _, .p (.v (.bool _))] [(1, ⟨_, _, _, _, .rows _⟩)] (sg [(1, 4)]) 5 rfl rfl rfl rfl ⟨rfl, trivial⟩ rfl ⟨trivial, trivial⟩ ⟨rfl, trivial, trivial⟩ trivial rfl (b, (rd4 b 0 0).2.1, (rd4 b 0 0).2.2, _) ⟨.refl _, .refl _, trivial⟩ ⟨⟨_, rfl, .inl rfl, trivial⟩, trivial⟩ (by trivial) (Φ := fun _ => True) (fun _ _ => trivial) ⟨⟨_, _, rfl, rfl, rfl, Nat.le_refl _⟩, trivial⟩ (.inl rfl) rfl (v := .p (.v (.int .i64 _))) rfl (O' := (4, ⟨_, _, _, _, .rows _⟩) :: _) rfl (fun h9 => ?_))
   refine So.q rfl rfl (V.as (v := .p (.v (.int .i64 _))) rfl ?_)
   refine So.e ?_
   show HT _ _ _ _ _
   refine HT.seq ?_
   refine HT.seq ?_
   refine HT.region S_fget_ok ?_
   refine So.q rfl rfl (V.mv (v := .p (.v (.int .i64 _))) rfl ?_)
   refine So.q rfl rfl (V.bin (a := (.v (.int .i64 _))) (b := (.v (.int .i64 (0)))) (r := .v (.bool _)) rfl rfl rfl trivial ?_)
   refine So.e ?_
   show HT _ _ _ _ _
   refine R.cond rfl rfl (fun h10 => ?_) (fun h10 => ?_)
   ·have h10 := of_decide_eq_false (bnT h10)
    refine HT.seq ?_
    refine HT.region S_fget_ok ?_
    have hg0 : ¬ gmE b = 0 := by first | (rw [gmE_3 (by assumption) hgI]; unfold gmO; assumption) | (rw [gmE_2 (by assumption) (by unfold gmI; assumption)]; unfold gmI; assumption) | (exfalso; contradiction)
    refine So.n (lk rfl) (A.bldS ty26 rfl rfl trivial rfl (f := fun j => ([.v (.slice none 0 0), .v (.int .i64 0), .v (.int .i64 0), .v (.int .i64 0), .v (.slice none 0 0), .v (.slice none 0 0), .v (.slice none 0 0), .v (.slice none 0 0)] : List PV).getD j (.v undef)) (by exact allP_spec (P := fun j => _ = _) ⟨⟨⟨⟨⟨⟨⟨⟨trivial, rfl⟩, rfl⟩, rfl⟩, rfl⟩, rfl⟩, rfl⟩, rfl⟩, rfl⟩) ?_)
    refine So.q rfl rfl (V.mv (v := .p (.v (.int .i64 _))) rfl ?_)
    refine So.s (A.stoAg ty26 rfl (n := 8) rfl (by decide) (by intro j hj; first | rfl | trivial | (match j, hj with | 0, _ => (first | trivial | rfl) | 1, _ => (first | trivial | rfl) | 2, _ => (first | trivial | rfl) | 3, _ => (first | trivial | rfl) | 4, _ => (first | trivial | rfl) | 5, _ => (first | trivial | rfl) | 6, _ => (first | trivial | rfl) | 7, _ => (first | trivial | rfl))) rfl rfl rfl ?_)
    refine So.q rfl rfl (V.as (v := .p (.v (.int .i64 _))) rfl ?_)
    refine So.e ?_
    show HT _ _ _ _ _
    refine HT.ret ?_
    exact retC_ok (sg []) [(2, .ptr 1 0), (3, .p (.v (.int .i64 ((gmE b)))))] [(1, ⟨26, 1, 8, true, .rows (fun j => ([.bs (gmG b), .v (.int .i64 (gmP b)), .v (.int .i64 (gmF b)), .v (.int .i64 (gmK b)), .bs (gmB b), .bs (gmS b), .bs (gmC b), .bs (gmM b)] : List PV).getD j (.v undef))⟩)] h ⟨⟨⟨.refl _, rfl⟩, ⟨le_int (by first | with_reducible rfl | exact hg.symm | exact hg0.symm | (rw [gmE_3 (by assumption) hgI]; rfl) | (rw [gmE_2 (by assumption) (by unfold gmI; assumption)]; rfl)), trivial⟩, trivial⟩, ⟨⟨_, rfl, .inr (ob_rowsL (by intro j hj; match j, hj with | 0, _ => (first | exact gm_0 (b := b) hg0 0 (by decide) | exact gm_1 (b := b) hg0 0 (by decide)) | 1, _ => (first | exact gm_0 (b := b) hg0 1 (by decide) | exact gm_1 (b := b) hg0 1 (by decide)) | 2, _ => (first | exact gm_0 (b := b) hg0 2 (by decide) | exact gm_1 (b := b) hg0 2 (by decide)) | 3, _ => (first | exact gm_0 (b := b) hg0 3 (by decide) | exact gm_1 (b := b) hg0 3 (by decide)) | 4, _ => (first | exact gm_0 (b := b) hg0 4 (by decide) | exact gm_1 (b := b) hg0 4 (by decide)) | 5, _ => (first | exact gm_0 (b := b) hg0 5 (by decide) | exact gm_1 (b := b) hg0 5 (by decide)) | 6, _ => (first | exact gm_0 (b := b) hg0 6 (by decide) | exact gm_1 (b := b) hg0 6 (by decide)) | 7, _ => (first | exact gm_0 (b := b) hg0 7 (by decide) | exact gm_1 (b := b) hg0 7 (by decide)))), trivial⟩, trivial⟩⟩ ⟨rvA_cell ty26 rfl rfl rfl rfl (Nat.le_refl _) (le_agg (fun j _ => by first | rfl | (dsimp only; rw [Nat.zero_add]))), .refl _, trivial⟩ trivial rfl trivial ⟨trivial, trivial, trivial⟩ rfl
   ·have h10 := of_decide_eq_true (bnF h10)
    refine HT.skip ?_
    show HT _ _ _ _ _
    refine HT.seq ?_
    refine HT.region S_fget_ok ?_
    have hg0 : gmE b = 0 := by first | (rw [gmE_3 (by assumption) hgI]; unfold gmO; assumption) | (exfalso; contradiction)
    refine So.q rfl rfl (V.ldPtrA ty26 rfl rfl rfl rfl (lk rfl) ?_)
    refine So.s (A.stoAg ty26 rfl (n := 8) rfl (by decide) (by intro j hj; first | rfl | trivial | (match j, hj with | 0, _ => (first | trivial | rfl) | 1, _ => (first | trivial | rfl) | 2, _ => (first | trivial | rfl) | 3, _ => (first | trivial | rfl) | 4, _ => (first | trivial | rfl) | 5, _ => (first | trivial | rfl) | 6, _ => (first | trivial | rfl) | 7, _ => (first | trivial | rfl))) rfl rfl rfl ?_)
    refine So.q rfl rfl (V.as (v := .p (.v (.int .i64 (0)))) rfl ?_)
    refine So.e ?_
    show HT _ _ _ _ _
    refine HT.ret ?_
    exact retC_ok (sg []) [(2, .ptr 1 0), (3, .p (.v (.int .i64 ((gmE b)))))] [(1, ⟨26, 1, 8, true, .rows (fun j => ([.bs (gmG b), .v (.int .i64 (gmP b)), .v (.int .i64 (gmF b)), .v (.int .i64 (gmK b)), .bs (gmB b), .bs (gmS b), .bs (gmC b), .bs (gmM b)] : List PV).getD j (.v undef))⟩)] h ⟨⟨⟨.refl _, rfl⟩, ⟨le_int (by first | with_reducible rfl | exact hg.symm | exact hg0.symm | (rw [gmE_3 (by assumption) hgI]; rfl) | (rw [gmE_2 (by assumption) (by unfold gmI; assumption)]; rfl)), trivial⟩, trivial⟩, ⟨⟨_, rfl, .inr (ob_rowsL (by intro j hj; match j, hj with | 0, _ => (first | exact gm_0 (b := b) hg0 0 (by decide) | exact gm_1 (b := b) hg0 0 (by decide)) | 1, _ => (first | exact gm_0 (b := b) hg0 1 (by decide) | exact gm_1 (b := b) hg0 1 (by decide)) | 2, _ => (first | exact gm_0 (b := b) hg0 2 (by decide) | exact gm_1 (b := b) hg0 2 (by decide)) | 3, _ => (first | exact gm_0 (b := b) hg0 3 (by decide) | exact gm_1 (b := b) hg0 3 (by decide)) | 4, _ => (first | exact gm_0 (b := b) hg0 4 (by decide) | exact gm_1 (b := b) hg0 4 (by decide)) | 5, _ => (first | exact gm_0 (b := b) hg0 5 (by decide) | exact gm_1 (b := b) hg0 5 (by decide)) | 6, _ => (first | exact gm_0 (b := b) hg0 6 (by decide) | exact gm_1 (b := b) hg0 6 (by decide)) | 7, _ => (first | exact gm_0 (b := b) hg0 7 (by decide) | exact gm_1 (b := b) hg0 7 (by decide)))), trivial⟩, trivial⟩⟩ ⟨rvA_cell ty26 rfl rfl rfl rfl (Nat.le_refl _) (le_agg (fun j _ => by first | rfl | (dsimp only; rw [Nat.zero_add]))), .refl _, trivial⟩ trivial rfl trivial ⟨trivial, trivial, trivial⟩ rfl
  ·have h7 := of_decide_eq_false h7
   refine HT.skip ?_
   show HT _ _ _ _ _
   refine HT.seq ?_
   refine HT.seq ?_
   refine HT.region S_fget_ok ?_
   refine So.q rfl rfl (V.mv (v := .p (.v (.int .i64 _))) rfl ?_)
   refine So.q rfl rfl (V.bin (a := (.v (.int .i64 _))) (b := (.v (.int .i64 (0)))) (r := .v (.bool _)) rfl rfl rfl trivial ?_)
   refine So.e ?_
   show HT _ _ _ _ _
   refine R.cond rfl rfl (fun h11 => ?_) (fun h11 => ?_)
   ·have h11 := of_decide_eq_false (bnT h11)
    refine HT.seq ?_
    refine HT.region S_fget_ok ?_
    have hg0 : ¬ gmE b = 0 := by first | (rw [gmE_3 (by assumption) hgI]; unfold gmO; assumption) | (rw [gmE_2 (by assumption) (by unfold gmI; assumption)]; unfold gmI; assumption) | (exfalso; contradiction)
    refine So.n (lk rfl) (A.bldS ty26 rfl rfl trivial rfl (f := fun j => ([.v (.slice none 0 0), .v (.int .i64 0), .v (.int .i64 0), .v (.int .i64 0), .v (.slice none 0 0), .v (.slice none 0 0), .v (.slice none 0 0), .v (.slice none 0 0)] : List PV).getD j (.v undef)) (by exact allP_spec (P := fun j => _ = _) ⟨⟨⟨⟨⟨⟨⟨⟨trivial, rfl⟩, rfl⟩, rfl⟩, rfl⟩, rfl⟩, rfl⟩, rfl⟩, rfl⟩) ?_)
    refine So.q rfl rfl (V.mv (v := .p (.v (.int .i64 _))) rfl ?_)
    refine So.s (A.stoAg ty26 rfl (n := 8) rfl (by decide) (by intro j hj; first | rfl | trivial | (match j, hj with | 0, _ => (first | trivial | rfl) | 1, _ => (first | trivial | rfl) | 2, _ => (first | trivial | rfl) | 3, _ => (first | trivial | rfl) | 4, _ => (first | trivial | rfl) | 5, _ => (first | trivial | rfl) | 6, _ => (first | trivial | rfl) | 7, _ => (first | trivial | rfl))) rfl rfl rfl ?_)
    refine So.q rfl rfl (V.as (v := .p (.v (.int .i64 _))) rfl ?_)
    refine So.e ?_
    show HT _ _ _ _ _
    refine HT.ret ?_
    exact retC_ok (sg []) [(2, .ptr 1 0), (3, .p (.v (.int .i64 ((gmE b)))))] [(1, ⟨26, 1, 8, true, .rows (fun j => ([.bs (gmG b), .v (.int .i64 (gmP b)), .v (.int .i64 (gmF b)), .v (.int .i64 (gmK b)), .bs (gmB b), .bs (gmS b), .bs (gmC b), .bs (gmM b)] : List PV).getD j (.v undef))⟩)] h ⟨⟨⟨.refl _, rfl⟩, ⟨le_int (by first | with_reducible rfl | exact hg.symm | exact hg0.symm | (rw [gmE_3 (by assumption) hgI]; rfl) | (rw [gmE_2 (by assumption) (by unfold gmI; assumption)]; rfl)), trivial⟩, trivial⟩, ⟨⟨_, rfl, .inr (ob_rowsL (by intro j hj; match j, hj with | 0, _ => (first | exact gm_0 (b := b) hg0 0 (by decide) | exact gm_1 (b := b) hg0 0 (by decide)) | 1, _ => (first | exact gm_0 (b := b) hg0 1 (by decide) | exact gm_1 (b := b) hg0 1 (by decide)) | 2, _ => (first | exact gm_0 (b := b) hg0 2 (by decide) | exact gm_1 (b := b) hg0 2 (by decide)) | 3, _ => (first | exact gm_0 (b := b) hg0 3 (by decide) | exact gm_1 (b := b) hg0 3 (by decide)) | 4, _ => (first | exact gm_0 (b := b) hg0 4 (by decide) | exact gm_1 (b := b) hg0 4 (by decide)) | 5, _ => (first | exact gm_0 (b := b) hg0 5 (by decide) | exact gm_1 (b := b) hg0 5 (by decide)) | 6, _ => (first | exact gm_0 (b := b) hg0 6 (by decide) | exact gm_1 (b := b) hg0 6 (by decide)) | 7, _ => (first | exact gm_0 (b := b) hg0 7 (by decide) | exact gm_1 (b := b) hg0 7 (by decide)))), trivial⟩, trivial⟩⟩ ⟨rvA_cell ty26 rfl rfl rfl rfl (Nat.le_refl _) (le_agg (fun j _ => by first | rfl | (dsimp only; rw [Nat.zero_add]))), .refl _, trivial⟩ trivial rfl trivial ⟨trivial, trivial, trivial⟩ rfl
   ·have h11 := of_decide_eq_true (bnF h11)
    refine HT.skip ?_
    show HT _ _ _ _ _
    refine HT.seq ?_
    refine HT.region S_fget_ok ?_
    have hg0 : gmE b = 0 := by first | (rw [gmE_3 (by assumption) hgI]; unfold gmO; assumption) | (exfalso; contradiction)
    refine So.q rfl rfl (V.ldPtrA ty26 rfl rfl rfl rfl (lk rfl) ?_)
    refine So.s (A.stoAg ty26 rfl (n := 8) rfl (by decide) (by intro j hj; first | rfl | trivial | (match j, hj with | 0, _ => (first | trivial | rfl) | 1, _ => (first | trivial | rfl) | 2, _ => (first | trivial | rfl) | 3, _ => (first | trivial | rfl) | 4, _ => (first | trivial | rfl) | 5, _ => (first | trivial | rfl) | 6, _ => (first | trivial | rfl) | 7, _ => (first | trivial | rfl))) rfl rfl rfl ?_)
    refine So.q rfl rfl (V.as (v := .p (.v (.int .i64 (0)))) rfl ?_)
    refine So.e ?_
    show HT _ _ _ _ _
    refine HT.ret ?_
    exact retC_ok (sg []) [(2, .ptr 1 0), (3, .p (.v (.int .i64 ((gmE b)))))] [(1, ⟨26, 1, 8, true, .rows (fun j => ([.bs (gmG b), .v (.int .i64 (gmP b)), .v (.int .i64 (gmF b)), .v (.int .i64 (gmK b)), .bs (gmB b), .bs (gmS b), .bs (gmC b), .bs (gmM b)] : List PV).getD j (.v undef))⟩)] h ⟨⟨⟨.refl _, rfl⟩, ⟨le_int (by first | with_reducible rfl | exact hg.symm | exact hg0.symm | (rw [gmE_3 (by assumption) hgI]; rfl) | (rw [gmE_2 (by assumption) (by unfold gmI; assumption)]; rfl)), trivial⟩, trivial⟩, ⟨⟨_, rfl, .inr (ob_rowsL (by intro j hj; match j, hj with | 0, _ => (first | exact gm_0 (b := b) hg0 0 (by decide) | exact gm_1 (b := b) hg0 0 (by decide)) | 1, _ => (first | exact gm_0 (b := b) hg0 1 (by decide) | exact gm_1 (b := b) hg0 1 (by decide)) | 2, _ => (first | exact gm_0 (b := b) hg0 2 (by decide) | exact gm_1 (b := b) hg0 2 (by decide)) | 3, _ => (first | exact gm_0 (b := b) hg0 3 (by decide) | exact gm_1 (b := b) hg0 3 (by decide)) | 4, _ => (first | exact gm_0 (b := b) hg0 4 (by decide) | exact gm_1 (b := b) hg0 4 (by decide)) | 5, _ => (first | exact gm_0 (b := b) hg0 5 (by decide) | exact gm_1 (b := b) hg0 5 (by decide)) | 6, _ => (first | exact gm_0 (b := b) hg0 6 (by decide) | exact gm_1 (b := b) hg0 6 (by decide)) | 7, _ => (first | exact gm_0 (b := b) hg0 7 (by decide) | exact gm_1 (b := b) hg0 7 (by decide)))), trivial⟩, trivial⟩⟩ ⟨rvA_cell ty26 rfl rfl rfl rfl (Nat.le_refl _) (le_agg (fun j _ => by first | rfl | (dsimp only; rw [Nat.zero_add]))), .refl _, trivial⟩ trivial rfl trivial ⟨trivial, trivial, trivial⟩ rfl
end Go.Vh

set_option linter.unusedVariables false
set_option linter.unusedSimpArgs false
namespace Go.Vh
open Go Go.Vc Go.Proofs Go.Vw
def headSp : Sp := ⟨[], mkE (α := Unit) (fun _ => []) (fun _ => []) (fun _ => True) (fun _ => [.p (.v (.bool true))]) (fun _ => [])⟩
def S_head : FuncId → Option Sp := fun f => if f = 23 then some fbytesSp else if f = 20 then some fgetSp else if f = 13 then some fputsSp else if f = 12 then some frightSp else none
theorem S_head_ok : ∀ f s, S_head f = some s → FOK Tryd.prog gl f s := fun f s h => by
 unfold S_head at h
 split at h
 ·rename_i e; cases h; subst e; exact fbytes_ok
 split at h
 ·rename_i e; cases h; subst e; exact fget_ok
 split at h
 ·rename_i e; cases h; subst e; exact fputs_ok
 split at h
 ·rename_i e; cases h; subst e; exact fright_ok
 cases h
set_option maxHeartbeats 1000000 in
set_option maxRecDepth 20000 in
theorem head_ok : FOK Tryd.prog gl 8 headSp := by
 refine FOK.ofE (tyOf_ok Tryd.prog) (slots := [0]) (nt := 56) Tryd.func8 rfl rfl rfl rfl (by decide) 0 (fun _ => rfl) (by decide) (fun _ => trivial) ?_
 rintro _ kk hlen hpre h
 replace hpre : True := hpre
 show HT (cx Tryd.prog 56 (tyOf Tryd.prog) gl []) _ [] [] _
 refine HT.seq ?_
 refine HT.region S_head_ok ?_
 refine So.q rfl rfl (V.as (v := .p (.v (.bool false))) rfl ?_)
 refine So.e ?_
 show HT _ _ _ _ _
 refine HT.seq ?_
 refine HT.region S_head_ok ?_
 refine So.n (lk rfl) (A.bsl 1 ty22 ty5 rfl (lk rfl) (lk rfl) (fun _ => rfl) rfl rfl trivial ⟨trivial, trivial⟩ rfl (N := 1) rfl (c := .bs [_]) rfl ?_)
 refine So.n (lk rfl) (A.cvM ty22 ty5 rfl (by first | rfl | omega | (simp; done) | (simp; omega)) rfl rfl ?_)
 refine So.n (lk rfl) (A.bldS ty24 rfl rfl ⟨by first | exact trivial | exact rfl | (intro j hj; first | trivial | rfl | (simp [BV.one]; done)), by first | exact trivial | exact rfl | (intro j hj; first | trivial | rfl | (simp [BV.one]; done)), trivial⟩ rfl (f := fun j => ([.bs [103], .v (.int .i64 0), .v (.int .i64 0), .v (.int .i64 5), .v (.slice none 0 0)] : List PV).getD j (.v undef)) (by exact allP_spec (P := fun j => _ = _) ⟨⟨⟨⟨⟨trivial, rfl⟩, rfl⟩, rfl⟩, rfl⟩, rfl⟩) ?_)
 refine So.n (lk rfl) (A.alloc 1 1 ty24 rfl trivial (f := fun j => ([.v (.slice none 0 0), .v (.int .i64 0), .v (.int .i64 0), .v (.int .i64 0), .v (.slice none 0 0)] : List PV).getD j (.v undef)) (fun j hj => by match j, hj with | 0, _ => rfl | 1, _ => rfl | 2, _ => rfl | 3, _ => rfl | 4, _ => rfl) ?_)
 refine So.s (A.stoAg ty24 rfl (n := 5) rfl (by decide) (by intro j hj; first | rfl | trivial | (match j, hj with | 0, _ => (first | trivial | rfl) | 1, _ => (first | trivial | rfl) | 2, _ => (first | trivial | rfl) | 3, _ => (first | trivial | rfl) | 4, _ => (first | trivial | rfl))) rfl rfl rfl ?_)
 refine So.e ?_
 show HT _ _ _ _ _
 refine HT.seq ?_
 refine HT.region S_head_ok ?_
 refine So.q rfl rfl (V.ldPtrA ty24 rfl rfl rfl rfl (lk rfl) ?_)
 refine So.n (lk rfl) (A.call0 [.agg 5 _] 2 rfl rfl rfl rfl ⟨trivial, trivial⟩ trivial ([103], 0, 0, 5, []) ⟨.agg _ _ _ (fun j hj => by match j, hj with | 0, _ => exact .refl _ | 1, _ => exact .refl _ | 2, _ => exact .refl _ | 3, _ => exact .refl _ | 4, _ => exact .nilBs), trivial⟩ trivial (by trivial) (Φ := fun _ => True) (fun _ _ => trivial) (.inl rfl) (v := .tup 2 _) rfl (O' := (4, ⟨5, 1, _, true, .bs _⟩) :: _) rfl (fun h1 => ?_))
 refine So.q rfl rfl (V.mv (v := .tup 2 _) rfl ?_)
 refine So.q rfl rfl (V.ext rfl (lk rfl) (v := .own 4 0 _) rfl ?_)
 refine So.q rfl rfl (V.ext rfl (lk rfl) (v := .p (.v (.int .i64 _))) rfl ?_)
 refine So.q rfl rfl (V.as (v := .own 4 0 _) rfl ?_)
 refine So.q rfl rfl (V.as (v := .p (.v (.int .i64 _))) rfl ?_)
 refine So.e ?_
 show HT _ _ _ _ _
 refine HT.seq ?_
 refine HT.region S_head_ok ?_
 refine So.n (lk rfl) (A.call0 [.p (.v (.slice none 0 0))] 5 rfl rfl rfl rfl ⟨trivial, trivial⟩ trivial ([]) ⟨le_nil rfl, trivial⟩ trivial (by trivial) (Φ := fun _ => True) (fun _ _ => trivial) (.inl rfl) (v := .tup 2 _) rfl (O' := _) rfl (fun h2 => ?_))
 refine So.q rfl rfl (V.mv (v := .tup 2 _) rfl ?_)
 refine So.q rfl rfl (V.ext rfl (lk rfl) (v := .agg 8 _) rfl ?_)
 refine So.q rfl rfl (V.ext rfl (lk rfl) (v := .p (.v (.int .i64 _))) rfl ?_)
 refine So.n (lk rfl) (A.alloc 5 1 ty26 rfl trivial (f := fun j => ([.v (.slice none 0 0), .v (.int .i64 0), .v (.int .i64 0), .v (.int .i64 0), .v (.slice none 0 0), .v (.slice none 0 0), .v (.slice none 0 0), .v (.slice none 0 0)] : List PV).getD j (.v undef)) (fun j hj => by match j, hj with | 0, _ => rfl | 1, _ => rfl | 2, _ => rfl | 3, _ => rfl | 4, _ => rfl | 5, _ => rfl | 6, _ => rfl | 7, _ => rfl) ?_)
 refine So.s (A.stoAg ty26 rfl (n := 8) rfl (by decide) (by intro j hj; first | rfl | trivial | (match j, hj with | 0, _ => (first | trivial | rfl) | 1, _ => (first | trivial | rfl) | 2, _ => (first | trivial | rfl) | 3, _ => (first | trivial | rfl) | 4, _ => (first | trivial | rfl) | 5, _ => (first | trivial | rfl) | 6, _ => (first | trivial | rfl) | 7, _ => (first | trivial | rfl))) rfl rfl rfl ?_)
 refine So.q rfl rfl (V.as (v := .p (.v (.int .i64 _))) rfl ?_)
 refine So.e ?_
 show HT _ _ _ _ _
 refine HT.seq ?_
 refine HT.region S_head_ok ?_
 refine So.n (lk rfl) (A.bsl 6 ty22 ty5 rfl (lk rfl) (lk rfl) (fun _ => rfl) rfl rfl trivial ⟨trivial, trivial⟩ rfl (N := 1) rfl (c := .bs [_]) rfl ?_)
 refine So.n (lk rfl) (A.cvM ty22 ty5 rfl (by first | rfl | omega | (simp; done) | (simp; omega)) rfl rfl ?_)
 refine So.n (lk rfl) (A.bldS ty35 rfl rfl ⟨by first | exact trivial | exact rfl | (intro j hj; first | trivial | rfl | (simp [BV.one]; done)), trivial⟩ rfl (f := fun j => ([.bs [103], .v (.int .i64 0), .v (.int .i64 0), .v (.int .i64 0), .v (.slice none 0 0)] : List PV).getD j (.v undef)) (by exact allP_spec (P := fun j => _ = _) ⟨⟨⟨⟨⟨trivial, rfl⟩, rfl⟩, rfl⟩, rfl⟩, rfl⟩) ?_)
 refine So.n (lk rfl) (A.call0 [.agg 5 _] 6 rfl rfl rfl rfl ⟨trivial, trivial⟩ trivial ([103], 0, 0, 0, []) ⟨.agg _ _ _ (fun j hj => by match j, hj with | 0, _ => exact .refl _ | 1, _ => exact .refl _ | 2, _ => exact .refl _ | 3, _ => exact .refl _ | 4, _ => exact .nilBs), trivial⟩ trivial (by trivial) (Φ := fun _ => True) (fun _ _ => trivial) (.inl rfl) (v := .tup 2 _) rfl (O' := (8, ⟨5, 1, _, true, .bs _⟩) :: _) rfl (fun h3 => ?_))
 refine So.q rfl rfl (V.mv (v := .tup 2 _) rfl ?_)
 refine So.q rfl rfl (V.ext rfl (lk rfl) (v := .own 8 0 _) rfl ?_)
 refine So.q rfl rfl (V.ext rfl (lk rfl) (v := .p (.v (.int .i64 _))) rfl ?_)
 refine So.q rfl rfl (V.as (v := .own 8 0 _) rfl ?_)
 refine So.q rfl rfl (V.as (v := .p (.v (.int .i64 _))) rfl ?_)
 refine So.e ?_
 show HT _ _ _ _ _
 refine HT.seq ?_
 refine HT.region S_head_ok ?_
 refine So.q rfl rfl (V.mv (v := .p (.v (.int .i64 _))) rfl ?_)
 refine So.q rfl rfl (V.bin (a := (.v (.int .i64 _))) (b := (.v (.int .i64 (0)))) (r := .v (.bool _)) rfl rfl rfl trivial ?_)
 refine So.q rfl rfl (V.mv (v := .p (.v (.bool _))) rfl ?_)
 refine So.gd rfl rfl (lk rfl) (lk rfl) (fun h4 => ?_) (fun h4 => ?_)
 ·have h4 := of_decide_eq_true h4
  refine A.v rfl (V.mv (v := .own 4 0 _) rfl ?_)
  refine So.gy rfl rfl (lk rfl) (lk rfl) ?_
  refine A.v rfl (V.len ty22 (v := .own 4 0 _) rfl rfl ?_)
  refine So.gy rfl rfl (lk rfl) (lk rfl) ?_
  refine A.v rfl (V.bin (a := (.v (.int .i64 _))) (b := (.v (.int .i64 (16)))) (r := .v (.bool _)) rfl rfl rfl trivial ?_)
  refine So.q rfl rfl (V.pkTrue (u := .p (.v (.bool _))) rfl rfl ?_)
  refine So.q rfl rfl (V.mv (v := .p (.v (.bool _))) rfl ?_)
  refine So.gd rfl rfl (lk rfl) (lk rfl) (fun h5 => ?_) (fun h5 => ?_)
  ·have h5 := of_decide_eq_true h5
   refine A.v rfl (V.mv (v := .p (.v (.int .i64 _))) rfl ?_)
   refine So.gy rfl rfl (lk rfl) (lk rfl) ?_
   refine A.v rfl (V.bin (a := (.v (.int .i64 _))) (b := (.v (.int .i64 (111)))) (r := .v (.bool _)) rfl rfl rfl trivial ?_)
   refine So.q rfl rfl (V.pkTrue (u := .p (.v (.bool _))) rfl rfl ?_)
   refine So.q rfl rfl (V.mv (v := .p (.v (.bool _))) rfl ?_)
   refine So.gd rfl rfl (lk rfl) (lk rfl) (fun h6 => ?_) (fun h6 => ?_)
   ·have h6 := of_decide_eq_true h6
    refine A.v rfl (V.mv (v := .p (.v (.int .i64 _))) rfl ?_)
    refine So.gy rfl rfl (lk rfl) (lk rfl) ?_
    refine A.v rfl (V.bin (a := (.v (.int .i64 _))) (b := (.v (.int .i64 (0)))) (r := .v (.bool _)) rfl rfl rfl trivial ?_)
    refine So.q rfl rfl (V.pkTrue (u := .p (.v (.bool _))) rfl rfl ?_)
    refine So.q rfl rfl (V.mv (v := .p (.v (.bool _))) rfl ?_)
    refine So.gd rfl rfl (lk rfl) (lk rfl) (fun h7 => ?_) (fun h7 => ?_)
    ·have h7 := of_decide_eq_true h7
     refine A.v rfl (V.mv (v := .own 8 0 _) rfl ?_)
     refine So.gy rfl rfl (lk rfl) (lk rfl) ?_
     refine A.v rfl (V.len ty22 (v := .own 8 0 _) rfl rfl ?_)
     refine So.gy rfl rfl (lk rfl) (lk rfl) ?_
     refine A.v rfl (V.bin (a := (.v (.int .i64 _))) (b := (.v (.int .i64 (19)))) (r := .v (.bool _)) rfl rfl rfl trivial ?_)
     refine So.q rfl rfl (V.pkTrue (u := .p (.v (.bool _))) rfl rfl ?_)
     refine So.q rfl rfl (V.mv (v := .p (.v (.bool _))) rfl ?_)
     refine So.gd rfl rfl (lk rfl) (lk rfl) (fun h8 => ?_) (fun h8 => ?_)
     ·have h8 := of_decide_eq_true h8
      refine A.v rfl (V.ldPtrA ty24 rfl rfl rfl rfl (lk rfl) ?_)
      refine So.gy rfl rfl (lk rfl) (lk rfl) ?_
      refine A.call0 [.agg 5 _] 9 rfl rfl rfl rfl ⟨trivial, trivial⟩ trivial ([103], 0, 0, 5, []) ⟨.agg _ _ _ (fun j hj => by match j, hj with | 0, _ => exact .refl _ | 1, _ => exact .refl _ | 2, _ => exact .refl _ | 3, _ => exact .refl _ | 4, _ => exact .nilBs), trivial⟩ trivial (by trivial) (Φ := fun _ => True) (fun _ _ => trivial) (.inl rfl) (v := .p (.v (.bool _))) rfl (O' := _) rfl (fun h9 => ?_)
      refine So.q rfl rfl (V.pkTrue (u := .p (.v (.bool _))) rfl rfl ?_)
      refine So.q rfl rfl (V.mv (v := .p (.v (.bool _))) rfl ?_)
      refine So.gd rfl rfl (lk rfl) (lk rfl) (fun h10 => ?_) (fun h10 => ?_)
      ·have h10 := of_decide_eq_true h10
       refine A.bldS ty24 rfl rfl trivial rfl (f := fun j => ([.v (.slice none 0 0), .v (.int .i64 0), .v (.int .i64 0), .v (.int .i64 0), .v (.slice none 0 0)] : List PV).getD j (.v undef)) (by exact allP_spec (P := fun j => _ = _) ⟨⟨⟨⟨⟨trivial, rfl⟩, rfl⟩, rfl⟩, rfl⟩, rfl⟩) ?_
       refine So.gy rfl rfl (lk rfl) (lk rfl) ?_
       refine A.call0 [.agg 5 _] 9 rfl rfl rfl rfl ⟨trivial, trivial⟩ trivial ([], 0, 0, 0, []) ⟨.agg _ _ _ (fun j hj => by match j, hj with | 0, _ => exact .nilBs | 1, _ => exact .refl _ | 2, _ => exact .refl _ | 3, _ => exact .refl _ | 4, _ => exact .nilBs), trivial⟩ trivial (by trivial) (Φ := fun _ => True) (fun _ _ => trivial) (.inl rfl) (v := .p (.v (.bool _))) rfl (O' := _) rfl (fun h11 => ?_)
       refine So.gy rfl rfl (lk rfl) (lk rfl) ?_
       refine A.v rfl (V.not rfl ?_)
       refine So.q rfl rfl (V.pkTrue (u := .p (.v (.bool _))) rfl rfl ?_)
       refine So.q rfl rfl (V.as (v := .p (.v (.bool _))) rfl ?_)
       refine So.e ?_
       show HT _ _ _ _ _
       refine HT.ret ?_
       exact ret_ok (sg []) h rfl rfl rfl trivial ⟨trivial, trivial⟩ rfl ⟨⟨⟨le_bool (by first | rfl | exact (decide_eq_true hd7).symm | (rw [decide_eq_false hd7]; rfl)), trivial⟩, trivial⟩, trivial⟩
      ·have h10 := of_decide_eq_false h10
       first | exact absurd (by first | exact hd1 | exact hd3 | exact hd4 | exact hd6 | exact hd7 | (rw [hd2]; rfl) | (rw [hd5]; rfl)) h10 | exact absurd h10 (by first | exact hd1 | exact hd3 | exact hd4 | exact hd6 | exact hd7 | (rw [hd2]; rfl) | (rw [hd5]; rfl))
     ·have h8 := of_decide_eq_false h8
      first | exact absurd (by first | exact hd1 | exact hd3 | exact hd4 | exact hd6 | exact hd7 | (rw [hd2]; rfl) | (rw [hd5]; rfl)) h8 | exact absurd h8 (by first | exact hd1 | exact hd3 | exact hd4 | exact hd6 | exact hd7 | (rw [hd2]; rfl) | (rw [hd5]; rfl))
    ·have h7 := of_decide_eq_false h7
     first | exact absurd (by first | exact hd1 | exact hd3 | exact hd4 | exact hd6 | exact hd7 | (rw [hd2]; rfl) | (rw [hd5]; rfl)) h7 | exact absurd h7 (by first | exact hd1 | exact hd3 | exact hd4 | exact hd6 | exact hd7 | (rw [hd2]; rfl) | (rw [hd5]; rfl))
   ·have h6 := of_decide_eq_false h6
    first | exact absurd (by first | exact hd1 | exact hd3 | exact hd4 | exact hd6 | exact hd7 | (rw [hd2]; rfl) | (rw [hd5]; rfl)) h6 | exact absurd h6 (by first | exact hd1 | exact hd3 | exact hd4 | exact hd6 | exact hd7 | (rw [hd2]; rfl) | (rw [hd5]; rfl))
  ·have h5 := of_decide_eq_false h5
   first | exact absurd (by first | exact hd1 | exact hd3 | exact hd4 | exact hd6 | exact hd7 | (rw [hd2]; rfl) | (rw [hd5]; rfl)) h5 | exact absurd h5 (by first | exact hd1 | exact hd3 | exact hd4 | exact hd6 | exact hd7 | (rw [hd2]; rfl) | (rw [hd5]; rfl))
 ·have h4 := of_decide_eq_false h4
  first | exact absurd (by first | exact hd1 | exact hd3 | exact hd4 | exact hd6 | exact hd7 | (rw [hd2]; rfl) | (rw [hd5]; rfl)) h4 | exact absurd h4 (by first | exact hd1 | exact hd3 | exact hd4 | exact hd6 | exact hd7 | (rw [hd2]; rfl) | (rw [hd5]; rfl))
end Go.Vh

set_option linter.unusedVariables false
set_option linter.unusedSimpArgs false
namespace Go.Vh
open Go Go.Vc Go.Proofs Go.Vw
def lawTagsSp : Sp := ⟨[], mkE (α := (List UInt8) × (List UInt8) × Int × Int × Int × (List UInt8) × (List UInt8) × (List UInt8) × (List UInt8) × (List UInt8)) (fun (k, g, ep, fr, kd, bd, sn, cf, mb, mm) => [.p (.bs (k)), .agg 8 (fun j => ([.bs g, .v (.int .i64 ep), .v (.int .i64 fr), .v (.int .i64 kd), .bs bd, .bs sn, .bs cf, .bs mb] : List PV).getD j (.v undef)), .agg 32 (fun j => .u8 (mm.getD j 0))]) (fun (k, g, ep, fr, kd, bd, sn, cf, mb, mm) => []) (fun (k, g, ep, fr, kd, bd, sn, cf, mb, mm) => mm.length = 32) (fun (k, g, ep, fr, kd, bd, sn, cf, mb, mm) => [.p (.v (.bool true))]) (fun (k, g, ep, fr, kd, bd, sn, cf, mb, mm) => [])⟩
def S_lawTags : FuncId → Option Sp := fun f => if f = 8 then some headSp else if f = 9 then some greatSp else if f = 22 then some ftagmSp else none
theorem S_lawTags_ok : ∀ f s, S_lawTags f = some s → FOK Tryd.prog gl f s := fun f s h => by
 unfold S_lawTags at h
 split at h
 ·rename_i e; cases h; subst e; exact head_ok
 split at h
 ·rename_i e; cases h; subst e; exact great_ok
 split at h
 ·rename_i e; cases h; subst e; exact ftagm_ok
 cases h
theorem S_lawTags_det : ∀ f s, S_lawTags f = some s → SpDet s.sp := fun f s h => by
 unfold S_lawTags at h
 split at h
 ·cases h; exact mkE_det _ _ _ _ _
 split at h
 ·cases h; exact mkE_det _ _ _ _ _
 split at h
 ·cases h; exact mkE_det _ _ _ _ _
 cases h
set_option maxHeartbeats 1000000 in
set_option maxRecDepth 20000 in
theorem lawTags_ok : FOK Tryd.prog gl 7 lawTagsSp := by
 refine FOK.ofE (tyOf_ok Tryd.prog) (slots := [6]) (nt := 62) Tryd.func7 rfl rfl rfl rfl (by decide) 3 (fun ⟨_, _, _, _, _, _, _, _, _, _⟩ => rfl) (by decide) (fun ⟨_, _, _, _, _, _, _, _, _, _⟩ => ⟨trivial, trivial, trivial, trivial⟩) ?_
 rintro ⟨k, g, ep, fr, kd, bd, sn, cf, mb, mm⟩ kk hlen hpre h
 have hl0 : (k).length ≤ 9223372036854775807 := hlen.1
 replace hpre : mm.length = 32 := hpre
 show HT (cx Tryd.prog 62 (tyOf Tryd.prog) gl []) _ [(0, .p (.bs (k))), (1, .agg 8 (fun j => ([.bs g, .v (.int .i64 ep), .v (.int .i64 fr), .v (.int .i64 kd), .bs bd, .bs sn, .bs cf, .bs mb] : List PV).getD j (.v undef))), (2, .agg 32 (fun j => .u8 (mm.getD j 0)))] [] _
 refine HT.seq ?_
 refine HT.region S_lawTags_ok ?_
 refine So.n (lk rfl) (A.boxAg 1 1 (n := 8) rfl (by intro j hj; first | rfl | trivial | (match j, hj with | 0, _ => (first | trivial | rfl) | 1, _ => (first | trivial | rfl) | 2, _ => (first | trivial | rfl) | 3, _ => (first | trivial | rfl) | 4, _ => (first | trivial | rfl) | 5, _ => (first | trivial | rfl) | 6, _ => (first | trivial | rfl) | 7, _ => (first | trivial | rfl)) | (split <;> first | rfl | trivial | (split <;> first | rfl | trivial))) rfl trivial ?_)
 refine So.n (lk rfl) (A.boxAg 2 1 (n := 32) rfl (by intro j hj; first | rfl | trivial | (split <;> first | rfl | trivial | (split <;> first | rfl | trivial))) rfl trivial ?_)
 refine So.q rfl rfl (V.as (v := .p (.v (.bool false))) rfl ?_)
 refine So.e ?_
 show HT _ _ _ _ _
 refine HT.seq ?_
 refine HT.region S_lawTags_ok ?_
 refine So.n (lk rfl) (A.call0 [] 3 rfl rfl rfl rfl trivial trivial () trivial trivial (by trivial) (Φ := fun _ => True) (fun _ _ => trivial) (.inl rfl) (v := .p (.v (.bool true))) rfl (O' := _) rfl (fun h1 => ?_))
 refine So.q rfl rfl (V.as (v := .p (.v (.bool true))) rfl ?_)
 refine So.e ?_
 show HT _ _ _ _ _
 refine HT.seq ?_
 refine HT.seq ?_
 refine HT.region S_lawTags_ok ?_
 refine So.q rfl rfl (V.faPtr ty26 rfl ty24 (lk rfl) rfl rfl (lk rfl) ?_)
 refine So.q rfl rfl (V.faPtr ty24 rfl ty22 (lk rfl) rfl rfl (lk rfl) ?_)
 refine So.q rfl rfl (V.ldPtr ty22 rfl rfl rfl (lk rfl) (v := .p (.bs _)) rfl ?_)
 refine So.q rfl rfl (V.faPtr ty26 rfl ty24 (lk rfl) rfl rfl (lk rfl) ?_)
 refine So.q rfl rfl (V.faPtr ty24 rfl ty22 (lk rfl) rfl rfl (lk rfl) ?_)
 refine So.q rfl rfl (V.ldPtr ty22 rfl rfl rfl (lk rfl) (v := .p (.bs _)) rfl ?_)
 refine So.q rfl rfl (V.faPtr ty26 rfl ty22 (lk rfl) rfl rfl (lk rfl) ?_)
 refine So.q rfl rfl (V.ldPtr ty22 rfl rfl rfl (lk rfl) (v := .p (.bs _)) rfl ?_)
 refine So.q rfl rfl (V.faPtr ty26 rfl ty22 (lk rfl) rfl rfl (lk rfl) ?_)
 refine So.q rfl rfl (V.ldPtr ty22 rfl rfl rfl (lk rfl) (v := .p (.bs _)) rfl ?_)
 refine So.q rfl rfl (V.faPtr ty26 rfl ty22 (lk rfl) rfl rfl (lk rfl) ?_)
 refine So.q rfl rfl (V.ldPtr ty22 rfl rfl rfl (lk rfl) (v := .p (.bs _)) rfl ?_)
 refine So.q rfl rfl (V.mv (v := .p (.bs _)) rfl ?_)
 refine So.n (lk rfl) (A.bsl 3 ty51 ty22 rfl (lk rfl) (lk rfl) (fun _ => rfl) rfl rfl trivial ⟨trivial, trivial, trivial, trivial, trivial, trivial, trivial⟩ rfl (N := 6) rfl (c := .rows _) rfl ?_)
 refine So.n (lk rfl) (A.call0 [.p (.sl _ _ _)] 4 rfl rfl rfl rfl ⟨trivial, trivial⟩ trivial [g, bd, sn, cf, mb, k] ⟨le_sl rfl (by intro j hj; match j, hj with | 0, _ => rfl | 1, _ => rfl | 2, _ => rfl | 3, _ => rfl | 4, _ => rfl | 5, _ => rfl), trivial⟩ trivial (by trivial) (Φ := fun _ => True) (fun _ _ => trivial) (.inr ⟨trivial, by simp [Hp.scal, OC.scal, PV.scal, BV.scal]⟩) (v := .p (.v (.bool _))) rfl (O' := _) rfl (fun h2 => ?_))
 refine So.e ?_
 show HT _ _ _ _ _
 refine R.cond rfl rfl (fun h3 => ?_) (fun h3 => ?_)
 ·have h3 := great_t h3
  refine HT.seq ?_
  refine HT.region S_lawTags_ok ?_
  refine So.q rfl rfl (V.mv (v := .p (.v (.bool true))) rfl ?_)
  refine So.q rfl rfl (V.as (v := .p (.v (.bool true))) rfl ?_)
  refine So.e ?_
  show HT _ _ _ _ _
  refine HT.ret ?_
  exact ret_ok (sg []) h rfl rfl rfl trivial ⟨trivial, trivial⟩ rfl ⟨⟨⟨le_bool (by first | rfl | exact decide_eq_true (by first | exact (congrArg (fun l : List UInt8 => (l.length : Int)) ht0).trans (congrArg Int.ofNat (mac_len _ _)) | exact ht0.trans ht1.symm | exact ht0.trans ((take_full _).trans ht2).symm | exact ht0.trans ht2.symm)), trivial⟩, trivial⟩, trivial⟩
 ·have h3 := great_f h3
  refine HT.skip ?_
  show HT _ _ _ _ _
  refine HT.seq ?_
  refine HT.region S_lawTags_ok ?_
  have hkl : k.length ≤ 1000000000 := Nat.le_trans ((by assumption : ∀ x, x ∈ [g, bd, sn, cf, mb, k] → x.length ≤ 60000) k (by simp)) (by decide)
  refine So.q rfl rfl (V.mv (v := .p (.bs _)) rfl ?_)
  refine So.q rfl rfl (V.ldPtrA ty26 rfl rfl rfl rfl (lk rfl) ?_)
  refine So.n (lk rfl) (A.call0 [.p (.bs _), .agg 8 _] 4 rfl rfl rfl rfl ⟨trivial, trivial, trivial⟩ trivial (k, g, ep, fr, kd, bd, sn, cf, mb) ⟨.refl _, le_agg (fun j hj => by match j, hj with | 0, _ => rfl | 1, _ => rfl | 2, _ => rfl | 3, _ => rfl | 4, _ => rfl | 5, _ => rfl | 6, _ => rfl | 7, _ => rfl), trivial⟩ trivial (by first | omega | assumption) (Φ := fun _ => True) (fun _ _ => trivial) (.inl rfl) (v := .own 6 0 _) rfl (O' := (6, ⟨5, 1, _, true, .bs _⟩) :: _) rfl (fun h4 => ?_))
  refine So.q rfl rfl (V.as (v := .own 6 0 _) rfl ?_)
  refine So.e ?_
  show HT _ _ _ _ _
  refine HT.frzS 6 rfl rfl rfl ?_
  show HT _ _ _ _ _
  refine HT.seq ?_
  refine HT.seq ?_
  refine R.tell [(8, .p (.bs (tagF k g ep fr kd bd sn cf mb)))] [] [0, 4, 5, 6, 7] [1, 2] (fr0 := [(0, .p (.bs _)), (4, .ptr 1 0), (5, .ptr 2 0), (6, .p (.v (.bool false))), (7, .p (.v (.bool true)))]) (O0 := [(1, ⟨_, _, _, _, .rows _⟩), (2, ⟨_, _, _, _, .rows _⟩)]) rfl rfl ⟨⟨⟨le_bs (by first | rfl | exact take_full _), trivial⟩, ⟨.refl _, trivial⟩, ⟨.refl _, rfl⟩, ⟨.refl _, rfl⟩, ⟨.refl _, trivial⟩, ⟨.refl _, trivial⟩, trivial⟩, ⟨⟨_, rfl, .inl rfl, trivial⟩, ⟨_, rfl, .inl rfl, trivial⟩, trivial⟩⟩ ?_
  show HT _ _ _ _ _
  refine HT.region S_lawTags_ok ?_
  refine So.q rfl rfl (V.mv (v := .p (.bs _)) rfl ?_)
  refine So.q rfl rfl (V.len ty22 (v := .p (.bs _)) rfl rfl ?_)
  refine So.q rfl rfl (V.bin (a := (.v (.int .i64 _))) (b := (.v (.int .i64 (0)))) (r := .v (.bool _)) rfl rfl rfl trivial ?_)
  refine So.e ?_
  show HT _ _ _ _ _
  refine R.cond rfl rfl (fun h5 => ?_) (fun h5 => ?_)
  ·have h5 := of_decide_eq_true h5
   refine HT.seq ?_
   refine HT.region S_lawTags_ok ?_
   refine So.q rfl rfl (V.mv (v := .p (.v (.bool true))) rfl ?_)
   refine So.q rfl rfl (V.as (v := .p (.v (.bool true))) rfl ?_)
   refine So.e ?_
   show HT _ _ _ _ _
   refine HT.ret ?_
   exact ret_ok (sg []) h rfl rfl rfl trivial ⟨trivial, trivial⟩ rfl ⟨⟨⟨le_bool (by first | rfl | exact decide_eq_true (by first | exact (congrArg (fun l : List UInt8 => (l.length : Int)) ht0).trans (congrArg Int.ofNat (mac_len _ _)) | exact ht0.trans ht1.symm | exact ht0.trans ((take_full _).trans ht2).symm | exact ht0.trans ht2.symm)), trivial⟩, trivial⟩, trivial⟩
  ·have h5 := of_decide_eq_false h5
   refine HT.skip ?_
   show HT _ _ _ _ _
   refine HT.seq ?_
   refine R.tell [] [(2, ⟨47, 1, 32, true, .bs (mm)⟩)] [0, 4, 5, 6, 7, 8] [1] (fr0 := [(0, .p (.bs _)), (4, .ptr 1 0), (5, .ptr 2 0), (6, .p (.v (.bool false))), (7, .p (.v (.bool true))), (8, .p (.bs _))]) (O0 := [(1, ⟨_, _, _, _, .rows _⟩)]) rfl rfl ⟨⟨⟨.refl _, trivial⟩, ⟨.refl _, rfl⟩, ⟨.refl _, rfl⟩, ⟨.refl _, trivial⟩, ⟨.refl _, trivial⟩, ⟨.refl _, trivial⟩, trivial⟩, ⟨⟨_, rfl, .inr (ob_rb (by exact hpre) (by intro j hj; rfl)), trivial⟩, ⟨_, rfl, .inl rfl, trivial⟩, trivial⟩⟩ ?_
   show HT _ _ _ _ _
   refine HT.region S_lawTags_ok ?_
   have hm := tag_msg (by assumption)
   have ht0 := tagF_yes (k := k) hm
   have ht1 := tagF_yes (k := k) (msg_tag hm (m2 := mm) (.inr hpre))
   have ht2 := tagF_yes (k := k) (msg_tag hm (m2 := []) (.inl rfl))
   refine So.q rfl rfl (V.cutArr ty47 (s := 1) rfl rfl rfl rfl (by decide) (lk rfl) ?_)
   refine So.q rfl rfl (V.faPtr ty26 rfl ty22 (lk rfl) rfl rfl (lk rfl) ?_)
   refine So.s (A.stoF ty22 rfl rfl rfl rfl rfl rfl rfl (v := .p (.bs _)) rfl trivial rfl (lk rfl) rfl rfl ?_)
   refine So.e ?_
   show HT _ _ _ _ _
   refine HT.seq ?_
   refine R.tell [] [(1, ⟨26, 1, 8, true, .rows (fun j => ([.bs g, .v (.int .i64 ep), .v (.int .i64 fr), .v (.int .i64 kd), .bs bd, .bs sn, .bs cf, .bs mm] : List PV).getD j (.v undef))⟩)] [0, 4, 6, 7, 8] [] (fr0 := [(0, .p (.bs _)), (4, .ptr 1 0), (6, .p (.v (.bool false))), (7, .p (.v (.bool true))), (8, .p (.bs _))]) (O0 := []) rfl rfl ⟨⟨⟨.refl _, trivial⟩, ⟨.refl _, rfl⟩, ⟨.refl _, trivial⟩, ⟨.refl _, trivial⟩, ⟨.refl _, trivial⟩, trivial⟩, ⟨⟨_, rfl, .inr (ob_rowsL (by intro j hj; match j, hj with | 0, _ => exact .refl _ | 1, _ => exact .refl _ | 2, _ => exact .refl _ | 3, _ => exact .refl _ | 4, _ => exact .refl _ | 5, _ => exact .refl _ | 6, _ => exact .refl _ | 7, _ => exact le_eqB (congrArg PV.bs (List.take_of_length_le (by rw [List.drop_zero]; omega))))), trivial⟩, trivial⟩⟩ ?_
   show HT _ _ _ _ _
   refine HT.region S_lawTags_ok ?_
   refine So.q rfl rfl (V.mv (v := .p (.bs _)) rfl ?_)
   refine So.q rfl rfl (V.ldPtrA ty26 rfl rfl rfl rfl (lk rfl) ?_)
   refine So.n (lk rfl) (A.call0 [.p (.bs _), .agg 8 _] 2 rfl rfl rfl rfl ⟨trivial, trivial, trivial⟩ trivial (k, g, ep, fr, kd, bd, sn, cf, mm) ⟨.refl _, le_agg (fun j hj => by match j, hj with | 0, _ => rfl | 1, _ => rfl | 2, _ => rfl | 3, _ => rfl | 4, _ => rfl | 5, _ => rfl | 6, _ => rfl | 7, _ => rfl), trivial⟩ trivial (by first | omega | assumption) (Φ := fun _ => True) (fun _ _ => trivial) (.inl rfl) (v := .own 4 0 _) rfl (O' := (4, ⟨5, 1, _, true, .bs _⟩) :: _) rfl (fun h6 => ?_))
   refine So.q rfl rfl (V.as (v := .own 4 0 _) rfl ?_)
   refine So.e ?_
   show HT _ _ _ _ _
   refine HT.frzS 4 rfl rfl rfl ?_
   show HT _ _ _ _ _
   refine HT.seq ?_
   refine R.tell [(9, .p (.bs (tagF k g ep fr kd bd sn cf mm)))] [] [0, 4, 6, 7, 8] [1] (fr0 := [(0, .p (.bs _)), (4, .ptr 1 0), (6, .p (.v (.bool false))), (7, .p (.v (.bool true))), (8, .p (.bs _))]) (O0 := [(1, ⟨_, _, _, _, .rows _⟩)]) rfl rfl ⟨⟨⟨le_bs (by first | rfl | exact take_full _), trivial⟩, ⟨.refl _, trivial⟩, ⟨.refl _, rfl⟩, ⟨.refl _, trivial⟩, ⟨.refl _, trivial⟩, ⟨.refl _, trivial⟩, trivial⟩, ⟨⟨_, rfl, .inl rfl, trivial⟩, trivial⟩⟩ ?_
   show HT _ _ _ _ _
   refine HT.region S_lawTags_ok ?_
   refine So.q rfl rfl (V.faPtr ty26 rfl ty22 (lk rfl) rfl rfl (lk rfl) ?_)
   refine So.s (A.sto ty22 rfl rfl rfl (v := .p (.v (.slice none 0 0))) rfl rfl rfl (lk rfl) rfl rfl ?_)
   refine So.e ?_
   show HT _ _ _ _ _
   refine HT.seq ?_
   refine HT.drawn S_lawTags_ok S_lawTags_det mixed (by kernel_rfl) ?_
   refine Sd.n (lk rfl) (V.mv (v := .p (.v (.bool true))) rfl ?_)
   refine Sd.n (lk rfl) (V.mv (v := .p (.v (.bool true))) rfl ?_)
   refine Sd.gy rfl rfl (lk rfl) (lk rfl) ?_
   refine V.mv (v := .p (.bs _)) rfl ?_
   refine Sd.gy rfl rfl (lk rfl) (lk rfl) ?_
   refine V.len ty22 (v := .p (.bs _)) rfl rfl ?_
   refine Sd.gy rfl rfl (lk rfl) (lk rfl) ?_
   refine V.bin (a := (.v (.int .i64 _))) (b := (.v (.int .i64 (32)))) (r := .v (.bool _)) rfl rfl rfl trivial ?_
   refine Sd.n (lk rfl) (V.pkTrue (u := .p (.v (.bool _))) rfl rfl ?_)
   refine Sd.n (lk rfl) (V.mv (v := .p (.v (.bool _))) rfl ?_)
   refine Sd.gd rfl rfl (lk rfl) (lk rfl) (fun h7 => ?_) (fun h7 => ?_)
   ·have h7 := of_decide_eq_true h7
    refine V.mv (v := .p (.bs _)) rfl ?_
    refine Sd.gy rfl rfl (lk rfl) (lk rfl) ?_
    refine V.cvBs ty9 rfl rfl ?_
    refine Sd.gy rfl rfl (lk rfl) (lk rfl) ?_
    refine V.mv (v := .p (.bs _)) rfl ?_
    refine Sd.gy rfl rfl (lk rfl) (lk rfl) ?_
    refine V.cvBs ty9 rfl rfl ?_
    refine Sd.gy rfl rfl (lk rfl) (lk rfl) ?_
    refine V.bin (a := (.str _)) (b := (.str _)) (r := .v (.bool _)) rfl rfl rfl trivial ?_
    refine Sd.n (lk rfl) (V.pkTrue (u := .p (.v (.bool _))) rfl rfl ?_)
    refine Sd.n (lk rfl) (V.mv (v := .p (.v (.bool _))) rfl ?_)
    refine Sd.gd rfl rfl (lk rfl) (lk rfl) (fun h8 => ?_) (fun h8 => ?_)
    ·have h8 := of_decide_eq_true h8
     refine V.mv (v := .p (.bs _)) rfl ?_
     refine Sd.gy rfl rfl (lk rfl) (lk rfl) ?_
     refine V.cvBs ty9 rfl rfl ?_
     refine Sd.gy rfl rfl (lk rfl) (lk rfl) ?_
     refine V.mv (v := .p (.bs _)) rfl ?_
     refine Sd.gy rfl rfl (lk rfl) (lk rfl) ?_
     refine V.ldPtrA ty26 rfl rfl rfl rfl (lk rfl) ?_
     refine Sd.gy rfl rfl (lk rfl) (lk rfl) ?_
     refine V.call [.p (.bs _), .agg 8 _] 2 rfl rfl rfl rfl ⟨trivial, trivial, trivial⟩ trivial (k, g, ep, fr, kd, bd, sn, cf, []) ⟨.refl _, .agg _ _ _ (fun j hj => by match j, hj with | 0, _ => exact .refl _ | 1, _ => exact .refl _ | 2, _ => exact .refl _ | 3, _ => exact .refl _ | 4, _ => exact .refl _ | 5, _ => exact .refl _ | 6, _ => exact .refl _ | 7, _ => exact .nilBs), trivial⟩ trivial (by first | omega | assumption) (Φ := fun _ => True) (fun _ _ => trivial) (.inl ⟨trivial, trivial, trivial⟩) (v := .p (.bs _)) rfl (fun h9 => ?_)
     refine Sd.gy rfl rfl (lk rfl) (lk rfl) ?_
     refine V.cvBs ty9 rfl rfl ?_
     refine Sd.gy rfl rfl (lk rfl) (lk rfl) ?_
     refine V.bin (a := (.str _)) (b := (.str _)) (r := .v (.bool _)) rfl rfl rfl trivial ?_
     refine Sd.n (lk rfl) (V.pkTrue (u := .p (.v (.bool _))) rfl rfl ?_)
     refine Sd.n (lk rfl) (V.as (v := .p (.v (.bool _))) rfl ?_)
     refine Sd.e ?_
     show HT _ _ _ _ _
     refine HT.ret ?_
     exact ret_ok (sg []) h rfl rfl rfl trivial ⟨trivial, trivial⟩ rfl ⟨⟨⟨le_bool (by first | rfl | exact decide_eq_true (by first | exact (congrArg (fun l : List UInt8 => (l.length : Int)) ht0).trans (congrArg Int.ofNat (mac_len _ _)) | exact ht0.trans ht1.symm | exact ht0.trans ((take_full _).trans ht2).symm | exact ht0.trans ht2.symm)), trivial⟩, trivial⟩, trivial⟩
    ·have h8 := of_decide_eq_false h8
     first | exact absurd (by first | exact (congrArg (fun l : List UInt8 => (l.length : Int)) ht0).trans (congrArg Int.ofNat (mac_len _ _)) | exact ht0.trans ht1.symm | exact ht0.trans ((take_full _).trans ht2).symm | exact ht0.trans ht2.symm) h8 | exact absurd h8 (by first | exact (congrArg (fun l : List UInt8 => (l.length : Int)) ht0).trans (congrArg Int.ofNat (mac_len _ _)) | exact ht0.trans ht1.symm | exact ht0.trans ((take_full _).trans ht2).symm | exact ht0.trans ht2.symm)
   ·have h7 := of_decide_eq_false h7
    first | exact absurd (by first | exact (congrArg (fun l : List UInt8 => (l.length : Int)) ht0).trans (congrArg Int.ofNat (mac_len _ _)) | exact ht0.trans ht1.symm | exact ht0.trans ((take_full _).trans ht2).symm | exact ht0.trans ht2.symm) h7 | exact absurd h7 (by first | exact (congrArg (fun l : List UInt8 => (l.length : Int)) ht0).trans (congrArg Int.ofNat (mac_len _ _)) | exact ht0.trans ht1.symm | exact ht0.trans ((take_full _).trans ht2).symm | exact ht0.trans ht2.symm)
end Go.Vh
