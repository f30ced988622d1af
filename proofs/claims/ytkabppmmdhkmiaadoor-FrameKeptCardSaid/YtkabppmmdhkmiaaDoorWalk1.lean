/- What is proved: each function of the seat's program does what its contract says, wherever it is called; no condition. -/
import Derived.Test.YtkabppmmdhkmiaaDoorWalk0
set_option linter.unusedVariables false
set_option linter.unusedSimpArgs false
set_option linter.unusedVariables false
set_option linter.unusedSimpArgs false
namespace Go.Vh
open Go Go.Vc Go.Proofs Go.Vw
def rtext_4Sp : Sp := ⟨[1, 2, 4], mkE (α := (List UInt8) × Int × Int × (Nat → PV) × (Nat → PV)) (fun (b, p, e, u, f) => [.ptr 1 (0), .own 3 (0) (4)]) (fun (b, p, e, u, f) => [(1, ⟨63, 1, 3, true, .rows (fun j => ([.bs b, .v (.int .i64 p), .v (.int .i64 e)] : List PV).getD j (.v undef))⟩), (2, ⟨63, 1, 3, true, .rows (fun j => if j = 0 then .bs [] else u j)⟩), (4, ⟨26, 1, 8, true, .rows (fun j => if j = 5 then .bs ([]) else if j = 6 then .bs ([]) else if j = 7 then .bs ([]) else f j)⟩), (3, ⟨67, 1, 4, true, .cells [.ptr 2 (0), .ptr 4 (5), .ptr 4 (6), .ptr 4 (7)]⟩)]) (fun (b, p, e, u, f) => True) (fun (b, p, e, u, f) => []) (fun (b, p, e, u, f) => [(1, ⟨63, 1, 3, true, .rows (fun j => ([.bs b, .v (.int .i64 (rd4 b p e).2.1), .v (.int .i64 (rd4 b p e).2.2)] : List PV).getD j (.v undef))⟩), (2, ⟨63, 1, 3, true, .rows (fun j => if j = 0 then .bs (rdT b p e).1 else u j)⟩), (4, ⟨26, 1, 8, true, .rows (fun j => if j = 5 then .bs ((rd2 b p e).1) else if j = 6 then .bs ((rd3 b p e).1) else if j = 7 then .bs ((rd4 b p e).1) else f j)⟩)])⟩
def S_rtext_4 : FuncId → Option Sp := fun f => if f = 49 then some getTextSp else none
theorem S_rtext_4_ok : ∀ f s, S_rtext_4 f = some s → FOK Tryd.prog gl f s := fun f s h => by
  unfold S_rtext_4 at h
  split at h
  · rename_i e; cases h; subst e; exact getText_ok
  cases h
theorem S_rtext_4_det : ∀ f s, S_rtext_4 f = some s → SpDet s.sp := fun f s h => by
  unfold S_rtext_4 at h
  split at h
  · cases h; exact mkE_det _ _ _ _ _
  cases h
set_option maxHeartbeats 4000000 in
set_option maxRecDepth 20000 in
theorem rtext_4_ok : FOK Tryd.prog gl 34 rtext_4Sp := by
  refine FOK.ofE (tyOf_ok Tryd.prog) (slots := []) (nt := 39) Tryd.func34 rfl rfl rfl rfl (by decide) 2 (fun ⟨_, _, _, _, _⟩ => rfl) (by decide) (fun ⟨_, _, _, _, _⟩ => ⟨rfl, rfl, trivial⟩) ?_
  rintro ⟨b, p, e, u, f⟩ kk hlen hpre h
  have hl1 : _ ≤ 9223372036854775807 := hlen.2.1
  replace hpre : True := hpre
  show HT (cx Tryd.prog 39 (tyOf Tryd.prog) gl [1, 2, 4]) _ [(0, .ptr 1 (0)), (1, .own 3 (0) (4))] [(1, ⟨63, 1, 3, true, .rows (fun j => ([.bs b, .v (.int .i64 p), .v (.int .i64 e)] : List PV).getD j (.v undef))⟩), (2, ⟨63, 1, 3, true, .rows (fun j => if j = 0 then .bs [] else u j)⟩), (4, ⟨26, 1, 8, true, .rows (fun j => if j = 5 then .bs ([]) else if j = 6 then .bs ([]) else if j = 7 then .bs ([]) else f j)⟩), (3, ⟨67, 1, 4, true, .cells [.ptr 2 (0), .ptr 4 (5), .ptr 4 (6), .ptr 4 (7)]⟩)] _
  refine HT.seq ?_
  refine HT.region S_rtext_4_ok ?_
  refine So.n (Nat.le_of_ble_eq_true rfl) (A.v rfl (V.mv (v := .own 3 0 _) rfl ?_))
  refine So.n (Nat.le_of_ble_eq_true rfl) (A.v rfl (V.len ty83 (v := .own 3 0 _) rfl rfl ?_))
  refine So.n (Nat.le_of_ble_eq_true rfl) (A.v rfl (V.mv (v := .p (.v (.int .i64 (0)))) rfl ?_))
  refine So.e ?_
  show HT _ _ _ _ _
  refine HT.block ?_
  refine HT.rounds 5 ?_
  show HT _ _ _ _ _
  refine HT.seq ?_
  refine HT.region S_rtext_4_ok ?_
  refine So.n (Nat.le_of_ble_eq_true rfl) (A.v rfl (V.bin (a := (.v (.int .i64 _))) (b := (.v (.int .i64 _))) (r := .v (.bool _)) rfl rfl rfl trivial ?_))
  refine So.e ?_
  show HT _ _ _ _ _
  refine HT.seq ?_
  refine R.cond rfl rfl (fun h1 => ?_) (fun h1 => ?_)
  · have h1 := of_decide_eq_true h1
    refine HT.skip ?_
    show HT _ _ _ _ _
    refine HT.seq ?_
    refine HT.block ?_
    refine HT.seq ?_
    refine HT.region S_rtext_4_ok ?_
    refine So.n (Nat.le_of_ble_eq_true rfl) (A.v rfl (V.ixOwn10 ty83 ty67 rfl rfl rfl rfl rfl (by omega) rfl ?_))
    refine So.n (Nat.le_of_ble_eq_true rfl) (A.v rfl (V.ldPtr ty67 rfl rfl rfl (Nat.le_of_ble_eq_true rfl) (v := .ptr 2 0) rfl ?_))
    refine So.n (Nat.le_of_ble_eq_true rfl) (A.v rfl (V.as (v := .ptr 2 0) rfl ?_))
    refine So.e ?_
    show HT _ _ _ _ _
    refine HT.seq ?_
    refine HT.region S_rtext_4_ok ?_
    refine So.n (Nat.le_of_ble_eq_true rfl) (A.v rfl (V.mv (v := .ptr 1 0) rfl ?_))
    refine So.n (Nat.le_of_ble_eq_true rfl) (A.v rfl (V.ncPtr rfl ?_))
    refine So.n (Nat.le_of_ble_eq_true rfl) (A.v rfl (V.faPtr ty63 rfl ty29 (Nat.le_of_ble_eq_true rfl) rfl rfl (by first | exact Nat.le_of_ble_eq_true rfl | first | rfl | omega | (simp; done) | (simp; omega)) ?_))
    refine So.n (Nat.le_of_ble_eq_true rfl) (A.v rfl (V.ldPtr ty29 rfl rfl rfl (by first | exact Nat.le_of_ble_eq_true rfl | (first | rfl | omega | (simp; done) | (simp; omega))) (v := .p (.v (.int .i64 _))) rfl ?_))
    refine So.n (Nat.le_of_ble_eq_true rfl) (A.v rfl (V.bin (a := (.v (.int .i64 _))) (b := (.v (.int .i64 (0)))) (r := .v (.bool _)) rfl rfl rfl trivial ?_))
    refine So.e ?_
    show HT _ _ _ _ _
    refine R.cond rfl rfl (fun h2 => ?_) (fun h2 => ?_)
    · have h2 := of_decide_eq_true h2
      refine HT.planS S_rtext_4_ok S_rtext_4_det mixed [] [⟨[0, 1, 2, 3, 4, 5, 6, 7, 8, 9, 10, 11, 12, 13, 14, 15, 16], 17, [1, 2, 14, 15]⟩, ⟨[1, 2, 14, 15, 18, 19], 20, [2, 15]⟩, ⟨[2, 15, 21, 22], 23, []⟩] (by kernel_rfl) ?_
      refine Pl.lk ?_
      refine Si.n rfl (Nat.le_of_ble_eq_true rfl) (V.mv (v := .ptr 2 0) rfl ?_)
      refine Si.n rfl (Nat.le_of_ble_eq_true rfl) (V.mv (v := .ptr 1 0) rfl ?_)
      refine Si.n rfl (Nat.le_of_ble_eq_true rfl) (V.mv (v := .ptr 1 0) rfl ?_)
      refine Si.n rfl (Nat.le_of_ble_eq_true rfl) (V.mv (v := .ptr 1 0) rfl ?_)
      refine Si.n rfl (Nat.le_of_ble_eq_true rfl) (V.ncPtr rfl ?_)
      refine Si.n rfl (Nat.le_of_ble_eq_true rfl) (V.faPtr ty63 rfl ty22 (Nat.le_of_ble_eq_true rfl) rfl rfl (by first | exact Nat.le_of_ble_eq_true rfl | first | rfl | omega | (simp; done) | (simp; omega)) ?_)
      refine Si.n rfl (Nat.le_of_ble_eq_true rfl) (V.ldPtr ty22 rfl rfl rfl (by first | exact Nat.le_of_ble_eq_true rfl | (first | rfl | omega | (simp; done) | (simp; omega))) (v := .p (.bs _)) rfl ?_)
      refine Si.n rfl (Nat.le_of_ble_eq_true rfl) (V.mv (v := .ptr 1 0) rfl ?_)
      refine Si.n rfl (Nat.le_of_ble_eq_true rfl) (V.ncPtr rfl ?_)
      refine Si.n rfl (Nat.le_of_ble_eq_true rfl) (V.faPtr ty63 rfl ty3 (Nat.le_of_ble_eq_true rfl) rfl rfl (by first | exact Nat.le_of_ble_eq_true rfl | first | rfl | omega | (simp; done) | (simp; omega)) ?_)
      refine Si.n rfl (Nat.le_of_ble_eq_true rfl) (V.ldPtr ty3 rfl rfl rfl (by first | exact Nat.le_of_ble_eq_true rfl | (first | rfl | omega | (simp; done) | (simp; omega))) (v := .p (.v (.int .i64 _))) rfl ?_)
      refine Si.n rfl (Nat.le_of_ble_eq_true rfl) (V.call [.p (.bs _), .p (.v (.int .i64 _))] 5 rfl rfl rfl rfl ⟨trivial, trivial, trivial⟩ ⟨Nat.le_of_ble_eq_true rfl, Nat.le_of_ble_eq_true rfl, Nat.le_of_ble_eq_true rfl, trivial⟩ (_, _) ⟨.refl _, .refl _, trivial⟩ trivial (by trivial) (Φ := fun (b, i) => ((getTextF b i).2.2 = 0 → 0 ≤ i ∧ i < (getTextF b i).2.1 ∧ (getTextF b i).2.1 ≤ b.length) ∧ (getTextF b i).1.length ≤ 1048576) (fun (b, i) _ => ⟨getTextF_ok b i, getTextF_len b i⟩) (.inl ⟨trivial, trivial, trivial⟩) (v := .tup 3 _) rfl (fun h3 => ?_))
      try dsimp only at h3
      refine Si.n rfl (Nat.le_of_ble_eq_true rfl) (V.mv (v := .tup 3 _) rfl ?_)
      refine Si.n rfl (Nat.le_of_ble_eq_true rfl) (V.ext rfl (Nat.le_of_ble_eq_true rfl) (v := .p (.bs _)) rfl ?_)
      refine Si.n rfl (Nat.le_of_ble_eq_true rfl) (V.ext rfl (Nat.le_of_ble_eq_true rfl) (v := .p (.v (.int .i64 _))) rfl ?_)
      refine Si.n rfl (Nat.le_of_ble_eq_true rfl) (V.ext rfl (Nat.le_of_ble_eq_true rfl) (v := .p (.v (.int .i64 _))) rfl ?_)
      refine Si.n rfl (Nat.le_of_ble_eq_true rfl) (V.ncPtr rfl ?_)
      refine Si.e ?_
      refine ⟨flEq_nil, fun ff => ?_⟩
      refine Lo.s rfl (A.sto ty22 rfl rfl rfl (v := .p (.bs _)) rfl trivial rfl (by first | exact Nat.le_of_ble_eq_true rfl | (first | rfl | omega | (simp; done) | (simp; omega))) rfl rfl ?_)
      refine ⟨_, fun ff => ff, ap0, rfl, FG.id, ?_⟩
      show planA _ _ _ _ _ [(1, .ptr 1 0), (2, .ptr 1 0), (14, .p (.v (.int .i64 _))), (15, .p (.v (.int .i64 _)))] _ _ _
      refine Pl.lk ?_
      refine Si.n rfl (Nat.le_of_ble_eq_true rfl) (V.mv (v := .ptr 1 0) rfl ?_)
      refine Si.n rfl (Nat.le_of_ble_eq_true rfl) (V.mv (v := .ptr 1 0) rfl ?_)
      refine Si.n rfl (Nat.le_of_ble_eq_true rfl) (V.ext rfl (Nat.le_of_ble_eq_true rfl) (v := .p (.v (.int .i64 _))) rfl ?_)
      refine Si.n rfl (Nat.le_of_ble_eq_true rfl) (V.ext rfl (Nat.le_of_ble_eq_true rfl) (v := .p (.v (.int .i64 _))) rfl ?_)
      refine Si.n rfl (Nat.le_of_ble_eq_true rfl) (V.ncPtr rfl ?_)
      refine Si.n rfl (Nat.le_of_ble_eq_true rfl) (V.faPtr ty63 rfl ty3 (Nat.le_of_ble_eq_true rfl) rfl rfl (by first | exact Nat.le_of_ble_eq_true rfl | first | rfl | omega | (simp; done) | (simp; omega)) ?_)
      refine Si.e ?_
      refine ⟨(flEq_cons rfl (flEq_cons rfl (flEq_cons rfl (flEq_cons rfl flEq_nil)))), fun ff => ?_⟩
      refine Lo.s rfl (A.sto ty3 rfl rfl rfl (v := .p (.v (.int .i64 _))) rfl rfl rfl (by first | exact Nat.le_of_ble_eq_true rfl | (first | rfl | omega | (simp; done) | (simp; omega))) rfl rfl ?_)
      refine ⟨_, fun ff => ff, ap0, rfl, FG.id, ?_⟩
      show planA _ _ _ _ _ [(2, .ptr 1 0), (15, .p (.v (.int .i64 _)))] _ _ _
      refine Pl.l0 ?_
      refine Si.n rfl (Nat.le_of_ble_eq_true rfl) (V.mv (v := .ptr 1 0) rfl ?_)
      refine Si.n rfl (Nat.le_of_ble_eq_true rfl) (V.ext rfl (Nat.le_of_ble_eq_true rfl) (v := .p (.v (.int .i64 _))) rfl ?_)
      refine Si.n rfl (Nat.le_of_ble_eq_true rfl) (V.ncPtr rfl ?_)
      refine Si.n rfl (Nat.le_of_ble_eq_true rfl) (V.faPtr ty63 rfl ty29 (Nat.le_of_ble_eq_true rfl) rfl rfl (by first | exact Nat.le_of_ble_eq_true rfl | first | rfl | omega | (simp; done) | (simp; omega)) ?_)
      refine Si.e ?_
      refine ⟨(flEq_cons rfl (flEq_cons rfl flEq_nil)), ?_⟩
      refine Lo.s rfl (A.sto ty29 rfl rfl rfl (v := .p (.v (.int .i64 _))) rfl rfl rfl (by first | exact Nat.le_of_ble_eq_true rfl | (first | rfl | omega | (simp; done) | (simp; omega))) rfl rfl ?_)
      refine Pl.e ?_
      refine Si.e ?_
      refine ⟨flEq_nil, ?_⟩
      show HT _ _ _ _ _
      refine R.tell [] [(1, ⟨63, 1, 3, true, .rows (fun j => ([.bs b, .v (.int .i64 (rdT b p e).2.1), .v (.int .i64 (rdT b p e).2.2)] : List PV).getD j (.v undef))⟩), (2, ⟨63, 1, 3, true, .rows (fun j => if j = 0 then .bs ((rdT b p e).1) else u j)⟩)] [0, 6, 7, 8] [3, 4] (fr0 := [(0, .ptr 1 0), (6, .own 3 0 _), (7, .p (.v (.int .i64 _))), (8, .p (.v (.int .i64 _)))]) (O0 := [(3, ⟨_, _, _, _, .cells [.ptr 2 0, .ptr 4 5, .ptr 4 6, .ptr 4 7]⟩), (4, ⟨_, _, _, _, .rows _⟩)]) rfl rfl ⟨⟨⟨.refl _, rfl⟩, ⟨.refl _, rfl⟩, ⟨.refl _, trivial⟩, ⟨.refl _, trivial⟩, trivial⟩, ⟨⟨_, rfl, .inr (ob_rows (by rfl) (by first | (rw [show rdT b p e = Go.Vh.gT b p from rdT_0 (e := e) (by assumption)]; (intro j hj; match j, hj with | 0, _ => rfl | 1, _ => rfl | 2, _ => rfl)) | (rw [show rdT b p e = ([], p, e) from rdT_1 (e := e) (by assumption)]; (intro j hj; match j, hj with | 0, _ => rfl | 1, _ => rfl | 2, _ => rfl)))), trivial⟩, ⟨_, rfl, .inr (ob_rows (by rfl) (by first | (rw [show rdT b p e = Go.Vh.gT b p from rdT_0 (e := e) (by assumption)]; intro j hj; by_cases h0 : j = 0 <;> first | (simp [h0, gT]; done) | (exfalso; omega)) | (rw [show rdT b p e = ([], p, e) from rdT_1 (e := e) (by assumption)]; intro j hj; by_cases h0 : j = 0 <;> first | (simp [h0, gT]; done) | (exfalso; omega)))), trivial⟩, ⟨_, rfl, .inl rfl, ⟨rfl, rfl, rfl, rfl, trivial⟩⟩, ⟨_, rfl, .inl rfl, trivial⟩, trivial⟩⟩ ?_
      show HT _ _ _ _ _
      refine HT.region S_rtext_4_ok ?_
      refine So.n (Nat.le_of_ble_eq_true rfl) (A.v rfl (V.addI rfl rfl (by omega) ?_))
      refine So.n (Nat.le_of_ble_eq_true rfl) (A.v rfl (V.mv (v := .p (.v (.int .i64 _))) rfl ?_))
      refine So.e ?_
      show HT _ _ _ _ _
      refine HT.seq ?_
      refine HT.region S_rtext_4_ok ?_
      refine So.n (Nat.le_of_ble_eq_true rfl) (A.v rfl (V.bin (a := (.v (.int .i64 _))) (b := (.v (.int .i64 _))) (r := .v (.bool _)) rfl rfl rfl trivial ?_))
      refine So.e ?_
      show HT _ _ _ _ _
      refine HT.seq ?_
      refine R.cond rfl rfl (fun h4 => ?_) (fun h4 => ?_)
      · have h4 := of_decide_eq_true h4
        refine HT.skip ?_
        show HT _ _ _ _ _
        refine HT.seq ?_
        refine HT.block ?_
        refine HT.seq ?_
        refine HT.region S_rtext_4_ok ?_
        refine So.n (Nat.le_of_ble_eq_true rfl) (A.v rfl (V.ixOwn10 ty83 ty67 rfl rfl rfl rfl rfl (by omega) rfl ?_))
        refine So.n (Nat.le_of_ble_eq_true rfl) (A.v rfl (V.ldPtr ty67 rfl rfl rfl (Nat.le_of_ble_eq_true rfl) (v := .ptr 4 5) rfl ?_))
        refine So.n (Nat.le_of_ble_eq_true rfl) (A.v rfl (V.as (v := .ptr 4 5) rfl ?_))
        refine So.e ?_
        show HT _ _ _ _ _
        refine HT.seq ?_
        refine HT.region S_rtext_4_ok ?_
        refine So.n (Nat.le_of_ble_eq_true rfl) (A.v rfl (V.mv (v := .ptr 1 0) rfl ?_))
        refine So.n (Nat.le_of_ble_eq_true rfl) (A.v rfl (V.ncPtr rfl ?_))
        refine So.n (Nat.le_of_ble_eq_true rfl) (A.v rfl (V.faPtr ty63 rfl ty29 (Nat.le_of_ble_eq_true rfl) rfl rfl (by first | exact Nat.le_of_ble_eq_true rfl | first | rfl | omega | (simp; done) | (simp; omega)) ?_))
        refine So.n (Nat.le_of_ble_eq_true rfl) (A.v rfl (V.ldPtr ty29 rfl rfl rfl (by first | exact Nat.le_of_ble_eq_true rfl | (first | rfl | omega | (simp; done) | (simp; omega))) (v := .p (.v (.int .i64 _))) rfl ?_))
        refine So.n (Nat.le_of_ble_eq_true rfl) (A.v rfl (V.bin (a := (.v (.int .i64 _))) (b := (.v (.int .i64 (0)))) (r := .v (.bool _)) rfl rfl rfl trivial ?_))
        refine So.e ?_
        show HT _ _ _ _ _
        refine R.cond rfl rfl (fun h5 => ?_) (fun h5 => ?_)
        · have h5 := of_decide_eq_true h5
          refine HT.planS S_rtext_4_ok S_rtext_4_det mixed [] [⟨[0, 1, 2, 3, 4, 5, 6, 7, 8, 9, 10, 11, 12, 13, 14, 15, 16], 17, [1, 2, 14, 15]⟩, ⟨[1, 2, 14, 15, 18, 19], 20, [2, 15]⟩, ⟨[2, 15, 21, 22], 23, []⟩] (by kernel_rfl) ?_
          refine Pl.lk ?_
          refine Si.n rfl (Nat.le_of_ble_eq_true rfl) (V.mv (v := .ptr 4 5) rfl ?_)
          refine Si.n rfl (Nat.le_of_ble_eq_true rfl) (V.mv (v := .ptr 1 0) rfl ?_)
          refine Si.n rfl (Nat.le_of_ble_eq_true rfl) (V.mv (v := .ptr 1 0) rfl ?_)
          refine Si.n rfl (Nat.le_of_ble_eq_true rfl) (V.mv (v := .ptr 1 0) rfl ?_)
          refine Si.n rfl (Nat.le_of_ble_eq_true rfl) (V.ncPtr rfl ?_)
          refine Si.n rfl (Nat.le_of_ble_eq_true rfl) (V.faPtr ty63 rfl ty22 (Nat.le_of_ble_eq_true rfl) rfl rfl (by first | exact Nat.le_of_ble_eq_true rfl | first | rfl | omega | (simp; done) | (simp; omega)) ?_)
          refine Si.n rfl (Nat.le_of_ble_eq_true rfl) (V.ldPtr ty22 rfl rfl rfl (by first | exact Nat.le_of_ble_eq_true rfl | (first | rfl | omega | (simp; done) | (simp; omega))) (v := .p (.bs _)) rfl ?_)
          refine Si.n rfl (Nat.le_of_ble_eq_true rfl) (V.mv (v := .ptr 1 0) rfl ?_)
          refine Si.n rfl (Nat.le_of_ble_eq_true rfl) (V.ncPtr rfl ?_)
          refine Si.n rfl (Nat.le_of_ble_eq_true rfl) (V.faPtr ty63 rfl ty3 (Nat.le_of_ble_eq_true rfl) rfl rfl (by first | exact Nat.le_of_ble_eq_true rfl | first | rfl | omega | (simp; done) | (simp; omega)) ?_)
          refine Si.n rfl (Nat.le_of_ble_eq_true rfl) (V.ldPtr ty3 rfl rfl rfl (by first | exact Nat.le_of_ble_eq_true rfl | (first | rfl | omega | (simp; done) | (simp; omega))) (v := .p (.v (.int .i64 _))) rfl ?_)
          refine Si.n rfl (Nat.le_of_ble_eq_true rfl) (V.call [.p (.bs _), .p (.v (.int .i64 _))] 5 rfl rfl rfl rfl ⟨trivial, trivial, trivial⟩ ⟨Nat.le_of_ble_eq_true rfl, Nat.le_of_ble_eq_true rfl, Nat.le_of_ble_eq_true rfl, trivial⟩ (_, _) ⟨.refl _, .refl _, trivial⟩ trivial (by trivial) (Φ := fun (b, i) => ((getTextF b i).2.2 = 0 → 0 ≤ i ∧ i < (getTextF b i).2.1 ∧ (getTextF b i).2.1 ≤ b.length) ∧ (getTextF b i).1.length ≤ 1048576) (fun (b, i) _ => ⟨getTextF_ok b i, getTextF_len b i⟩) (.inl ⟨trivial, trivial, trivial⟩) (v := .tup 3 _) rfl (fun h6 => ?_))
          try dsimp only at h6
          refine Si.n rfl (Nat.le_of_ble_eq_true rfl) (V.mv (v := .tup 3 _) rfl ?_)
          refine Si.n rfl (Nat.le_of_ble_eq_true rfl) (V.ext rfl (Nat.le_of_ble_eq_true rfl) (v := .p (.bs _)) rfl ?_)
          refine Si.n rfl (Nat.le_of_ble_eq_true rfl) (V.ext rfl (Nat.le_of_ble_eq_true rfl) (v := .p (.v (.int .i64 _))) rfl ?_)
          refine Si.n rfl (Nat.le_of_ble_eq_true rfl) (V.ext rfl (Nat.le_of_ble_eq_true rfl) (v := .p (.v (.int .i64 _))) rfl ?_)
          refine Si.n rfl (Nat.le_of_ble_eq_true rfl) (V.ncPtr rfl ?_)
          refine Si.e ?_
          refine ⟨flEq_nil, fun ff => ?_⟩
          refine Lo.s rfl (A.sto ty22 rfl rfl rfl (v := .p (.bs _)) rfl trivial rfl (by first | exact Nat.le_of_ble_eq_true rfl | (first | rfl | omega | (simp; done) | (simp; omega))) rfl rfl ?_)
          refine ⟨_, fun ff => ff, ap0, rfl, FG.id, ?_⟩
          show planA _ _ _ _ _ [(1, .ptr 1 0), (2, .ptr 1 0), (14, .p (.v (.int .i64 _))), (15, .p (.v (.int .i64 _)))] _ _ _
          refine Pl.lk ?_
          refine Si.n rfl (Nat.le_of_ble_eq_true rfl) (V.mv (v := .ptr 1 0) rfl ?_)
          refine Si.n rfl (Nat.le_of_ble_eq_true rfl) (V.mv (v := .ptr 1 0) rfl ?_)
          refine Si.n rfl (Nat.le_of_ble_eq_true rfl) (V.ext rfl (Nat.le_of_ble_eq_true rfl) (v := .p (.v (.int .i64 _))) rfl ?_)
          refine Si.n rfl (Nat.le_of_ble_eq_true rfl) (V.ext rfl (Nat.le_of_ble_eq_true rfl) (v := .p (.v (.int .i64 _))) rfl ?_)
          refine Si.n rfl (Nat.le_of_ble_eq_true rfl) (V.ncPtr rfl ?_)
          refine Si.n rfl (Nat.le_of_ble_eq_true rfl) (V.faPtr ty63 rfl ty3 (Nat.le_of_ble_eq_true rfl) rfl rfl (by first | exact Nat.le_of_ble_eq_true rfl | first | rfl | omega | (simp; done) | (simp; omega)) ?_)
          refine Si.e ?_
          refine ⟨(flEq_cons rfl (flEq_cons rfl (flEq_cons rfl (flEq_cons rfl flEq_nil)))), fun ff => ?_⟩
          refine Lo.s rfl (A.sto ty3 rfl rfl rfl (v := .p (.v (.int .i64 _))) rfl rfl rfl (by first | exact Nat.le_of_ble_eq_true rfl | (first | rfl | omega | (simp; done) | (simp; omega))) rfl rfl ?_)
          refine ⟨_, fun ff => ff, ap0, rfl, FG.id, ?_⟩
          show planA _ _ _ _ _ [(2, .ptr 1 0), (15, .p (.v (.int .i64 _)))] _ _ _
          refine Pl.l0 ?_
          refine Si.n rfl (Nat.le_of_ble_eq_true rfl) (V.mv (v := .ptr 1 0) rfl ?_)
          refine Si.n rfl (Nat.le_of_ble_eq_true rfl) (V.ext rfl (Nat.le_of_ble_eq_true rfl) (v := .p (.v (.int .i64 _))) rfl ?_)
          refine Si.n rfl (Nat.le_of_ble_eq_true rfl) (V.ncPtr rfl ?_)
          refine Si.n rfl (Nat.le_of_ble_eq_true rfl) (V.faPtr ty63 rfl ty29 (Nat.le_of_ble_eq_true rfl) rfl rfl (by first | exact Nat.le_of_ble_eq_true rfl | first | rfl | omega | (simp; done) | (simp; omega)) ?_)
          refine Si.e ?_
          refine ⟨(flEq_cons rfl (flEq_cons rfl flEq_nil)), ?_⟩
          refine Lo.s rfl (A.sto ty29 rfl rfl rfl (v := .p (.v (.int .i64 _))) rfl rfl rfl (by first | exact Nat.le_of_ble_eq_true rfl | (first | rfl | omega | (simp; done) | (simp; omega))) rfl rfl ?_)
          refine Pl.e ?_
          refine Si.e ?_
          refine ⟨flEq_nil, ?_⟩
          show HT _ _ _ _ _
          refine R.tell [] [(1, ⟨63, 1, 3, true, .rows (fun j => ([.bs b, .v (.int .i64 (rd2 b p e).2.1), .v (.int .i64 (rd2 b p e).2.2)] : List PV).getD j (.v undef))⟩), (4, ⟨26, 1, 8, true, .rows (fun j => if j = 5 then .bs ((rd2 b p e).1) else if j = 6 then .bs ([]) else if j = 7 then .bs ([]) else f j)⟩)] [0, 6, 7, 8] [2, 3] (fr0 := [(0, .ptr 1 0), (6, .own 3 0 _), (7, .p (.v (.int .i64 _))), (8, .p (.v (.int .i64 _)))]) (O0 := [(2, ⟨_, _, _, _, .rows _⟩), (3, ⟨_, _, _, _, .cells [.ptr 2 0, .ptr 4 5, .ptr 4 6, .ptr 4 7]⟩)]) rfl rfl ⟨⟨⟨.refl _, rfl⟩, ⟨.refl _, rfl⟩, ⟨.refl _, trivial⟩, ⟨.refl _, trivial⟩, trivial⟩, ⟨⟨_, rfl, .inr (ob_rows (by rfl) (by first | (rw [show rd2 b p e = Go.Vh.gT b (rdT b p e).2.1 from rdT_0 (e := (rdT b p e).2.2) (by assumption)]; (intro j hj; match j, hj with | 0, _ => rfl | 1, _ => rfl | 2, _ => rfl)) | (rw [show rd2 b p e = ([], (rdT b p e).2.1, (rdT b p e).2.2) from rdT_1 (e := (rdT b p e).2.2) (by assumption)]; (intro j hj; match j, hj with | 0, _ => rfl | 1, _ => rfl | 2, _ => rfl)))), trivial⟩, ⟨_, rfl, .inr (ob_rows (by rfl) (by first | (rw [show rd2 b p e = Go.Vh.gT b (rdT b p e).2.1 from rdT_0 (e := (rdT b p e).2.2) (by assumption)]; intro j hj; by_cases h5 : j = 5 <;> by_cases h6 : j = 6 <;> by_cases h7 : j = 7 <;> first | (simp [h5, h6, h7, gT]; done) | (exfalso; omega)) | (rw [show rd2 b p e = ([], (rdT b p e).2.1, (rdT b p e).2.2) from rdT_1 (e := (rdT b p e).2.2) (by assumption)]; intro j hj; by_cases h5 : j = 5 <;> by_cases h6 : j = 6 <;> by_cases h7 : j = 7 <;> first | (simp [h5, h6, h7, gT]; done) | (exfalso; omega)))), trivial⟩, ⟨_, rfl, .inl rfl, trivial⟩, ⟨_, rfl, .inl rfl, ⟨rfl, rfl, rfl, rfl, trivial⟩⟩, trivial⟩⟩ ?_
          show HT _ _ _ _ _
          refine HT.region S_rtext_4_ok ?_
          refine So.n (Nat.le_of_ble_eq_true rfl) (A.v rfl (V.addI rfl rfl (by omega) ?_))
          refine So.n (Nat.le_of_ble_eq_true rfl) (A.v rfl (V.mv (v := .p (.v (.int .i64 _))) rfl ?_))
          refine So.e ?_
          show HT _ _ _ _ _
          refine HT.seq ?_
          refine HT.region S_rtext_4_ok ?_
          refine So.n (Nat.le_of_ble_eq_true rfl) (A.v rfl (V.bin (a := (.v (.int .i64 _))) (b := (.v (.int .i64 _))) (r := .v (.bool _)) rfl rfl rfl trivial ?_))
          refine So.e ?_
          show HT _ _ _ _ _
          refine HT.seq ?_
          refine R.cond rfl rfl (fun h7 => ?_) (fun h7 => ?_)
          · have h7 := of_decide_eq_true h7
            refine HT.skip ?_
            show HT _ _ _ _ _
            refine HT.seq ?_
            refine HT.block ?_
            refine HT.seq ?_
            refine HT.region S_rtext_4_ok ?_
            refine So.n (Nat.le_of_ble_eq_true rfl) (A.v rfl (V.ixOwn10 ty83 ty67 rfl rfl rfl rfl rfl (by omega) rfl ?_))
            refine So.n (Nat.le_of_ble_eq_true rfl) (A.v rfl (V.ldPtr ty67 rfl rfl rfl (Nat.le_of_ble_eq_true rfl) (v := .ptr 4 6) rfl ?_))
            refine So.n (Nat.le_of_ble_eq_true rfl) (A.v rfl (V.as (v := .ptr 4 6) rfl ?_))
            refine So.e ?_
            show HT _ _ _ _ _
            refine HT.seq ?_
            refine HT.region S_rtext_4_ok ?_
            refine So.n (Nat.le_of_ble_eq_true rfl) (A.v rfl (V.mv (v := .ptr 1 0) rfl ?_))
            refine So.n (Nat.le_of_ble_eq_true rfl) (A.v rfl (V.ncPtr rfl ?_))
            refine So.n (Nat.le_of_ble_eq_true rfl) (A.v rfl (V.faPtr ty63 rfl ty29 (Nat.le_of_ble_eq_true rfl) rfl rfl (by first | exact Nat.le_of_ble_eq_true rfl | first | rfl | omega | (simp; done) | (simp; omega)) ?_))
            refine So.n (Nat.le_of_ble_eq_true rfl) (A.v rfl (V.ldPtr ty29 rfl rfl rfl (by first | exact Nat.le_of_ble_eq_true rfl | (first | rfl | omega | (simp; done) | (simp; omega))) (v := .p (.v (.int .i64 _))) rfl ?_))
            refine So.n (Nat.le_of_ble_eq_true rfl) (A.v rfl (V.bin (a := (.v (.int .i64 _))) (b := (.v (.int .i64 (0)))) (r := .v (.bool _)) rfl rfl rfl trivial ?_))
            refine So.e ?_
            show HT _ _ _ _ _
            refine R.cond rfl rfl (fun h8 => ?_) (fun h8 => ?_)
            · have h8 := of_decide_eq_true h8
              refine HT.planS S_rtext_4_ok S_rtext_4_det mixed [] [⟨[0, 1, 2, 3, 4, 5, 6, 7, 8, 9, 10, 11, 12, 13, 14, 15, 16], 17, [1, 2, 14, 15]⟩, ⟨[1, 2, 14, 15, 18, 19], 20, [2, 15]⟩, ⟨[2, 15, 21, 22], 23, []⟩] (by kernel_rfl) ?_
              refine Pl.lk ?_
              refine Si.n rfl (Nat.le_of_ble_eq_true rfl) (V.mv (v := .ptr 4 6) rfl ?_)
              refine Si.n rfl (Nat.le_of_ble_eq_true rfl) (V.mv (v := .ptr 1 0) rfl ?_)
              refine Si.n rfl (Nat.le_of_ble_eq_true rfl) (V.mv (v := .ptr 1 0) rfl ?_)
              refine Si.n rfl (Nat.le_of_ble_eq_true rfl) (V.mv (v := .ptr 1 0) rfl ?_)
              refine Si.n rfl (Nat.le_of_ble_eq_true rfl) (V.ncPtr rfl ?_)
              refine Si.n rfl (Nat.le_of_ble_eq_true rfl) (V.faPtr ty63 rfl ty22 (Nat.le_of_ble_eq_true rfl) rfl rfl (by first | exact Nat.le_of_ble_eq_true rfl | first | rfl | omega | (simp; done) | (simp; omega)) ?_)
              refine Si.n rfl (Nat.le_of_ble_eq_true rfl) (V.ldPtr ty22 rfl rfl rfl (by first | exact Nat.le_of_ble_eq_true rfl | (first | rfl | omega | (simp; done) | (simp; omega))) (v := .p (.bs _)) rfl ?_)
              refine Si.n rfl (Nat.le_of_ble_eq_true rfl) (V.mv (v := .ptr 1 0) rfl ?_)
              refine Si.n rfl (Nat.le_of_ble_eq_true rfl) (V.ncPtr rfl ?_)
              refine Si.n rfl (Nat.le_of_ble_eq_true rfl) (V.faPtr ty63 rfl ty3 (Nat.le_of_ble_eq_true rfl) rfl rfl (by first | exact Nat.le_of_ble_eq_true rfl | first | rfl | omega | (simp; done) | (simp; omega)) ?_)
              refine Si.n rfl (Nat.le_of_ble_eq_true rfl) (V.ldPtr ty3 rfl rfl rfl (by first | exact Nat.le_of_ble_eq_true rfl | (first | rfl | omega | (simp; done) | (simp; omega))) (v := .p (.v (.int .i64 _))) rfl ?_)
              refine Si.n rfl (Nat.le_of_ble_eq_true rfl) (V.call [.p (.bs _), .p (.v (.int .i64 _))] 5 rfl rfl rfl rfl ⟨trivial, trivial, trivial⟩ ⟨Nat.le_of_ble_eq_true rfl, Nat.le_of_ble_eq_true rfl, Nat.le_of_ble_eq_true rfl, trivial⟩ (_, _) ⟨.refl _, .refl _, trivial⟩ trivial (by trivial) (Φ := fun (b, i) => ((getTextF b i).2.2 = 0 → 0 ≤ i ∧ i < (getTextF b i).2.1 ∧ (getTextF b i).2.1 ≤ b.length) ∧ (getTextF b i).1.length ≤ 1048576) (fun (b, i) _ => ⟨getTextF_ok b i, getTextF_len b i⟩) (.inl ⟨trivial, trivial, trivial⟩) (v := .tup 3 _) rfl (fun h9 => ?_))
              try dsimp only at h9
              refine Si.n rfl (Nat.le_of_ble_eq_true rfl) (V.mv (v := .tup 3 _) rfl ?_)
              refine Si.n rfl (Nat.le_of_ble_eq_true rfl) (V.ext rfl (Nat.le_of_ble_eq_true rfl) (v := .p (.bs _)) rfl ?_)
              refine Si.n rfl (Nat.le_of_ble_eq_true rfl) (V.ext rfl (Nat.le_of_ble_eq_true rfl) (v := .p (.v (.int .i64 _))) rfl ?_)
              refine Si.n rfl (Nat.le_of_ble_eq_true rfl) (V.ext rfl (Nat.le_of_ble_eq_true rfl) (v := .p (.v (.int .i64 _))) rfl ?_)
              refine Si.n rfl (Nat.le_of_ble_eq_true rfl) (V.ncPtr rfl ?_)
              refine Si.e ?_
              refine ⟨flEq_nil, fun ff => ?_⟩
              refine Lo.s rfl (A.sto ty22 rfl rfl rfl (v := .p (.bs _)) rfl trivial rfl (by first | exact Nat.le_of_ble_eq_true rfl | (first | rfl | omega | (simp; done) | (simp; omega))) rfl rfl ?_)
              refine ⟨_, fun ff => ff, ap0, rfl, FG.id, ?_⟩
              show planA _ _ _ _ _ [(1, .ptr 1 0), (2, .ptr 1 0), (14, .p (.v (.int .i64 _))), (15, .p (.v (.int .i64 _)))] _ _ _
              refine Pl.lk ?_
              refine Si.n rfl (Nat.le_of_ble_eq_true rfl) (V.mv (v := .ptr 1 0) rfl ?_)
              refine Si.n rfl (Nat.le_of_ble_eq_true rfl) (V.mv (v := .ptr 1 0) rfl ?_)
              refine Si.n rfl (Nat.le_of_ble_eq_true rfl) (V.ext rfl (Nat.le_of_ble_eq_true rfl) (v := .p (.v (.int .i64 _))) rfl ?_)
              refine Si.n rfl (Nat.le_of_ble_eq_true rfl) (V.ext rfl (Nat.le_of_ble_eq_true rfl) (v := .p (.v (.int .i64 _))) rfl ?_)
              refine Si.n rfl (Nat.le_of_ble_eq_true rfl) (V.ncPtr rfl ?_)
              refine Si.n rfl (Nat.le_of_ble_eq_true rfl) (V.faPtr ty63 rfl ty3 (Nat.le_of_ble_eq_true rfl) rfl rfl (by first | exact Nat.le_of_ble_eq_true rfl | first | rfl | omega | (simp; done) | (simp; omega)) ?_)
              refine Si.e ?_
              refine ⟨(flEq_cons rfl (flEq_cons rfl (flEq_cons rfl (flEq_cons rfl flEq_nil)))), fun ff => ?_⟩
              refine Lo.s rfl (A.sto ty3 rfl rfl rfl (v := .p (.v (.int .i64 _))) rfl rfl rfl (by first | exact Nat.le_of_ble_eq_true rfl | (first | rfl | omega | (simp; done) | (simp; omega))) rfl rfl ?_)
              refine ⟨_, fun ff => ff, ap0, rfl, FG.id, ?_⟩
              show planA _ _ _ _ _ [(2, .ptr 1 0), (15, .p (.v (.int .i64 _)))] _ _ _
              refine Pl.l0 ?_
              refine Si.n rfl (Nat.le_of_ble_eq_true rfl) (V.mv (v := .ptr 1 0) rfl ?_)
              refine Si.n rfl (Nat.le_of_ble_eq_true rfl) (V.ext rfl (Nat.le_of_ble_eq_true rfl) (v := .p (.v (.int .i64 _))) rfl ?_)
              refine Si.n rfl (Nat.le_of_ble_eq_true rfl) (V.ncPtr rfl ?_)
              refine Si.n rfl (Nat.le_of_ble_eq_true rfl) (V.faPtr ty63 rfl ty29 (Nat.le_of_ble_eq_true rfl) rfl rfl (by first | exact Nat.le_of_ble_eq_true rfl | first | rfl | omega | (simp; done) | (simp; omega)) ?_)
              refine Si.e ?_
              refine ⟨(flEq_cons rfl (flEq_cons rfl flEq_nil)), ?_⟩
              refine Lo.s rfl (A.sto ty29 rfl rfl rfl (v := .p (.v (.int .i64 _))) rfl rfl rfl (by first | exact Nat.le_of_ble_eq_true rfl | (first | rfl | omega | (simp; done) | (simp; omega))) rfl rfl ?_)
              refine Pl.e ?_
              refine Si.e ?_
              refine ⟨flEq_nil, ?_⟩
              show HT _ _ _ _ _
              refine R.tell [] [(1, ⟨63, 1, 3, true, .rows (fun j => ([.bs b, .v (.int .i64 (rd3 b p e).2.1), .v (.int .i64 (rd3 b p e).2.2)] : List PV).getD j (.v undef))⟩), (4, ⟨26, 1, 8, true, .rows (fun j => if j = 5 then .bs ((rd2 b p e).1) else if j = 6 then .bs ((rd3 b p e).1) else if j = 7 then .bs ([]) else f j)⟩)] [0, 6, 7, 8] [2, 3] (fr0 := [(0, .ptr 1 0), (6, .own 3 0 _), (7, .p (.v (.int .i64 _))), (8, .p (.v (.int .i64 _)))]) (O0 := [(2, ⟨_, _, _, _, .rows _⟩), (3, ⟨_, _, _, _, .cells [.ptr 2 0, .ptr 4 5, .ptr 4 6, .ptr 4 7]⟩)]) rfl rfl ⟨⟨⟨.refl _, rfl⟩, ⟨.refl _, rfl⟩, ⟨.refl _, trivial⟩, ⟨.refl _, trivial⟩, trivial⟩, ⟨⟨_, rfl, .inr (ob_rows (by rfl) (by first | (rw [show rd3 b p e = Go.Vh.gT b (rd2 b p e).2.1 from rdT_0 (e := (rd2 b p e).2.2) (by assumption)]; (intro j hj; match j, hj with | 0, _ => rfl | 1, _ => rfl | 2, _ => rfl)) | (rw [show rd3 b p e = ([], (rd2 b p e).2.1, (rd2 b p e).2.2) from rdT_1 (e := (rd2 b p e).2.2) (by assumption)]; (intro j hj; match j, hj with | 0, _ => rfl | 1, _ => rfl | 2, _ => rfl)))), trivial⟩, ⟨_, rfl, .inr (ob_rows (by rfl) (by first | (rw [show rd3 b p e = Go.Vh.gT b (rd2 b p e).2.1 from rdT_0 (e := (rd2 b p e).2.2) (by assumption)]; intro j hj; by_cases h5 : j = 5 <;> by_cases h6 : j = 6 <;> by_cases h7 : j = 7 <;> first | (simp [h5, h6, h7, gT]; done) | (exfalso; omega)) | (rw [show rd3 b p e = ([], (rd2 b p e).2.1, (rd2 b p e).2.2) from rdT_1 (e := (rd2 b p e).2.2) (by assumption)]; intro j hj; by_cases h5 : j = 5 <;> by_cases h6 : j = 6 <;> by_cases h7 : j = 7 <;> first | (simp [h5, h6, h7, gT]; done) | (exfalso; omega)))), trivial⟩, ⟨_, rfl, .inl rfl, trivial⟩, ⟨_, rfl, .inl rfl, ⟨rfl, rfl, rfl, rfl, trivial⟩⟩, trivial⟩⟩ ?_
              show HT _ _ _ _ _
              refine HT.region S_rtext_4_ok ?_
              refine So.n (Nat.le_of_ble_eq_true rfl) (A.v rfl (V.addI rfl rfl (by omega) ?_))
              refine So.n (Nat.le_of_ble_eq_true rfl) (A.v rfl (V.mv (v := .p (.v (.int .i64 _))) rfl ?_))
              refine So.e ?_
              show HT _ _ _ _ _
              refine HT.seq ?_
              refine HT.region S_rtext_4_ok ?_
              refine So.n (Nat.le_of_ble_eq_true rfl) (A.v rfl (V.bin (a := (.v (.int .i64 _))) (b := (.v (.int .i64 _))) (r := .v (.bool _)) rfl rfl rfl trivial ?_))
              refine So.e ?_
              show HT _ _ _ _ _
              refine HT.seq ?_
              refine R.cond rfl rfl (fun h10 => ?_) (fun h10 => ?_)
              · have h10 := of_decide_eq_true h10
                refine HT.skip ?_
                show HT _ _ _ _ _
                refine HT.seq ?_
                refine HT.block ?_
                refine HT.seq ?_
                refine HT.region S_rtext_4_ok ?_
                refine So.n (Nat.le_of_ble_eq_true rfl) (A.v rfl (V.ixOwn10 ty83 ty67 rfl rfl rfl rfl rfl (by omega) rfl ?_))
                refine So.n (Nat.le_of_ble_eq_true rfl) (A.v rfl (V.ldPtr ty67 rfl rfl rfl (Nat.le_of_ble_eq_true rfl) (v := .ptr 4 7) rfl ?_))
                refine So.n (Nat.le_of_ble_eq_true rfl) (A.v rfl (V.as (v := .ptr 4 7) rfl ?_))
                refine So.e ?_
                show HT _ _ _ _ _
                refine HT.seq ?_
                refine HT.region S_rtext_4_ok ?_
                refine So.n (Nat.le_of_ble_eq_true rfl) (A.v rfl (V.mv (v := .ptr 1 0) rfl ?_))
                refine So.n (Nat.le_of_ble_eq_true rfl) (A.v rfl (V.ncPtr rfl ?_))
                refine So.n (Nat.le_of_ble_eq_true rfl) (A.v rfl (V.faPtr ty63 rfl ty29 (Nat.le_of_ble_eq_true rfl) rfl rfl (by first | exact Nat.le_of_ble_eq_true rfl | first | rfl | omega | (simp; done) | (simp; omega)) ?_))
                refine So.n (Nat.le_of_ble_eq_true rfl) (A.v rfl (V.ldPtr ty29 rfl rfl rfl (by first | exact Nat.le_of_ble_eq_true rfl | (first | rfl | omega | (simp; done) | (simp; omega))) (v := .p (.v (.int .i64 _))) rfl ?_))
                refine So.n (Nat.le_of_ble_eq_true rfl) (A.v rfl (V.bin (a := (.v (.int .i64 _))) (b := (.v (.int .i64 (0)))) (r := .v (.bool _)) rfl rfl rfl trivial ?_))
                refine So.e ?_
                show HT _ _ _ _ _
                refine R.cond rfl rfl (fun h11 => ?_) (fun h11 => ?_)
                · have h11 := of_decide_eq_true h11
                  refine HT.planS S_rtext_4_ok S_rtext_4_det mixed [] [⟨[0, 1, 2, 3, 4, 5, 6, 7, 8, 9, 10, 11, 12, 13, 14, 15, 16], 17, [1, 2, 14, 15]⟩, ⟨[1, 2, 14, 15, 18, 19], 20, [2, 15]⟩, ⟨[2, 15, 21, 22], 23, []⟩] (by kernel_rfl) ?_
                  refine Pl.lk ?_
                  refine Si.n rfl (Nat.le_of_ble_eq_true rfl) (V.mv (v := .ptr 4 7) rfl ?_)
                  refine Si.n rfl (Nat.le_of_ble_eq_true rfl) (V.mv (v := .ptr 1 0) rfl ?_)
                  refine Si.n rfl (Nat.le_of_ble_eq_true rfl) (V.mv (v := .ptr 1 0) rfl ?_)
                  refine Si.n rfl (Nat.le_of_ble_eq_true rfl) (V.mv (v := .ptr 1 0) rfl ?_)
                  refine Si.n rfl (Nat.le_of_ble_eq_true rfl) (V.ncPtr rfl ?_)
                  refine Si.n rfl (Nat.le_of_ble_eq_true rfl) (V.faPtr ty63 rfl ty22 (Nat.le_of_ble_eq_true rfl) rfl rfl (by first | exact Nat.le_of_ble_eq_true rfl | first | rfl | omega | (simp; done) | (simp; omega)) ?_)
                  refine Si.n rfl (Nat.le_of_ble_eq_true rfl) (V.ldPtr ty22 rfl rfl rfl (by first | exact Nat.le_of_ble_eq_true rfl | (first | rfl | omega | (simp; done) | (simp; omega))) (v := .p (.bs _)) rfl ?_)
                  refine Si.n rfl (Nat.le_of_ble_eq_true rfl) (V.mv (v := .ptr 1 0) rfl ?_)
                  refine Si.n rfl (Nat.le_of_ble_eq_true rfl) (V.ncPtr rfl ?_)
                  refine Si.n rfl (Nat.le_of_ble_eq_true rfl) (V.faPtr ty63 rfl ty3 (Nat.le_of_ble_eq_true rfl) rfl rfl (by first | exact Nat.le_of_ble_eq_true rfl | first | rfl | omega | (simp; done) | (simp; omega)) ?_)
                  refine Si.n rfl (Nat.le_of_ble_eq_true rfl) (V.ldPtr ty3 rfl rfl rfl (by first | exact Nat.le_of_ble_eq_true rfl | (first | rfl | omega | (simp; done) | (simp; omega))) (v := .p (.v (.int .i64 _))) rfl ?_)
                  refine Si.n rfl (Nat.le_of_ble_eq_true rfl) (V.call [.p (.bs _), .p (.v (.int .i64 _))] 5 rfl rfl rfl rfl ⟨trivial, trivial, trivial⟩ ⟨Nat.le_of_ble_eq_true rfl, Nat.le_of_ble_eq_true rfl, Nat.le_of_ble_eq_true rfl, trivial⟩ (_, _) ⟨.refl _, .refl _, trivial⟩ trivial (by trivial) (Φ := fun (b, i) => ((getTextF b i).2.2 = 0 → 0 ≤ i ∧ i < (getTextF b i).2.1 ∧ (getTextF b i).2.1 ≤ b.length) ∧ (getTextF b i).1.length ≤ 1048576) (fun (b, i) _ => ⟨getTextF_ok b i, getTextF_len b i⟩) (.inl ⟨trivial, trivial, trivial⟩) (v := .tup 3 _) rfl (fun h12 => ?_))
                  try dsimp only at h12
                  refine Si.n rfl (Nat.le_of_ble_eq_true rfl) (V.mv (v := .tup 3 _) rfl ?_)
                  refine Si.n rfl (Nat.le_of_ble_eq_true rfl) (V.ext rfl (Nat.le_of_ble_eq_true rfl) (v := .p (.bs _)) rfl ?_)
                  refine Si.n rfl (Nat.le_of_ble_eq_true rfl) (V.ext rfl (Nat.le_of_ble_eq_true rfl) (v := .p (.v (.int .i64 _))) rfl ?_)
                  refine Si.n rfl (Nat.le_of_ble_eq_true rfl) (V.ext rfl (Nat.le_of_ble_eq_true rfl) (v := .p (.v (.int .i64 _))) rfl ?_)
                  refine Si.n rfl (Nat.le_of_ble_eq_true rfl) (V.ncPtr rfl ?_)
                  refine Si.e ?_
                  refine ⟨flEq_nil, fun ff => ?_⟩
                  refine Lo.s rfl (A.sto ty22 rfl rfl rfl (v := .p (.bs _)) rfl trivial rfl (by first | exact Nat.le_of_ble_eq_true rfl | (first | rfl | omega | (simp; done) | (simp; omega))) rfl rfl ?_)
                  refine ⟨_, fun ff => ff, ap0, rfl, FG.id, ?_⟩
                  show planA _ _ _ _ _ [(1, .ptr 1 0), (2, .ptr 1 0), (14, .p (.v (.int .i64 _))), (15, .p (.v (.int .i64 _)))] _ _ _
                  refine Pl.lk ?_
                  refine Si.n rfl (Nat.le_of_ble_eq_true rfl) (V.mv (v := .ptr 1 0) rfl ?_)
                  refine Si.n rfl (Nat.le_of_ble_eq_true rfl) (V.mv (v := .ptr 1 0) rfl ?_)
                  refine Si.n rfl (Nat.le_of_ble_eq_true rfl) (V.ext rfl (Nat.le_of_ble_eq_true rfl) (v := .p (.v (.int .i64 _))) rfl ?_)
                  refine Si.n rfl (Nat.le_of_ble_eq_true rfl) (V.ext rfl (Nat.le_of_ble_eq_true rfl) (v := .p (.v (.int .i64 _))) rfl ?_)
                  refine Si.n rfl (Nat.le_of_ble_eq_true rfl) (V.ncPtr rfl ?_)
                  refine Si.n rfl (Nat.le_of_ble_eq_true rfl) (V.faPtr ty63 rfl ty3 (Nat.le_of_ble_eq_true rfl) rfl rfl (by first | exact Nat.le_of_ble_eq_true rfl | first | rfl | omega | (simp; done) | (simp; omega)) ?_)
                  refine Si.e ?_
                  refine ⟨(flEq_cons rfl (flEq_cons rfl (flEq_cons rfl (flEq_cons rfl flEq_nil)))), fun ff => ?_⟩
                  refine Lo.s rfl (A.sto ty3 rfl rfl rfl (v := .p (.v (.int .i64 _))) rfl rfl rfl (by first | exact Nat.le_of_ble_eq_true rfl | (first | rfl | omega | (simp; done) | (simp; omega))) rfl rfl ?_)
                  refine ⟨_, fun ff => ff, ap0, rfl, FG.id, ?_⟩
                  show planA _ _ _ _ _ [(2, .ptr 1 0), (15, .p (.v (.int .i64 _)))] _ _ _
                  refine Pl.l0 ?_
                  refine Si.n rfl (Nat.le_of_ble_eq_true rfl) (V.mv (v := .ptr 1 0) rfl ?_)
                  refine Si.n rfl (Nat.le_of_ble_eq_true rfl) (V.ext rfl (Nat.le_of_ble_eq_true rfl) (v := .p (.v (.int .i64 _))) rfl ?_)
                  refine Si.n rfl (Nat.le_of_ble_eq_true rfl) (V.ncPtr rfl ?_)
                  refine Si.n rfl (Nat.le_of_ble_eq_true rfl) (V.faPtr ty63 rfl ty29 (Nat.le_of_ble_eq_true rfl) rfl rfl (by first | exact Nat.le_of_ble_eq_true rfl | first | rfl | omega | (simp; done) | (simp; omega)) ?_)
                  refine Si.e ?_
                  refine ⟨(flEq_cons rfl (flEq_cons rfl flEq_nil)), ?_⟩
                  refine Lo.s rfl (A.sto ty29 rfl rfl rfl (v := .p (.v (.int .i64 _))) rfl rfl rfl (by first | exact Nat.le_of_ble_eq_true rfl | (first | rfl | omega | (simp; done) | (simp; omega))) rfl rfl ?_)
                  refine Pl.e ?_
                  refine Si.e ?_
                  refine ⟨flEq_nil, ?_⟩
                  show HT _ _ _ _ _
                  refine R.tell [] [(1, ⟨63, 1, 3, true, .rows (fun j => ([.bs b, .v (.int .i64 (rd4 b p e).2.1), .v (.int .i64 (rd4 b p e).2.2)] : List PV).getD j (.v undef))⟩), (4, ⟨26, 1, 8, true, .rows (fun j => if j = 5 then .bs ((rd2 b p e).1) else if j = 6 then .bs ((rd3 b p e).1) else if j = 7 then .bs ((rd4 b p e).1) else f j)⟩)] [0, 6, 7, 8] [2, 3] (fr0 := [(0, .ptr 1 0), (6, .own 3 0 _), (7, .p (.v (.int .i64 _))), (8, .p (.v (.int .i64 _)))]) (O0 := [(2, ⟨_, _, _, _, .rows _⟩), (3, ⟨_, _, _, _, .cells [.ptr 2 0, .ptr 4 5, .ptr 4 6, .ptr 4 7]⟩)]) rfl rfl ⟨⟨⟨.refl _, rfl⟩, ⟨.refl _, rfl⟩, ⟨.refl _, trivial⟩, ⟨.refl _, trivial⟩, trivial⟩, ⟨⟨_, rfl, .inr (ob_rows (by rfl) (by first | (rw [show rd4 b p e = Go.Vh.gT b (rd3 b p e).2.1 from rdT_0 (e := (rd3 b p e).2.2) (by assumption)]; (intro j hj; match j, hj with | 0, _ => rfl | 1, _ => rfl | 2, _ => rfl)) | (rw [show rd4 b p e = ([], (rd3 b p e).2.1, (rd3 b p e).2.2) from rdT_1 (e := (rd3 b p e).2.2) (by assumption)]; (intro j hj; match j, hj with | 0, _ => rfl | 1, _ => rfl | 2, _ => rfl)))), trivial⟩, ⟨_, rfl, .inr (ob_rows (by rfl) (by first | (rw [show rd4 b p e = Go.Vh.gT b (rd3 b p e).2.1 from rdT_0 (e := (rd3 b p e).2.2) (by assumption)]; intro j hj; by_cases h5 : j = 5 <;> by_cases h6 : j = 6 <;> by_cases h7 : j = 7 <;> first | (simp [h5, h6, h7, gT]; done) | (exfalso; omega)) | (rw [show rd4 b p e = ([], (rd3 b p e).2.1, (rd3 b p e).2.2) from rdT_1 (e := (rd3 b p e).2.2) (by assumption)]; intro j hj; by_cases h5 : j = 5 <;> by_cases h6 : j = 6 <;> by_cases h7 : j = 7 <;> first | (simp [h5, h6, h7, gT]; done) | (exfalso; omega)))), trivial⟩, ⟨_, rfl, .inl rfl, trivial⟩, ⟨_, rfl, .inl rfl, ⟨rfl, rfl, rfl, rfl, trivial⟩⟩, trivial⟩⟩ ?_
                  show HT _ _ _ _ _
                  refine HT.region S_rtext_4_ok ?_
                  refine So.n (Nat.le_of_ble_eq_true rfl) (A.v rfl (V.addI rfl rfl (by omega) ?_))
                  refine So.n (Nat.le_of_ble_eq_true rfl) (A.v rfl (V.mv (v := .p (.v (.int .i64 _))) rfl ?_))
                  refine So.e ?_
                  show HT _ _ _ _ _
                  refine HT.seq ?_
                  refine HT.region S_rtext_4_ok ?_
                  refine So.n (Nat.le_of_ble_eq_true rfl) (A.v rfl (V.bin (a := (.v (.int .i64 _))) (b := (.v (.int .i64 _))) (r := .v (.bool _)) rfl rfl rfl trivial ?_))
                  refine So.e ?_
                  show HT _ _ _ _ _
                  refine HT.seq ?_
                  refine R.cond rfl rfl (fun h13 => ?_) (fun h13 => ?_)
                  · have h13 := of_decide_eq_true h13
                    exfalso; omega
                  · have h13 := of_decide_eq_false h13
                    refine HT.exit ?_
                    exact ret_ok (sg [(1, 1), (2, 2), (4, 4)]) h rfl rfl rfl ⟨trivial, trivial, trivial, trivial⟩ trivial rfl ⟨trivial, ⟨⟨_, rfl, .inr (ob_rows (by first | rfl | ((try dsimp only); (first | with_reducible rfl | (intro j hj; rfl)))) (by first | rfl | ((try dsimp only); (first | with_reducible rfl | (intro j hj; rfl))))), trivial⟩, ⟨_, rfl, .inr (ob_rows (by first | rfl | ((try dsimp only); (first | with_reducible rfl | (intro j hj; rfl)))) (by first | rfl | ((try dsimp only); (first | with_reducible rfl | (intro j hj; rfl))))), trivial⟩, ⟨_, rfl, .inr (ob_rows (by first | rfl | ((try dsimp only); (first | with_reducible rfl | (intro j hj; rfl)))) (by first | rfl | ((try dsimp only); (first | with_reducible rfl | (intro j hj; rfl))))), trivial⟩, trivial⟩⟩
                · have h11 := of_decide_eq_false h11
                  refine HT.skip ?_
                  show HT _ _ _ _ _
                  refine R.tell [] [(1, ⟨63, 1, 3, true, .rows (fun j => ([.bs b, .v (.int .i64 (rd4 b p e).2.1), .v (.int .i64 (rd4 b p e).2.2)] : List PV).getD j (.v undef))⟩), (4, ⟨26, 1, 8, true, .rows (fun j => if j = 5 then .bs ((rd2 b p e).1) else if j = 6 then .bs ((rd3 b p e).1) else if j = 7 then .bs ((rd4 b p e).1) else f j)⟩)] [0, 6, 7, 8] [2, 3] (fr0 := [(0, .ptr 1 0), (6, .own 3 0 _), (7, .p (.v (.int .i64 _))), (8, .p (.v (.int .i64 _)))]) (O0 := [(2, ⟨_, _, _, _, .rows _⟩), (3, ⟨_, _, _, _, .cells [.ptr 2 0, .ptr 4 5, .ptr 4 6, .ptr 4 7]⟩)]) rfl rfl ⟨⟨⟨.refl _, rfl⟩, ⟨.refl _, rfl⟩, ⟨.refl _, trivial⟩, ⟨.refl _, trivial⟩, trivial⟩, ⟨⟨_, rfl, .inr (ob_rows (by rfl) (by first | (rw [show rd4 b p e = Go.Vh.gT b (rd3 b p e).2.1 from rdT_0 (e := (rd3 b p e).2.2) (by assumption)]; (intro j hj; match j, hj with | 0, _ => rfl | 1, _ => rfl | 2, _ => rfl)) | (rw [show rd4 b p e = ([], (rd3 b p e).2.1, (rd3 b p e).2.2) from rdT_1 (e := (rd3 b p e).2.2) (by assumption)]; (intro j hj; match j, hj with | 0, _ => rfl | 1, _ => rfl | 2, _ => rfl)))), trivial⟩, ⟨_, rfl, .inr (ob_rows (by rfl) (by first | (rw [show rd4 b p e = Go.Vh.gT b (rd3 b p e).2.1 from rdT_0 (e := (rd3 b p e).2.2) (by assumption)]; intro j hj; by_cases h5 : j = 5 <;> by_cases h6 : j = 6 <;> by_cases h7 : j = 7 <;> first | (simp [h5, h6, h7, gT]; done) | (exfalso; omega)) | (rw [show rd4 b p e = ([], (rd3 b p e).2.1, (rd3 b p e).2.2) from rdT_1 (e := (rd3 b p e).2.2) (by assumption)]; intro j hj; by_cases h5 : j = 5 <;> by_cases h6 : j = 6 <;> by_cases h7 : j = 7 <;> first | (simp [h5, h6, h7, gT]; done) | (exfalso; omega)))), trivial⟩, ⟨_, rfl, .inl rfl, trivial⟩, ⟨_, rfl, .inl rfl, ⟨rfl, rfl, rfl, rfl, trivial⟩⟩, trivial⟩⟩ ?_
                  show HT _ _ _ _ _
                  refine HT.region S_rtext_4_ok ?_
                  refine So.n (Nat.le_of_ble_eq_true rfl) (A.v rfl (V.addI rfl rfl (by omega) ?_))
                  refine So.n (Nat.le_of_ble_eq_true rfl) (A.v rfl (V.mv (v := .p (.v (.int .i64 _))) rfl ?_))
                  refine So.e ?_
                  show HT _ _ _ _ _
                  refine HT.seq ?_
                  refine HT.region S_rtext_4_ok ?_
                  refine So.n (Nat.le_of_ble_eq_true rfl) (A.v rfl (V.bin (a := (.v (.int .i64 _))) (b := (.v (.int .i64 _))) (r := .v (.bool _)) rfl rfl rfl trivial ?_))
                  refine So.e ?_
                  show HT _ _ _ _ _
                  refine HT.seq ?_
                  refine R.cond rfl rfl (fun h14 => ?_) (fun h14 => ?_)
                  · have h14 := of_decide_eq_true h14
                    exfalso; omega
                  · have h14 := of_decide_eq_false h14
                    refine HT.exit ?_
                    exact ret_ok (sg [(1, 1), (2, 2), (4, 4)]) h rfl rfl rfl ⟨trivial, trivial, trivial, trivial⟩ trivial rfl ⟨trivial, ⟨⟨_, rfl, .inr (ob_rows (by first | rfl | ((try dsimp only); (first | with_reducible rfl | (intro j hj; rfl)))) (by first | rfl | ((try dsimp only); (first | with_reducible rfl | (intro j hj; rfl))))), trivial⟩, ⟨_, rfl, .inr (ob_rows (by first | rfl | ((try dsimp only); (first | with_reducible rfl | (intro j hj; rfl)))) (by first | rfl | ((try dsimp only); (first | with_reducible rfl | (intro j hj; rfl))))), trivial⟩, ⟨_, rfl, .inr (ob_rows (by first | rfl | ((try dsimp only); (first | with_reducible rfl | (intro j hj; rfl)))) (by first | rfl | ((try dsimp only); (first | with_reducible rfl | (intro j hj; rfl))))), trivial⟩, trivial⟩⟩
              · have h10 := of_decide_eq_false h10
                exfalso; omega
            · have h8 := of_decide_eq_false h8
              refine HT.skip ?_
              show HT _ _ _ _ _
              refine R.tell [] [(1, ⟨63, 1, 3, true, .rows (fun j => ([.bs b, .v (.int .i64 (rd3 b p e).2.1), .v (.int .i64 (rd3 b p e).2.2)] : List PV).getD j (.v undef))⟩), (4, ⟨26, 1, 8, true, .rows (fun j => if j = 5 then .bs ((rd2 b p e).1) else if j = 6 then .bs ((rd3 b p e).1) else if j = 7 then .bs ([]) else f j)⟩)] [0, 6, 7, 8] [2, 3] (fr0 := [(0, .ptr 1 0), (6, .own 3 0 _), (7, .p (.v (.int .i64 _))), (8, .p (.v (.int .i64 _)))]) (O0 := [(2, ⟨_, _, _, _, .rows _⟩), (3, ⟨_, _, _, _, .cells [.ptr 2 0, .ptr 4 5, .ptr 4 6, .ptr 4 7]⟩)]) rfl rfl ⟨⟨⟨.refl _, rfl⟩, ⟨.refl _, rfl⟩, ⟨.refl _, trivial⟩, ⟨.refl _, trivial⟩, trivial⟩, ⟨⟨_, rfl, .inr (ob_rows (by rfl) (by first | (rw [show rd3 b p e = Go.Vh.gT b (rd2 b p e).2.1 from rdT_0 (e := (rd2 b p e).2.2) (by assumption)]; (intro j hj; match j, hj with | 0, _ => rfl | 1, _ => rfl | 2, _ => rfl)) | (rw [show rd3 b p e = ([], (rd2 b p e).2.1, (rd2 b p e).2.2) from rdT_1 (e := (rd2 b p e).2.2) (by assumption)]; (intro j hj; match j, hj with | 0, _ => rfl | 1, _ => rfl | 2, _ => rfl)))), trivial⟩, ⟨_, rfl, .inr (ob_rows (by rfl) (by first | (rw [show rd3 b p e = Go.Vh.gT b (rd2 b p e).2.1 from rdT_0 (e := (rd2 b p e).2.2) (by assumption)]; intro j hj; by_cases h5 : j = 5 <;> by_cases h6 : j = 6 <;> by_cases h7 : j = 7 <;> first | (simp [h5, h6, h7, gT]; done) | (exfalso; omega)) | (rw [show rd3 b p e = ([], (rd2 b p e).2.1, (rd2 b p e).2.2) from rdT_1 (e := (rd2 b p e).2.2) (by assumption)]; intro j hj; by_cases h5 : j = 5 <;> by_cases h6 : j = 6 <;> by_cases h7 : j = 7 <;> first | (simp [h5, h6, h7, gT]; done) | (exfalso; omega)))), trivial⟩, ⟨_, rfl, .inl rfl, trivial⟩, ⟨_, rfl, .inl rfl, ⟨rfl, rfl, rfl, rfl, trivial⟩⟩, trivial⟩⟩ ?_
              show HT _ _ _ _ _
              refine HT.region S_rtext_4_ok ?_
              refine So.n (Nat.le_of_ble_eq_true rfl) (A.v rfl (V.addI rfl rfl (by omega) ?_))
              refine So.n (Nat.le_of_ble_eq_true rfl) (A.v rfl (V.mv (v := .p (.v (.int .i64 _))) rfl ?_))
              refine So.e ?_
              show HT _ _ _ _ _
              refine HT.seq ?_
              refine HT.region S_rtext_4_ok ?_
              refine So.n (Nat.le_of_ble_eq_true rfl) (A.v rfl (V.bin (a := (.v (.int .i64 _))) (b := (.v (.int .i64 _))) (r := .v (.bool _)) rfl rfl rfl trivial ?_))
              refine So.e ?_
              show HT _ _ _ _ _
              refine HT.seq ?_
              refine R.cond rfl rfl (fun h15 => ?_) (fun h15 => ?_)
              · have h15 := of_decide_eq_true h15
                refine HT.skip ?_
                show HT _ _ _ _ _
                refine HT.seq ?_
                refine HT.block ?_
                refine HT.seq ?_
                refine HT.region S_rtext_4_ok ?_
                refine So.n (Nat.le_of_ble_eq_true rfl) (A.v rfl (V.ixOwn10 ty83 ty67 rfl rfl rfl rfl rfl (by omega) rfl ?_))
                refine So.n (Nat.le_of_ble_eq_true rfl) (A.v rfl (V.ldPtr ty67 rfl rfl rfl (Nat.le_of_ble_eq_true rfl) (v := .ptr 4 7) rfl ?_))
                refine So.n (Nat.le_of_ble_eq_true rfl) (A.v rfl (V.as (v := .ptr 4 7) rfl ?_))
                refine So.e ?_
                show HT _ _ _ _ _
                refine HT.seq ?_
                refine HT.region S_rtext_4_ok ?_
                refine So.n (Nat.le_of_ble_eq_true rfl) (A.v rfl (V.mv (v := .ptr 1 0) rfl ?_))
                refine So.n (Nat.le_of_ble_eq_true rfl) (A.v rfl (V.ncPtr rfl ?_))
                refine So.n (Nat.le_of_ble_eq_true rfl) (A.v rfl (V.faPtr ty63 rfl ty29 (Nat.le_of_ble_eq_true rfl) rfl rfl (by first | exact Nat.le_of_ble_eq_true rfl | first | rfl | omega | (simp; done) | (simp; omega)) ?_))
                refine So.n (Nat.le_of_ble_eq_true rfl) (A.v rfl (V.ldPtr ty29 rfl rfl rfl (by first | exact Nat.le_of_ble_eq_true rfl | (first | rfl | omega | (simp; done) | (simp; omega))) (v := .p (.v (.int .i64 _))) rfl ?_))
                refine So.n (Nat.le_of_ble_eq_true rfl) (A.v rfl (V.bin (a := (.v (.int .i64 _))) (b := (.v (.int .i64 (0)))) (r := .v (.bool _)) rfl rfl rfl trivial ?_))
                refine So.e ?_
                show HT _ _ _ _ _
                refine R.cond rfl rfl (fun h16 => ?_) (fun h16 => ?_)
                · have h16 := of_decide_eq_true h16
                  refine HT.planS S_rtext_4_ok S_rtext_4_det mixed [] [⟨[0, 1, 2, 3, 4, 5, 6, 7, 8, 9, 10, 11, 12, 13, 14, 15, 16], 17, [1, 2, 14, 15]⟩, ⟨[1, 2, 14, 15, 18, 19], 20, [2, 15]⟩, ⟨[2, 15, 21, 22], 23, []⟩] (by kernel_rfl) ?_
                  refine Pl.lk ?_
                  refine Si.n rfl (Nat.le_of_ble_eq_true rfl) (V.mv (v := .ptr 4 7) rfl ?_)
                  refine Si.n rfl (Nat.le_of_ble_eq_true rfl) (V.mv (v := .ptr 1 0) rfl ?_)
                  refine Si.n rfl (Nat.le_of_ble_eq_true rfl) (V.mv (v := .ptr 1 0) rfl ?_)
                  refine Si.n rfl (Nat.le_of_ble_eq_true rfl) (V.mv (v := .ptr 1 0) rfl ?_)
                  refine Si.n rfl (Nat.le_of_ble_eq_true rfl) (V.ncPtr rfl ?_)
                  refine Si.n rfl (Nat.le_of_ble_eq_true rfl) (V.faPtr ty63 rfl ty22 (Nat.le_of_ble_eq_true rfl) rfl rfl (by first | exact Nat.le_of_ble_eq_true rfl | first | rfl | omega | (simp; done) | (simp; omega)) ?_)
                  refine Si.n rfl (Nat.le_of_ble_eq_true rfl) (V.ldPtr ty22 rfl rfl rfl (by first | exact Nat.le_of_ble_eq_true rfl | (first | rfl | omega | (simp; done) | (simp; omega))) (v := .p (.bs _)) rfl ?_)
                  refine Si.n rfl (Nat.le_of_ble_eq_true rfl) (V.mv (v := .ptr 1 0) rfl ?_)
                  refine Si.n rfl (Nat.le_of_ble_eq_true rfl) (V.ncPtr rfl ?_)
                  refine Si.n rfl (Nat.le_of_ble_eq_true rfl) (V.faPtr ty63 rfl ty3 (Nat.le_of_ble_eq_true rfl) rfl rfl (by first | exact Nat.le_of_ble_eq_true rfl | first | rfl | omega | (simp; done) | (simp; omega)) ?_)
                  refine Si.n rfl (Nat.le_of_ble_eq_true rfl) (V.ldPtr ty3 rfl rfl rfl (by first | exact Nat.le_of_ble_eq_true rfl | (first | rfl | omega | (simp; done) | (simp; omega))) (v := .p (.v (.int .i64 _))) rfl ?_)
                  refine Si.n rfl (Nat.le_of_ble_eq_true rfl) (V.call [.p (.bs _), .p (.v (.int .i64 _))] 5 rfl rfl rfl rfl ⟨trivial, trivial, trivial⟩ ⟨Nat.le_of_ble_eq_true rfl, Nat.le_of_ble_eq_true rfl, Nat.le_of_ble_eq_true rfl, trivial⟩ (_, _) ⟨.refl _, .refl _, trivial⟩ trivial (by trivial) (Φ := fun (b, i) => ((getTextF b i).2.2 = 0 → 0 ≤ i ∧ i < (getTextF b i).2.1 ∧ (getTextF b i).2.1 ≤ b.length) ∧ (getTextF b i).1.length ≤ 1048576) (fun (b, i) _ => ⟨getTextF_ok b i, getTextF_len b i⟩) (.inl ⟨trivial, trivial, trivial⟩) (v := .tup 3 _) rfl (fun h17 => ?_))
                  try dsimp only at h17
                  refine Si.n rfl (Nat.le_of_ble_eq_true rfl) (V.mv (v := .tup 3 _) rfl ?_)
                  refine Si.n rfl (Nat.le_of_ble_eq_true rfl) (V.ext rfl (Nat.le_of_ble_eq_true rfl) (v := .p (.bs _)) rfl ?_)
                  refine Si.n rfl (Nat.le_of_ble_eq_true rfl) (V.ext rfl (Nat.le_of_ble_eq_true rfl) (v := .p (.v (.int .i64 _))) rfl ?_)
                  refine Si.n rfl (Nat.le_of_ble_eq_true rfl) (V.ext rfl (Nat.le_of_ble_eq_true rfl) (v := .p (.v (.int .i64 _))) rfl ?_)
                  refine Si.n rfl (Nat.le_of_ble_eq_true rfl) (V.ncPtr rfl ?_)
                  refine Si.e ?_
                  refine ⟨flEq_nil, fun ff => ?_⟩
                  refine Lo.s rfl (A.sto ty22 rfl rfl rfl (v := .p (.bs _)) rfl trivial rfl (by first | exact Nat.le_of_ble_eq_true rfl | (first | rfl | omega | (simp; done) | (simp; omega))) rfl rfl ?_)
                  refine ⟨_, fun ff => ff, ap0, rfl, FG.id, ?_⟩
                  show planA _ _ _ _ _ [(1, .ptr 1 0), (2, .ptr 1 0), (14, .p (.v (.int .i64 _))), (15, .p (.v (.int .i64 _)))] _ _ _
                  refine Pl.lk ?_
                  refine Si.n rfl (Nat.le_of_ble_eq_true rfl) (V.mv (v := .ptr 1 0) rfl ?_)
                  refine Si.n rfl (Nat.le_of_ble_eq_true rfl) (V.mv (v := .ptr 1 0) rfl ?_)
                  refine Si.n rfl (Nat.le_of_ble_eq_true rfl) (V.ext rfl (Nat.le_of_ble_eq_true rfl) (v := .p (.v (.int .i64 _))) rfl ?_)
                  refine Si.n rfl (Nat.le_of_ble_eq_true rfl) (V.ext rfl (Nat.le_of_ble_eq_true rfl) (v := .p (.v (.int .i64 _))) rfl ?_)
                  refine Si.n rfl (Nat.le_of_ble_eq_true rfl) (V.ncPtr rfl ?_)
                  refine Si.n rfl (Nat.le_of_ble_eq_true rfl) (V.faPtr ty63 rfl ty3 (Nat.le_of_ble_eq_true rfl) rfl rfl (by first | exact Nat.le_of_ble_eq_true rfl | first | rfl | omega | (simp; done) | (simp; omega)) ?_)
                  refine Si.e ?_
                  refine ⟨(flEq_cons rfl (flEq_cons rfl (flEq_cons rfl (flEq_cons rfl flEq_nil)))), fun ff => ?_⟩
                  refine Lo.s rfl (A.sto ty3 rfl rfl rfl (v := .p (.v (.int .i64 _))) rfl rfl rfl (by first | exact Nat.le_of_ble_eq_true rfl | (first | rfl | omega | (simp; done) | (simp; omega))) rfl rfl ?_)
                  refine ⟨_, fun ff => ff, ap0, rfl, FG.id, ?_⟩
                  show planA _ _ _ _ _ [(2, .ptr 1 0), (15, .p (.v (.int .i64 _)))] _ _ _
                  refine Pl.l0 ?_
                  refine Si.n rfl (Nat.le_of_ble_eq_true rfl) (V.mv (v := .ptr 1 0) rfl ?_)
                  refine Si.n rfl (Nat.le_of_ble_eq_true rfl) (V.ext rfl (Nat.le_of_ble_eq_true rfl) (v := .p (.v (.int .i64 _))) rfl ?_)
                  refine Si.n rfl (Nat.le_of_ble_eq_true rfl) (V.ncPtr rfl ?_)
                  refine Si.n rfl (Nat.le_of_ble_eq_true rfl) (V.faPtr ty63 rfl ty29 (Nat.le_of_ble_eq_true rfl) rfl rfl (by first | exact Nat.le_of_ble_eq_true rfl | first | rfl | omega | (simp; done) | (simp; omega)) ?_)
                  refine Si.e ?_
                  refine ⟨(flEq_cons rfl (flEq_cons rfl flEq_nil)), ?_⟩
                  refine Lo.s rfl (A.sto ty29 rfl rfl rfl (v := .p (.v (.int .i64 _))) rfl rfl rfl (by first | exact Nat.le_of_ble_eq_true rfl | (first | rfl | omega | (simp; done) | (simp; omega))) rfl rfl ?_)
                  refine Pl.e ?_
                  refine Si.e ?_
                  refine ⟨flEq_nil, ?_⟩
                  show HT _ _ _ _ _
                  refine R.tell [] [(1, ⟨63, 1, 3, true, .rows (fun j => ([.bs b, .v (.int .i64 (rd4 b p e).2.1), .v (.int .i64 (rd4 b p e).2.2)] : List PV).getD j (.v undef))⟩), (4, ⟨26, 1, 8, true, .rows (fun j => if j = 5 then .bs ((rd2 b p e).1) else if j = 6 then .bs ((rd3 b p e).1) else if j = 7 then .bs ((rd4 b p e).1) else f j)⟩)] [0, 6, 7, 8] [2, 3] (fr0 := [(0, .ptr 1 0), (6, .own 3 0 _), (7, .p (.v (.int .i64 _))), (8, .p (.v (.int .i64 _)))]) (O0 := [(2, ⟨_, _, _, _, .rows _⟩), (3, ⟨_, _, _, _, .cells [.ptr 2 0, .ptr 4 5, .ptr 4 6, .ptr 4 7]⟩)]) rfl rfl ⟨⟨⟨.refl _, rfl⟩, ⟨.refl _, rfl⟩, ⟨.refl _, trivial⟩, ⟨.refl _, trivial⟩, trivial⟩, ⟨⟨_, rfl, .inr (ob_rows (by rfl) (by first | (rw [show rd4 b p e = Go.Vh.gT b (rd3 b p e).2.1 from rdT_0 (e := (rd3 b p e).2.2) (by assumption)]; (intro j hj; match j, hj with | 0, _ => rfl | 1, _ => rfl | 2, _ => rfl)) | (rw [show rd4 b p e = ([], (rd3 b p e).2.1, (rd3 b p e).2.2) from rdT_1 (e := (rd3 b p e).2.2) (by assumption)]; (intro j hj; match j, hj with | 0, _ => rfl | 1, _ => rfl | 2, _ => rfl)))), trivial⟩, ⟨_, rfl, .inr (ob_rows (by rfl) (by first | (rw [show rd4 b p e = Go.Vh.gT b (rd3 b p e).2.1 from rdT_0 (e := (rd3 b p e).2.2) (by assumption)]; intro j hj; by_cases h5 : j = 5 <;> by_cases h6 : j = 6 <;> by_cases h7 : j = 7 <;> first | (simp [h5, h6, h7, gT]; done) | (exfalso; omega)) | (rw [show rd4 b p e = ([], (rd3 b p e).2.1, (rd3 b p e).2.2) from rdT_1 (e := (rd3 b p e).2.2) (by assumption)]; intro j hj; by_cases h5 : j = 5 <;> by_cases h6 : j = 6 <;> by_cases h7 : j = 7 <;> first | (simp [h5, h6, h7, gT]; done) | (exfalso; omega)))), trivial⟩, ⟨_, rfl, .inl rfl, trivial⟩, ⟨_, rfl, .inl rfl, ⟨rfl, rfl, rfl, rfl, trivial⟩⟩, trivial⟩⟩ ?_
                  show HT _ _ _ _ _
                  refine HT.region S_rtext_4_ok ?_
                  refine So.n (Nat.le_of_ble_eq_true rfl) (A.v rfl (V.addI rfl rfl (by omega) ?_))
                  refine So.n (Nat.le_of_ble_eq_true rfl) (A.v rfl (V.mv (v := .p (.v (.int .i64 _))) rfl ?_))
                  refine So.e ?_
                  show HT _ _ _ _ _
                  refine HT.seq ?_
                  refine HT.region S_rtext_4_ok ?_
                  refine So.n (Nat.le_of_ble_eq_true rfl) (A.v rfl (V.bin (a := (.v (.int .i64 _))) (b := (.v (.int .i64 _))) (r := .v (.bool _)) rfl rfl rfl trivial ?_))
                  refine So.e ?_
                  show HT _ _ _ _ _
                  refine HT.seq ?_
                  refine R.cond rfl rfl (fun h18 => ?_) (fun h18 => ?_)
                  · have h18 := of_decide_eq_true h18
                    exfalso; omega
                  · have h18 := of_decide_eq_false h18
                    refine HT.exit ?_
                    exact ret_ok (sg [(1, 1), (2, 2), (4, 4)]) h rfl rfl rfl ⟨trivial, trivial, trivial, trivial⟩ trivial rfl ⟨trivial, ⟨⟨_, rfl, .inr (ob_rows (by first | rfl | ((try dsimp only); (first | with_reducible rfl | (intro j hj; rfl)))) (by first | rfl | ((try dsimp only); (first | with_reducible rfl | (intro j hj; rfl))))), trivial⟩, ⟨_, rfl, .inr (ob_rows (by first | rfl | ((try dsimp only); (first | with_reducible rfl | (intro j hj; rfl)))) (by first | rfl | ((try dsimp only); (first | with_reducible rfl | (intro j hj; rfl))))), trivial⟩, ⟨_, rfl, .inr (ob_rows (by first | rfl | ((try dsimp only); (first | with_reducible rfl | (intro j hj; rfl)))) (by first | rfl | ((try dsimp only); (first | with_reducible rfl | (intro j hj; rfl))))), trivial⟩, trivial⟩⟩
                · have h16 := of_decide_eq_false h16
                  refine HT.skip ?_
                  show HT _ _ _ _ _
                  refine R.tell [] [(1, ⟨63, 1, 3, true, .rows (fun j => ([.bs b, .v (.int .i64 (rd4 b p e).2.1), .v (.int .i64 (rd4 b p e).2.2)] : List PV).getD j (.v undef))⟩), (4, ⟨26, 1, 8, true, .rows (fun j => if j = 5 then .bs ((rd2 b p e).1) else if j = 6 then .bs ((rd3 b p e).1) else if j = 7 then .bs ((rd4 b p e).1) else f j)⟩)] [0, 6, 7, 8] [2, 3] (fr0 := [(0, .ptr 1 0), (6, .own 3 0 _), (7, .p (.v (.int .i64 _))), (8, .p (.v (.int .i64 _)))]) (O0 := [(2, ⟨_, _, _, _, .rows _⟩), (3, ⟨_, _, _, _, .cells [.ptr 2 0, .ptr 4 5, .ptr 4 6, .ptr 4 7]⟩)]) rfl rfl ⟨⟨⟨.refl _, rfl⟩, ⟨.refl _, rfl⟩, ⟨.refl _, trivial⟩, ⟨.refl _, trivial⟩, trivial⟩, ⟨⟨_, rfl, .inr (ob_rows (by rfl) (by first | (rw [show rd4 b p e = Go.Vh.gT b (rd3 b p e).2.1 from rdT_0 (e := (rd3 b p e).2.2) (by assumption)]; (intro j hj; match j, hj with | 0, _ => rfl | 1, _ => rfl | 2, _ => rfl)) | (rw [show rd4 b p e = ([], (rd3 b p e).2.1, (rd3 b p e).2.2) from rdT_1 (e := (rd3 b p e).2.2) (by assumption)]; (intro j hj; match j, hj with | 0, _ => rfl | 1, _ => rfl | 2, _ => rfl)))), trivial⟩, ⟨_, rfl, .inr (ob_rows (by rfl) (by first | (rw [show rd4 b p e = Go.Vh.gT b (rd3 b p e).2.1 from rdT_0 (e := (rd3 b p e).2.2) (by assumption)]; intro j hj; by_cases h5 : j = 5 <;> by_cases h6 : j = 6 <;> by_cases h7 : j = 7 <;> first | (simp [h5, h6, h7, gT]; done) | (exfalso; omega)) | (rw [show rd4 b p e = ([], (rd3 b p e).2.1, (rd3 b p e).2.2) from rdT_1 (e := (rd3 b p e).2.2) (by assumption)]; intro j hj; by_cases h5 : j = 5 <;> by_cases h6 : j = 6 <;> by_cases h7 : j = 7 <;> first | (simp [h5, h6, h7, gT]; done) | (exfalso; omega)))), trivial⟩, ⟨_, rfl, .inl rfl, trivial⟩, ⟨_, rfl, .inl rfl, ⟨rfl, rfl, rfl, rfl, trivial⟩⟩, trivial⟩⟩ ?_
                  show HT _ _ _ _ _
                  refine HT.region S_rtext_4_ok ?_
                  refine So.n (Nat.le_of_ble_eq_true rfl) (A.v rfl (V.addI rfl rfl (by omega) ?_))
                  refine So.n (Nat.le_of_ble_eq_true rfl) (A.v rfl (V.mv (v := .p (.v (.int .i64 _))) rfl ?_))
                  refine So.e ?_
                  show HT _ _ _ _ _
                  refine HT.seq ?_
                  refine HT.region S_rtext_4_ok ?_
                  refine So.n (Nat.le_of_ble_eq_true rfl) (A.v rfl (V.bin (a := (.v (.int .i64 _))) (b := (.v (.int .i64 _))) (r := .v (.bool _)) rfl rfl rfl trivial ?_))
                  refine So.e ?_
                  show HT _ _ _ _ _
                  refine HT.seq ?_
                  refine R.cond rfl rfl (fun h19 => ?_) (fun h19 => ?_)
                  · have h19 := of_decide_eq_true h19
                    exfalso; omega
                  · have h19 := of_decide_eq_false h19
                    refine HT.exit ?_
                    exact ret_ok (sg [(1, 1), (2, 2), (4, 4)]) h rfl rfl rfl ⟨trivial, trivial, trivial, trivial⟩ trivial rfl ⟨trivial, ⟨⟨_, rfl, .inr (ob_rows (by first | rfl | ((try dsimp only); (first | with_reducible rfl | (intro j hj; rfl)))) (by first | rfl | ((try dsimp only); (first | with_reducible rfl | (intro j hj; rfl))))), trivial⟩, ⟨_, rfl, .inr (ob_rows (by first | rfl | ((try dsimp only); (first | with_reducible rfl | (intro j hj; rfl)))) (by first | rfl | ((try dsimp only); (first | with_reducible rfl | (intro j hj; rfl))))), trivial⟩, ⟨_, rfl, .inr (ob_rows (by first | rfl | ((try dsimp only); (first | with_reducible rfl | (intro j hj; rfl)))) (by first | rfl | ((try dsimp only); (first | with_reducible rfl | (intro j hj; rfl))))), trivial⟩, trivial⟩⟩
              · have h15 := of_decide_eq_false h15
                exfalso; omega
          · have h7 := of_decide_eq_false h7
            exfalso; omega
        · have h5 := of_decide_eq_false h5
          refine HT.skip ?_
          show HT _ _ _ _ _
          refine R.tell [] [(1, ⟨63, 1, 3, true, .rows (fun j => ([.bs b, .v (.int .i64 (rd2 b p e).2.1), .v (.int .i64 (rd2 b p e).2.2)] : List PV).getD j (.v undef))⟩), (4, ⟨26, 1, 8, true, .rows (fun j => if j = 5 then .bs ((rd2 b p e).1) else if j = 6 then .bs ([]) else if j = 7 then .bs ([]) else f j)⟩)] [0, 6, 7, 8] [2, 3] (fr0 := [(0, .ptr 1 0), (6, .own 3 0 _), (7, .p (.v (.int .i64 _))), (8, .p (.v (.int .i64 _)))]) (O0 := [(2, ⟨_, _, _, _, .rows _⟩), (3, ⟨_, _, _, _, .cells [.ptr 2 0, .ptr 4 5, .ptr 4 6, .ptr 4 7]⟩)]) rfl rfl ⟨⟨⟨.refl _, rfl⟩, ⟨.refl _, rfl⟩, ⟨.refl _, trivial⟩, ⟨.refl _, trivial⟩, trivial⟩, ⟨⟨_, rfl, .inr (ob_rows (by rfl) (by first | (rw [show rd2 b p e = Go.Vh.gT b (rdT b p e).2.1 from rdT_0 (e := (rdT b p e).2.2) (by assumption)]; (intro j hj; match j, hj with | 0, _ => rfl | 1, _ => rfl | 2, _ => rfl)) | (rw [show rd2 b p e = ([], (rdT b p e).2.1, (rdT b p e).2.2) from rdT_1 (e := (rdT b p e).2.2) (by assumption)]; (intro j hj; match j, hj with | 0, _ => rfl | 1, _ => rfl | 2, _ => rfl)))), trivial⟩, ⟨_, rfl, .inr (ob_rows (by rfl) (by first | (rw [show rd2 b p e = Go.Vh.gT b (rdT b p e).2.1 from rdT_0 (e := (rdT b p e).2.2) (by assumption)]; intro j hj; by_cases h5 : j = 5 <;> by_cases h6 : j = 6 <;> by_cases h7 : j = 7 <;> first | (simp [h5, h6, h7, gT]; done) | (exfalso; omega)) | (rw [show rd2 b p e = ([], (rdT b p e).2.1, (rdT b p e).2.2) from rdT_1 (e := (rdT b p e).2.2) (by assumption)]; intro j hj; by_cases h5 : j = 5 <;> by_cases h6 : j = 6 <;> by_cases h7 : j = 7 <;> first | (simp [h5, h6, h7, gT]; done) | (exfalso; omega)))), trivial⟩, ⟨_, rfl, .inl rfl, trivial⟩, ⟨_, rfl, .inl rfl, ⟨rfl, rfl, rfl, rfl, trivial⟩⟩, trivial⟩⟩ ?_
          show HT _ _ _ _ _
          refine HT.region S_rtext_4_ok ?_
          refine So.n (Nat.le_of_ble_eq_true rfl) (A.v rfl (V.addI rfl rfl (by omega) ?_))
          refine So.n (Nat.le_of_ble_eq_true rfl) (A.v rfl (V.mv (v := .p (.v (.int .i64 _))) rfl ?_))
          refine So.e ?_
          show HT _ _ _ _ _
          refine HT.seq ?_
          refine HT.region S_rtext_4_ok ?_
          refine So.n (Nat.le_of_ble_eq_true rfl) (A.v rfl (V.bin (a := (.v (.int .i64 _))) (b := (.v (.int .i64 _))) (r := .v (.bool _)) rfl rfl rfl trivial ?_))
          refine So.e ?_
          show HT _ _ _ _ _
          refine HT.seq ?_
          refine R.cond rfl rfl (fun h20 => ?_) (fun h20 => ?_)
          · have h20 := of_decide_eq_true h20
            refine HT.skip ?_
            show HT _ _ _ _ _
            refine HT.seq ?_
            refine HT.block ?_
            refine HT.seq ?_
            refine HT.region S_rtext_4_ok ?_
            refine So.n (Nat.le_of_ble_eq_true rfl) (A.v rfl (V.ixOwn10 ty83 ty67 rfl rfl rfl rfl rfl (by omega) rfl ?_))
            refine So.n (Nat.le_of_ble_eq_true rfl) (A.v rfl (V.ldPtr ty67 rfl rfl rfl (Nat.le_of_ble_eq_true rfl) (v := .ptr 4 6) rfl ?_))
            refine So.n (Nat.le_of_ble_eq_true rfl) (A.v rfl (V.as (v := .ptr 4 6) rfl ?_))
            refine So.e ?_
            show HT _ _ _ _ _
            refine HT.seq ?_
            refine HT.region S_rtext_4_ok ?_
            refine So.n (Nat.le_of_ble_eq_true rfl) (A.v rfl (V.mv (v := .ptr 1 0) rfl ?_))
            refine So.n (Nat.le_of_ble_eq_true rfl) (A.v rfl (V.ncPtr rfl ?_))
            refine So.n (Nat.le_of_ble_eq_true rfl) (A.v rfl (V.faPtr ty63 rfl ty29 (Nat.le_of_ble_eq_true rfl) rfl rfl (by first | exact Nat.le_of_ble_eq_true rfl | first | rfl | omega | (simp; done) | (simp; omega)) ?_))
            refine So.n (Nat.le_of_ble_eq_true rfl) (A.v rfl (V.ldPtr ty29 rfl rfl rfl (by first | exact Nat.le_of_ble_eq_true rfl | (first | rfl | omega | (simp; done) | (simp; omega))) (v := .p (.v (.int .i64 _))) rfl ?_))
            refine So.n (Nat.le_of_ble_eq_true rfl) (A.v rfl (V.bin (a := (.v (.int .i64 _))) (b := (.v (.int .i64 (0)))) (r := .v (.bool _)) rfl rfl rfl trivial ?_))
            refine So.e ?_
            show HT _ _ _ _ _
            refine R.cond rfl rfl (fun h21 => ?_) (fun h21 => ?_)
            · have h21 := of_decide_eq_true h21
              refine HT.planS S_rtext_4_ok S_rtext_4_det mixed [] [⟨[0, 1, 2, 3, 4, 5, 6, 7, 8, 9, 10, 11, 12, 13, 14, 15, 16], 17, [1, 2, 14, 15]⟩, ⟨[1, 2, 14, 15, 18, 19], 20, [2, 15]⟩, ⟨[2, 15, 21, 22], 23, []⟩] (by kernel_rfl) ?_
              refine Pl.lk ?_
              refine Si.n rfl (Nat.le_of_ble_eq_true rfl) (V.mv (v := .ptr 4 6) rfl ?_)
              refine Si.n rfl (Nat.le_of_ble_eq_true rfl) (V.mv (v := .ptr 1 0) rfl ?_)
              refine Si.n rfl (Nat.le_of_ble_eq_true rfl) (V.mv (v := .ptr 1 0) rfl ?_)
              refine Si.n rfl (Nat.le_of_ble_eq_true rfl) (V.mv (v := .ptr 1 0) rfl ?_)
              refine Si.n rfl (Nat.le_of_ble_eq_true rfl) (V.ncPtr rfl ?_)
              refine Si.n rfl (Nat.le_of_ble_eq_true rfl) (V.faPtr ty63 rfl ty22 (Nat.le_of_ble_eq_true rfl) rfl rfl (by first | exact Nat.le_of_ble_eq_true rfl | first | rfl | omega | (simp; done) | (simp; omega)) ?_)
              refine Si.n rfl (Nat.le_of_ble_eq_true rfl) (V.ldPtr ty22 rfl rfl rfl (by first | exact Nat.le_of_ble_eq_true rfl | (first | rfl | omega | (simp; done) | (simp; omega))) (v := .p (.bs _)) rfl ?_)
              refine Si.n rfl (Nat.le_of_ble_eq_true rfl) (V.mv (v := .ptr 1 0) rfl ?_)
              refine Si.n rfl (Nat.le_of_ble_eq_true rfl) (V.ncPtr rfl ?_)
              refine Si.n rfl (Nat.le_of_ble_eq_true rfl) (V.faPtr ty63 rfl ty3 (Nat.le_of_ble_eq_true rfl) rfl rfl (by first | exact Nat.le_of_ble_eq_true rfl | first | rfl | omega | (simp; done) | (simp; omega)) ?_)
              refine Si.n rfl (Nat.le_of_ble_eq_true rfl) (V.ldPtr ty3 rfl rfl rfl (by first | exact Nat.le_of_ble_eq_true rfl | (first | rfl | omega | (simp; done) | (simp; omega))) (v := .p (.v (.int .i64 _))) rfl ?_)
              refine Si.n rfl (Nat.le_of_ble_eq_true rfl) (V.call [.p (.bs _), .p (.v (.int .i64 _))] 5 rfl rfl rfl rfl ⟨trivial, trivial, trivial⟩ ⟨Nat.le_of_ble_eq_true rfl, Nat.le_of_ble_eq_true rfl, Nat.le_of_ble_eq_true rfl, trivial⟩ (_, _) ⟨.refl _, .refl _, trivial⟩ trivial (by trivial) (Φ := fun (b, i) => ((getTextF b i).2.2 = 0 → 0 ≤ i ∧ i < (getTextF b i).2.1 ∧ (getTextF b i).2.1 ≤ b.length) ∧ (getTextF b i).1.length ≤ 1048576) (fun (b, i) _ => ⟨getTextF_ok b i, getTextF_len b i⟩) (.inl ⟨trivial, trivial, trivial⟩) (v := .tup 3 _) rfl (fun h22 => ?_))
              try dsimp only at h22
              refine Si.n rfl (Nat.le_of_ble_eq_true rfl) (V.mv (v := .tup 3 _) rfl ?_)
              refine Si.n rfl (Nat.le_of_ble_eq_true rfl) (V.ext rfl (Nat.le_of_ble_eq_true rfl) (v := .p (.bs _)) rfl ?_)
              refine Si.n rfl (Nat.le_of_ble_eq_true rfl) (V.ext rfl (Nat.le_of_ble_eq_true rfl) (v := .p (.v (.int .i64 _))) rfl ?_)
              refine Si.n rfl (Nat.le_of_ble_eq_true rfl) (V.ext rfl (Nat.le_of_ble_eq_true rfl) (v := .p (.v (.int .i64 _))) rfl ?_)
              refine Si.n rfl (Nat.le_of_ble_eq_true rfl) (V.ncPtr rfl ?_)
              refine Si.e ?_
              refine ⟨flEq_nil, fun ff => ?_⟩
              refine Lo.s rfl (A.sto ty22 rfl rfl rfl (v := .p (.bs _)) rfl trivial rfl (by first | exact Nat.le_of_ble_eq_true rfl | (first | rfl | omega | (simp; done) | (simp; omega))) rfl rfl ?_)
              refine ⟨_, fun ff => ff, ap0, rfl, FG.id, ?_⟩
              show planA _ _ _ _ _ [(1, .ptr 1 0), (2, .ptr 1 0), (14, .p (.v (.int .i64 _))), (15, .p (.v (.int .i64 _)))] _ _ _
              refine Pl.lk ?_
              refine Si.n rfl (Nat.le_of_ble_eq_true rfl) (V.mv (v := .ptr 1 0) rfl ?_)
              refine Si.n rfl (Nat.le_of_ble_eq_true rfl) (V.mv (v := .ptr 1 0) rfl ?_)
              refine Si.n rfl (Nat.le_of_ble_eq_true rfl) (V.ext rfl (Nat.le_of_ble_eq_true rfl) (v := .p (.v (.int .i64 _))) rfl ?_)
              refine Si.n rfl (Nat.le_of_ble_eq_true rfl) (V.ext rfl (Nat.le_of_ble_eq_true rfl) (v := .p (.v (.int .i64 _))) rfl ?_)
              refine Si.n rfl (Nat.le_of_ble_eq_true rfl) (V.ncPtr rfl ?_)
              refine Si.n rfl (Nat.le_of_ble_eq_true rfl) (V.faPtr ty63 rfl ty3 (Nat.le_of_ble_eq_true rfl) rfl rfl (by first | exact Nat.le_of_ble_eq_true rfl | first | rfl | omega | (simp; done) | (simp; omega)) ?_)
              refine Si.e ?_
              refine ⟨(flEq_cons rfl (flEq_cons rfl (flEq_cons rfl (flEq_cons rfl flEq_nil)))), fun ff => ?_⟩
              refine Lo.s rfl (A.sto ty3 rfl rfl rfl (v := .p (.v (.int .i64 _))) rfl rfl rfl (by first | exact Nat.le_of_ble_eq_true rfl | (first | rfl | omega | (simp; done) | (simp; omega))) rfl rfl ?_)
              refine ⟨_, fun ff => ff, ap0, rfl, FG.id, ?_⟩
              show planA _ _ _ _ _ [(2, .ptr 1 0), (15, .p (.v (.int .i64 _)))] _ _ _
              refine Pl.l0 ?_
              refine Si.n rfl (Nat.le_of_ble_eq_true rfl) (V.mv (v := .ptr 1 0) rfl ?_)
              refine Si.n rfl (Nat.le_of_ble_eq_true rfl) (V.ext rfl (Nat.le_of_ble_eq_true rfl) (v := .p (.v (.int .i64 _))) rfl ?_)
              refine Si.n rfl (Nat.le_of_ble_eq_true rfl) (V.ncPtr rfl ?_)
              refine Si.n rfl (Nat.le_of_ble_eq_true rfl) (V.faPtr ty63 rfl ty29 (Nat.le_of_ble_eq_true rfl) rfl rfl (by first | exact Nat.le_of_ble_eq_true rfl | first | rfl | omega | (simp; done) | (simp; omega)) ?_)
              refine Si.e ?_
              refine ⟨(flEq_cons rfl (flEq_cons rfl flEq_nil)), ?_⟩
              refine Lo.s rfl (A.sto ty29 rfl rfl rfl (v := .p (.v (.int .i64 _))) rfl rfl rfl (by first | exact Nat.le_of_ble_eq_true rfl | (first | rfl | omega | (simp; done) | (simp; omega))) rfl rfl ?_)
              refine Pl.e ?_
              refine Si.e ?_
              refine ⟨flEq_nil, ?_⟩
              show HT _ _ _ _ _
              refine R.tell [] [(1, ⟨63, 1, 3, true, .rows (fun j => ([.bs b, .v (.int .i64 (rd3 b p e).2.1), .v (.int .i64 (rd3 b p e).2.2)] : List PV).getD j (.v undef))⟩), (4, ⟨26, 1, 8, true, .rows (fun j => if j = 5 then .bs ((rd2 b p e).1) else if j = 6 then .bs ((rd3 b p e).1) else if j = 7 then .bs ([]) else f j)⟩)] [0, 6, 7, 8] [2, 3] (fr0 := [(0, .ptr 1 0), (6, .own 3 0 _), (7, .p (.v (.int .i64 _))), (8, .p (.v (.int .i64 _)))]) (O0 := [(2, ⟨_, _, _, _, .rows _⟩), (3, ⟨_, _, _, _, .cells [.ptr 2 0, .ptr 4 5, .ptr 4 6, .ptr 4 7]⟩)]) rfl rfl ⟨⟨⟨.refl _, rfl⟩, ⟨.refl _, rfl⟩, ⟨.refl _, trivial⟩, ⟨.refl _, trivial⟩, trivial⟩, ⟨⟨_, rfl, .inr (ob_rows (by rfl) (by first | (rw [show rd3 b p e = Go.Vh.gT b (rd2 b p e).2.1 from rdT_0 (e := (rd2 b p e).2.2) (by assumption)]; (intro j hj; match j, hj with | 0, _ => rfl | 1, _ => rfl | 2, _ => rfl)) | (rw [show rd3 b p e = ([], (rd2 b p e).2.1, (rd2 b p e).2.2) from rdT_1 (e := (rd2 b p e).2.2) (by assumption)]; (intro j hj; match j, hj with | 0, _ => rfl | 1, _ => rfl | 2, _ => rfl)))), trivial⟩, ⟨_, rfl, .inr (ob_rows (by rfl) (by first | (rw [show rd3 b p e = Go.Vh.gT b (rd2 b p e).2.1 from rdT_0 (e := (rd2 b p e).2.2) (by assumption)]; intro j hj; by_cases h5 : j = 5 <;> by_cases h6 : j = 6 <;> by_cases h7 : j = 7 <;> first | (simp [h5, h6, h7, gT]; done) | (exfalso; omega)) | (rw [show rd3 b p e = ([], (rd2 b p e).2.1, (rd2 b p e).2.2) from rdT_1 (e := (rd2 b p e).2.2) (by assumption)]; intro j hj; by_cases h5 : j = 5 <;> by_cases h6 : j = 6 <;> by_cases h7 : j = 7 <;> first | (simp [h5, h6, h7, gT]; done) | (exfalso; omega)))), trivial⟩, ⟨_, rfl, .inl rfl, trivial⟩, ⟨_, rfl, .inl rfl, ⟨rfl, rfl, rfl, rfl, trivial⟩⟩, trivial⟩⟩ ?_
              show HT _ _ _ _ _
              refine HT.region S_rtext_4_ok ?_
              refine So.n (Nat.le_of_ble_eq_true rfl) (A.v rfl (V.addI rfl rfl (by omega) ?_))
              refine So.n (Nat.le_of_ble_eq_true rfl) (A.v rfl (V.mv (v := .p (.v (.int .i64 _))) rfl ?_))
              refine So.e ?_
              show HT _ _ _ _ _
              refine HT.seq ?_
              refine HT.region S_rtext_4_ok ?_
              refine So.n (Nat.le_of_ble_eq_true rfl) (A.v rfl (V.bin (a := (.v (.int .i64 _))) (b := (.v (.int .i64 _))) (r := .v (.bool _)) rfl rfl rfl trivial ?_))
              refine So.e ?_
              show HT _ _ _ _ _
              refine HT.seq ?_
              refine R.cond rfl rfl (fun h23 => ?_) (fun h23 => ?_)
              · have h23 := of_decide_eq_true h23
                refine HT.skip ?_
                show HT _ _ _ _ _
                refine HT.seq ?_
                refine HT.block ?_
                refine HT.seq ?_
                refine HT.region S_rtext_4_ok ?_
                refine So.n (Nat.le_of_ble_eq_true rfl) (A.v rfl (V.ixOwn10 ty83 ty67 rfl rfl rfl rfl rfl (by omega) rfl ?_))
                refine So.n (Nat.le_of_ble_eq_true rfl) (A.v rfl (V.ldPtr ty67 rfl rfl rfl (Nat.le_of_ble_eq_true rfl) (v := .ptr 4 7) rfl ?_))
                refine So.n (Nat.le_of_ble_eq_true rfl) (A.v rfl (V.as (v := .ptr 4 7) rfl ?_))
                refine So.e ?_
                show HT _ _ _ _ _
                refine HT.seq ?_
                refine HT.region S_rtext_4_ok ?_
                refine So.n (Nat.le_of_ble_eq_true rfl) (A.v rfl (V.mv (v := .ptr 1 0) rfl ?_))
                refine So.n (Nat.le_of_ble_eq_true rfl) (A.v rfl (V.ncPtr rfl ?_))
                refine So.n (Nat.le_of_ble_eq_true rfl) (A.v rfl (V.faPtr ty63 rfl ty29 (Nat.le_of_ble_eq_true rfl) rfl rfl (by first | exact Nat.le_of_ble_eq_true rfl | first | rfl | omega | (simp; done) | (simp; omega)) ?_))
                refine So.n (Nat.le_of_ble_eq_true rfl) (A.v rfl (V.ldPtr ty29 rfl rfl rfl (by first | exact Nat.le_of_ble_eq_true rfl | (first | rfl | omega | (simp; done) | (simp; omega))) (v := .p (.v (.int .i64 _))) rfl ?_))
                refine So.n (Nat.le_of_ble_eq_true rfl) (A.v rfl (V.bin (a := (.v (.int .i64 _))) (b := (.v (.int .i64 (0)))) (r := .v (.bool _)) rfl rfl rfl trivial ?_))
                refine So.e ?_
                show HT _ _ _ _ _
                refine R.cond rfl rfl (fun h24 => ?_) (fun h24 => ?_)
                · have h24 := of_decide_eq_true h24
                  refine HT.planS S_rtext_4_ok S_rtext_4_det mixed [] [⟨[0, 1, 2, 3, 4, 5, 6, 7, 8, 9, 10, 11, 12, 13, 14, 15, 16], 17, [1, 2, 14, 15]⟩, ⟨[1, 2, 14, 15, 18, 19], 20, [2, 15]⟩, ⟨[2, 15, 21, 22], 23, []⟩] (by kernel_rfl) ?_
                  refine Pl.lk ?_
                  refine Si.n rfl (Nat.le_of_ble_eq_true rfl) (V.mv (v := .ptr 4 7) rfl ?_)
                  refine Si.n rfl (Nat.le_of_ble_eq_true rfl) (V.mv (v := .ptr 1 0) rfl ?_)
                  refine Si.n rfl (Nat.le_of_ble_eq_true rfl) (V.mv (v := .ptr 1 0) rfl ?_)
                  refine Si.n rfl (Nat.le_of_ble_eq_true rfl) (V.mv (v := .ptr 1 0) rfl ?_)
                  refine Si.n rfl (Nat.le_of_ble_eq_true rfl) (V.ncPtr rfl ?_)
                  refine Si.n rfl (Nat.le_of_ble_eq_true rfl) (V.faPtr ty63 rfl ty22 (Nat.le_of_ble_eq_true rfl) rfl rfl (by first | exact Nat.le_of_ble_eq_true rfl | first | rfl | omega | (simp; done) | (simp; omega)) ?_)
                  refine Si.n rfl (Nat.le_of_ble_eq_true rfl) (V.ldPtr ty22 rfl rfl rfl (by first | exact Nat.le_of_ble_eq_true rfl | (first | rfl | omega | (simp; done) | (simp; omega))) (v := .p (.bs _)) rfl ?_)
                  refine Si.n rfl (Nat.le_of_ble_eq_true rfl) (V.mv (v := .ptr 1 0) rfl ?_)
                  refine Si.n rfl (Nat.le_of_ble_eq_true rfl) (V.ncPtr rfl ?_)
                  refine Si.n rfl (Nat.le_of_ble_eq_true rfl) (V.faPtr ty63 rfl ty3 (Nat.le_of_ble_eq_true rfl) rfl rfl (by first | exact Nat.le_of_ble_eq_true rfl | first | rfl | omega | (simp; done) | (simp; omega)) ?_)
                  refine Si.n rfl (Nat.le_of_ble_eq_true rfl) (V.ldPtr ty3 rfl rfl rfl (by first | exact Nat.le_of_ble_eq_true rfl | (first | rfl | omega | (simp; done) | (simp; omega))) (v := .p (.v (.int .i64 _))) rfl ?_)
                  refine Si.n rfl (Nat.le_of_ble_eq_true rfl) (V.call [.p (.bs _), .p (.v (.int .i64 _))] 5 rfl rfl rfl rfl ⟨trivial, trivial, trivial⟩ ⟨Nat.le_of_ble_eq_true rfl, Nat.le_of_ble_eq_true rfl, Nat.le_of_ble_eq_true rfl, trivial⟩ (_, _) ⟨.refl _, .refl _, trivial⟩ trivial (by trivial) (Φ := fun (b, i) => ((getTextF b i).2.2 = 0 → 0 ≤ i ∧ i < (getTextF b i).2.1 ∧ (getTextF b i).2.1 ≤ b.length) ∧ (getTextF b i).1.length ≤ 1048576) (fun (b, i) _ => ⟨getTextF_ok b i, getTextF_len b i⟩) (.inl ⟨trivial, trivial, trivial⟩) (v := .tup 3 _) rfl (fun h25 => ?_))
                  try dsimp only at h25
                  refine Si.n rfl (Nat.le_of_ble_eq_true rfl) (V.mv (v := .tup 3 _) rfl ?_)
                  refine Si.n rfl (Nat.le_of_ble_eq_true rfl) (V.ext rfl (Nat.le_of_ble_eq_true rfl) (v := .p (.bs _)) rfl ?_)
                  refine Si.n rfl (Nat.le_of_ble_eq_true rfl) (V.ext rfl (Nat.le_of_ble_eq_true rfl) (v := .p (.v (.int .i64 _))) rfl ?_)
                  refine Si.n rfl (Nat.le_of_ble_eq_true rfl) (V.ext rfl (Nat.le_of_ble_eq_true rfl) (v := .p (.v (.int .i64 _))) rfl ?_)
                  refine Si.n rfl (Nat.le_of_ble_eq_true rfl) (V.ncPtr rfl ?_)
                  refine Si.e ?_
                  refine ⟨flEq_nil, fun ff => ?_⟩
                  refine Lo.s rfl (A.sto ty22 rfl rfl rfl (v := .p (.bs _)) rfl trivial rfl (by first | exact Nat.le_of_ble_eq_true rfl | (first | rfl | omega | (simp; done) | (simp; omega))) rfl rfl ?_)
                  refine ⟨_, fun ff => ff, ap0, rfl, FG.id, ?_⟩
                  show planA _ _ _ _ _ [(1, .ptr 1 0), (2, .ptr 1 0), (14, .p (.v (.int .i64 _))), (15, .p (.v (.int .i64 _)))] _ _ _
                  refine Pl.lk ?_
                  refine Si.n rfl (Nat.le_of_ble_eq_true rfl) (V.mv (v := .ptr 1 0) rfl ?_)
                  refine Si.n rfl (Nat.le_of_ble_eq_true rfl) (V.mv (v := .ptr 1 0) rfl ?_)
                  refine Si.n rfl (Nat.le_of_ble_eq_true rfl) (V.ext rfl (Nat.le_of_ble_eq_true rfl) (v := .p (.v (.int .i64 _))) rfl ?_)
                  refine Si.n rfl (Nat.le_of_ble_eq_true rfl) (V.ext rfl (Nat.le_of_ble_eq_true rfl) (v := .p (.v (.int .i64 _))) rfl ?_)
                  refine Si.n rfl (Nat.le_of_ble_eq_true rfl) (V.ncPtr rfl ?_)
                  refine Si.n rfl (Nat.le_of_ble_eq_true rfl) (V.faPtr ty63 rfl ty3 (Nat.le_of_ble_eq_true rfl) rfl rfl (by first | exact Nat.le_of_ble_eq_true rfl | first | rfl | omega | (simp; done) | (simp; omega)) ?_)
                  refine Si.e ?_
                  refine ⟨(flEq_cons rfl (flEq_cons rfl (flEq_cons rfl (flEq_cons rfl flEq_nil)))), fun ff => ?_⟩
                  refine Lo.s rfl (A.sto ty3 rfl rfl rfl (v := .p (.v (.int .i64 _))) rfl rfl rfl (by first | exact Nat.le_of_ble_eq_true rfl | (first | rfl | omega | (simp; done) | (simp; omega))) rfl rfl ?_)
                  refine ⟨_, fun ff => ff, ap0, rfl, FG.id, ?_⟩
                  show planA _ _ _ _ _ [(2, .ptr 1 0), (15, .p (.v (.int .i64 _)))] _ _ _
                  refine Pl.l0 ?_
                  refine Si.n rfl (Nat.le_of_ble_eq_true rfl) (V.mv (v := .ptr 1 0) rfl ?_)
                  refine Si.n rfl (Nat.le_of_ble_eq_true rfl) (V.ext rfl (Nat.le_of_ble_eq_true rfl) (v := .p (.v (.int .i64 _))) rfl ?_)
                  refine Si.n rfl (Nat.le_of_ble_eq_true rfl) (V.ncPtr rfl ?_)
                  refine Si.n rfl (Nat.le_of_ble_eq_true rfl) (V.faPtr ty63 rfl ty29 (Nat.le_of_ble_eq_true rfl) rfl rfl (by first | exact Nat.le_of_ble_eq_true rfl | first | rfl | omega | (simp; done) | (simp; omega)) ?_)
                  refine Si.e ?_
                  refine ⟨(flEq_cons rfl (flEq_cons rfl flEq_nil)), ?_⟩
                  refine Lo.s rfl (A.sto ty29 rfl rfl rfl (v := .p (.v (.int .i64 _))) rfl rfl rfl (by first | exact Nat.le_of_ble_eq_true rfl | (first | rfl | omega | (simp; done) | (simp; omega))) rfl rfl ?_)
                  refine Pl.e ?_
                  refine Si.e ?_
                  refine ⟨flEq_nil, ?_⟩
                  show HT _ _ _ _ _
                  refine R.tell [] [(1, ⟨63, 1, 3, true, .rows (fun j => ([.bs b, .v (.int .i64 (rd4 b p e).2.1), .v (.int .i64 (rd4 b p e).2.2)] : List PV).getD j (.v undef))⟩), (4, ⟨26, 1, 8, true, .rows (fun j => if j = 5 then .bs ((rd2 b p e).1) else if j = 6 then .bs ((rd3 b p e).1) else if j = 7 then .bs ((rd4 b p e).1) else f j)⟩)] [0, 6, 7, 8] [2, 3] (fr0 := [(0, .ptr 1 0), (6, .own 3 0 _), (7, .p (.v (.int .i64 _))), (8, .p (.v (.int .i64 _)))]) (O0 := [(2, ⟨_, _, _, _, .rows _⟩), (3, ⟨_, _, _, _, .cells [.ptr 2 0, .ptr 4 5, .ptr 4 6, .ptr 4 7]⟩)]) rfl rfl ⟨⟨⟨.refl _, rfl⟩, ⟨.refl _, rfl⟩, ⟨.refl _, trivial⟩, ⟨.refl _, trivial⟩, trivial⟩, ⟨⟨_, rfl, .inr (ob_rows (by rfl) (by first | (rw [show rd4 b p e = Go.Vh.gT b (rd3 b p e).2.1 from rdT_0 (e := (rd3 b p e).2.2) (by assumption)]; (intro j hj; match j, hj with | 0, _ => rfl | 1, _ => rfl | 2, _ => rfl)) | (rw [show rd4 b p e = ([], (rd3 b p e).2.1, (rd3 b p e).2.2) from rdT_1 (e := (rd3 b p e).2.2) (by assumption)]; (intro j hj; match j, hj with | 0, _ => rfl | 1, _ => rfl | 2, _ => rfl)))), trivial⟩, ⟨_, rfl, .inr (ob_rows (by rfl) (by first | (rw [show rd4 b p e = Go.Vh.gT b (rd3 b p e).2.1 from rdT_0 (e := (rd3 b p e).2.2) (by assumption)]; intro j hj; by_cases h5 : j = 5 <;> by_cases h6 : j = 6 <;> by_cases h7 : j = 7 <;> first | (simp [h5, h6, h7, gT]; done) | (exfalso; omega)) | (rw [show rd4 b p e = ([], (rd3 b p e).2.1, (rd3 b p e).2.2) from rdT_1 (e := (rd3 b p e).2.2) (by assumption)]; intro j hj; by_cases h5 : j = 5 <;> by_cases h6 : j = 6 <;> by_cases h7 : j = 7 <;> first | (simp [h5, h6, h7, gT]; done) | (exfalso; omega)))), trivial⟩, ⟨_, rfl, .inl rfl, trivial⟩, ⟨_, rfl, .inl rfl, ⟨rfl, rfl, rfl, rfl, trivial⟩⟩, trivial⟩⟩ ?_
                  show HT _ _ _ _ _
                  refine HT.region S_rtext_4_ok ?_
                  refine So.n (Nat.le_of_ble_eq_true rfl) (A.v rfl (V.addI rfl rfl (by omega) ?_))
                  refine So.n (Nat.le_of_ble_eq_true rfl) (A.v rfl (V.mv (v := .p (.v (.int .i64 _))) rfl ?_))
                  refine So.e ?_
                  show HT _ _ _ _ _
                  refine HT.seq ?_
                  refine HT.region S_rtext_4_ok ?_
                  refine So.n (Nat.le_of_ble_eq_true rfl) (A.v rfl (V.bin (a := (.v (.int .i64 _))) (b := (.v (.int .i64 _))) (r := .v (.bool _)) rfl rfl rfl trivial ?_))
                  refine So.e ?_
                  show HT _ _ _ _ _
                  refine HT.seq ?_
                  refine R.cond rfl rfl (fun h26 => ?_) (fun h26 => ?_)
                  · have h26 := of_decide_eq_true h26
                    exfalso; omega
                  · have h26 := of_decide_eq_false h26
                    refine HT.exit ?_
                    exact ret_ok (sg [(1, 1), (2, 2), (4, 4)]) h rfl rfl rfl ⟨trivial, trivial, trivial, trivial⟩ trivial rfl ⟨trivial, ⟨⟨_, rfl, .inr (ob_rows (by first | rfl | ((try dsimp only); (first | with_reducible rfl | (intro j hj; rfl)))) (by first | rfl | ((try dsimp only); (first | with_reducible rfl | (intro j hj; rfl))))), trivial⟩, ⟨_, rfl, .inr (ob_rows (by first | rfl | ((try dsimp only); (first | with_reducible rfl | (intro j hj; rfl)))) (by first | rfl | ((try dsimp only); (first | with_reducible rfl | (intro j hj; rfl))))), trivial⟩, ⟨_, rfl, .inr (ob_rows (by first | rfl | ((try dsimp only); (first | with_reducible rfl | (intro j hj; rfl)))) (by first | rfl | ((try dsimp only); (first | with_reducible rfl | (intro j hj; rfl))))), trivial⟩, trivial⟩⟩
                · have h24 := of_decide_eq_false h24
                  refine HT.skip ?_
                  show HT _ _ _ _ _
                  refine R.tell [] [(1, ⟨63, 1, 3, true, .rows (fun j => ([.bs b, .v (.int .i64 (rd4 b p e).2.1), .v (.int .i64 (rd4 b p e).2.2)] : List PV).getD j (.v undef))⟩), (4, ⟨26, 1, 8, true, .rows (fun j => if j = 5 then .bs ((rd2 b p e).1) else if j = 6 then .bs ((rd3 b p e).1) else if j = 7 then .bs ((rd4 b p e).1) else f j)⟩)] [0, 6, 7, 8] [2, 3] (fr0 := [(0, .ptr 1 0), (6, .own 3 0 _), (7, .p (.v (.int .i64 _))), (8, .p (.v (.int .i64 _)))]) (O0 := [(2, ⟨_, _, _, _, .rows _⟩), (3, ⟨_, _, _, _, .cells [.ptr 2 0, .ptr 4 5, .ptr 4 6, .ptr 4 7]⟩)]) rfl rfl ⟨⟨⟨.refl _, rfl⟩, ⟨.refl _, rfl⟩, ⟨.refl _, trivial⟩, ⟨.refl _, trivial⟩, trivial⟩, ⟨⟨_, rfl, .inr (ob_rows (by rfl) (by first | (rw [show rd4 b p e = Go.Vh.gT b (rd3 b p e).2.1 from rdT_0 (e := (rd3 b p e).2.2) (by assumption)]; (intro j hj; match j, hj with | 0, _ => rfl | 1, _ => rfl | 2, _ => rfl)) | (rw [show rd4 b p e = ([], (rd3 b p e).2.1, (rd3 b p e).2.2) from rdT_1 (e := (rd3 b p e).2.2) (by assumption)]; (intro j hj; match j, hj with | 0, _ => rfl | 1, _ => rfl | 2, _ => rfl)))), trivial⟩, ⟨_, rfl, .inr (ob_rows (by rfl) (by first | (rw [show rd4 b p e = Go.Vh.gT b (rd3 b p e).2.1 from rdT_0 (e := (rd3 b p e).2.2) (by assumption)]; intro j hj; by_cases h5 : j = 5 <;> by_cases h6 : j = 6 <;> by_cases h7 : j = 7 <;> first | (simp [h5, h6, h7, gT]; done) | (exfalso; omega)) | (rw [show rd4 b p e = ([], (rd3 b p e).2.1, (rd3 b p e).2.2) from rdT_1 (e := (rd3 b p e).2.2) (by assumption)]; intro j hj; by_cases h5 : j = 5 <;> by_cases h6 : j = 6 <;> by_cases h7 : j = 7 <;> first | (simp [h5, h6, h7, gT]; done) | (exfalso; omega)))), trivial⟩, ⟨_, rfl, .inl rfl, trivial⟩, ⟨_, rfl, .inl rfl, ⟨rfl, rfl, rfl, rfl, trivial⟩⟩, trivial⟩⟩ ?_
                  show HT _ _ _ _ _
                  refine HT.region S_rtext_4_ok ?_
                  refine So.n (Nat.le_of_ble_eq_true rfl) (A.v rfl (V.addI rfl rfl (by omega) ?_))
                  refine So.n (Nat.le_of_ble_eq_true rfl) (A.v rfl (V.mv (v := .p (.v (.int .i64 _))) rfl ?_))
                  refine So.e ?_
                  show HT _ _ _ _ _
                  refine HT.seq ?_
                  refine HT.region S_rtext_4_ok ?_
                  refine So.n (Nat.le_of_ble_eq_true rfl) (A.v rfl (V.bin (a := (.v (.int .i64 _))) (b := (.v (.int .i64 _))) (r := .v (.bool _)) rfl rfl rfl trivial ?_))
                  refine So.e ?_
                  show HT _ _ _ _ _
                  refine HT.seq ?_
                  refine R.cond rfl rfl (fun h27 => ?_) (fun h27 => ?_)
                  · have h27 := of_decide_eq_true h27
                    exfalso; omega
                  · have h27 := of_decide_eq_false h27
                    refine HT.exit ?_
                    exact ret_ok (sg [(1, 1), (2, 2), (4, 4)]) h rfl rfl rfl ⟨trivial, trivial, trivial, trivial⟩ trivial rfl ⟨trivial, ⟨⟨_, rfl, .inr (ob_rows (by first | rfl | ((try dsimp only); (first | with_reducible rfl | (intro j hj; rfl)))) (by first | rfl | ((try dsimp only); (first | with_reducible rfl | (intro j hj; rfl))))), trivial⟩, ⟨_, rfl, .inr (ob_rows (by first | rfl | ((try dsimp only); (first | with_reducible rfl | (intro j hj; rfl)))) (by first | rfl | ((try dsimp only); (first | with_reducible rfl | (intro j hj; rfl))))), trivial⟩, ⟨_, rfl, .inr (ob_rows (by first | rfl | ((try dsimp only); (first | with_reducible rfl | (intro j hj; rfl)))) (by first | rfl | ((try dsimp only); (first | with_reducible rfl | (intro j hj; rfl))))), trivial⟩, trivial⟩⟩
              · have h23 := of_decide_eq_false h23
                exfalso; omega
            · have h21 := of_decide_eq_false h21
              refine HT.skip ?_
              show HT _ _ _ _ _
              refine R.tell [] [(1, ⟨63, 1, 3, true, .rows (fun j => ([.bs b, .v (.int .i64 (rd3 b p e).2.1), .v (.int .i64 (rd3 b p e).2.2)] : List PV).getD j (.v undef))⟩), (4, ⟨26, 1, 8, true, .rows (fun j => if j = 5 then .bs ((rd2 b p e).1) else if j = 6 then .bs ((rd3 b p e).1) else if j = 7 then .bs ([]) else f j)⟩)] [0, 6, 7, 8] [2, 3] (fr0 := [(0, .ptr 1 0), (6, .own 3 0 _), (7, .p (.v (.int .i64 _))), (8, .p (.v (.int .i64 _)))]) (O0 := [(2, ⟨_, _, _, _, .rows _⟩), (3, ⟨_, _, _, _, .cells [.ptr 2 0, .ptr 4 5, .ptr 4 6, .ptr 4 7]⟩)]) rfl rfl ⟨⟨⟨.refl _, rfl⟩, ⟨.refl _, rfl⟩, ⟨.refl _, trivial⟩, ⟨.refl _, trivial⟩, trivial⟩, ⟨⟨_, rfl, .inr (ob_rows (by rfl) (by first | (rw [show rd3 b p e = Go.Vh.gT b (rd2 b p e).2.1 from rdT_0 (e := (rd2 b p e).2.2) (by assumption)]; (intro j hj; match j, hj with | 0, _ => rfl | 1, _ => rfl | 2, _ => rfl)) | (rw [show rd3 b p e = ([], (rd2 b p e).2.1, (rd2 b p e).2.2) from rdT_1 (e := (rd2 b p e).2.2) (by assumption)]; (intro j hj; match j, hj with | 0, _ => rfl | 1, _ => rfl | 2, _ => rfl)))), trivial⟩, ⟨_, rfl, .inr (ob_rows (by rfl) (by first | (rw [show rd3 b p e = Go.Vh.gT b (rd2 b p e).2.1 from rdT_0 (e := (rd2 b p e).2.2) (by assumption)]; intro j hj; by_cases h5 : j = 5 <;> by_cases h6 : j = 6 <;> by_cases h7 : j = 7 <;> first | (simp [h5, h6, h7, gT]; done) | (exfalso; omega)) | (rw [show rd3 b p e = ([], (rd2 b p e).2.1, (rd2 b p e).2.2) from rdT_1 (e := (rd2 b p e).2.2) (by assumption)]; intro j hj; by_cases h5 : j = 5 <;> by_cases h6 : j = 6 <;> by_cases h7 : j = 7 <;> first | (simp [h5, h6, h7, gT]; done) | (exfalso; omega)))), trivial⟩, ⟨_, rfl, .inl rfl, trivial⟩, ⟨_, rfl, .inl rfl, ⟨rfl, rfl, rfl, rfl, trivial⟩⟩, trivial⟩⟩ ?_
              show HT _ _ _ _ _
              refine HT.region S_rtext_4_ok ?_
              refine So.n (Nat.le_of_ble_eq_true rfl) (A.v rfl (V.addI rfl rfl (by omega) ?_))
              refine So.n (Nat.le_of_ble_eq_true rfl) (A.v rfl (V.mv (v := .p (.v (.int .i64 _))) rfl ?_))
              refine So.e ?_
              show HT _ _ _ _ _
              refine HT.seq ?_
              refine HT.region S_rtext_4_ok ?_
              refine So.n (Nat.le_of_ble_eq_true rfl) (A.v rfl (V.bin (a := (.v (.int .i64 _))) (b := (.v (.int .i64 _))) (r := .v (.bool _)) rfl rfl rfl trivial ?_))
              refine So.e ?_
              show HT _ _ _ _ _
              refine HT.seq ?_
              refine R.cond rfl rfl (fun h28 => ?_) (fun h28 => ?_)
              · have h28 := of_decide_eq_true h28
                refine HT.skip ?_
                show HT _ _ _ _ _
                refine HT.seq ?_
                refine HT.block ?_
                refine HT.seq ?_
                refine HT.region S_rtext_4_ok ?_
                refine So.n (Nat.le_of_ble_eq_true rfl) (A.v rfl (V.ixOwn10 ty83 ty67 rfl rfl rfl rfl rfl (by omega) rfl ?_))
                refine So.n (Nat.le_of_ble_eq_true rfl) (A.v rfl (V.ldPtr ty67 rfl rfl rfl (Nat.le_of_ble_eq_true rfl) (v := .ptr 4 7) rfl ?_))
                refine So.n (Nat.le_of_ble_eq_true rfl) (A.v rfl (V.as (v := .ptr 4 7) rfl ?_))
                refine So.e ?_
                show HT _ _ _ _ _
                refine HT.seq ?_
                refine HT.region S_rtext_4_ok ?_
                refine So.n (Nat.le_of_ble_eq_true rfl) (A.v rfl (V.mv (v := .ptr 1 0) rfl ?_))
                refine So.n (Nat.le_of_ble_eq_true rfl) (A.v rfl (V.ncPtr rfl ?_))
                refine So.n (Nat.le_of_ble_eq_true rfl) (A.v rfl (V.faPtr ty63 rfl ty29 (Nat.le_of_ble_eq_true rfl) rfl rfl (by first | exact Nat.le_of_ble_eq_true rfl | first | rfl | omega | (simp; done) | (simp; omega)) ?_))
                refine So.n (Nat.le_of_ble_eq_true rfl) (A.v rfl (V.ldPtr ty29 rfl rfl rfl (by first | exact Nat.le_of_ble_eq_true rfl | (first | rfl | omega | (simp; done) | (simp; omega))) (v := .p (.v (.int .i64 _))) rfl ?_))
                refine So.n (Nat.le_of_ble_eq_true rfl) (A.v rfl (V.bin (a := (.v (.int .i64 _))) (b := (.v (.int .i64 (0)))) (r := .v (.bool _)) rfl rfl rfl trivial ?_))
                refine So.e ?_
                show HT _ _ _ _ _
                refine R.cond rfl rfl (fun h29 => ?_) (fun h29 => ?_)
                · have h29 := of_decide_eq_true h29
                  refine HT.planS S_rtext_4_ok S_rtext_4_det mixed [] [⟨[0, 1, 2, 3, 4, 5, 6, 7, 8, 9, 10, 11, 12, 13, 14, 15, 16], 17, [1, 2, 14, 15]⟩, ⟨[1, 2, 14, 15, 18, 19], 20, [2, 15]⟩, ⟨[2, 15, 21, 22], 23, []⟩] (by kernel_rfl) ?_
                  refine Pl.lk ?_
                  refine Si.n rfl (Nat.le_of_ble_eq_true rfl) (V.mv (v := .ptr 4 7) rfl ?_)
                  refine Si.n rfl (Nat.le_of_ble_eq_true rfl) (V.mv (v := .ptr 1 0) rfl ?_)
                  refine Si.n rfl (Nat.le_of_ble_eq_true rfl) (V.mv (v := .ptr 1 0) rfl ?_)
                  refine Si.n rfl (Nat.le_of_ble_eq_true rfl) (V.mv (v := .ptr 1 0) rfl ?_)
                  refine Si.n rfl (Nat.le_of_ble_eq_true rfl) (V.ncPtr rfl ?_)
                  refine Si.n rfl (Nat.le_of_ble_eq_true rfl) (V.faPtr ty63 rfl ty22 (Nat.le_of_ble_eq_true rfl) rfl rfl (by first | exact Nat.le_of_ble_eq_true rfl | first | rfl | omega | (simp; done) | (simp; omega)) ?_)
                  refine Si.n rfl (Nat.le_of_ble_eq_true rfl) (V.ldPtr ty22 rfl rfl rfl (by first | exact Nat.le_of_ble_eq_true rfl | (first | rfl | omega | (simp; done) | (simp; omega))) (v := .p (.bs _)) rfl ?_)
                  refine Si.n rfl (Nat.le_of_ble_eq_true rfl) (V.mv (v := .ptr 1 0) rfl ?_)
                  refine Si.n rfl (Nat.le_of_ble_eq_true rfl) (V.ncPtr rfl ?_)
                  refine Si.n rfl (Nat.le_of_ble_eq_true rfl) (V.faPtr ty63 rfl ty3 (Nat.le_of_ble_eq_true rfl) rfl rfl (by first | exact Nat.le_of_ble_eq_true rfl | first | rfl | omega | (simp; done) | (simp; omega)) ?_)
                  refine Si.n rfl (Nat.le_of_ble_eq_true rfl) (V.ldPtr ty3 rfl rfl rfl (by first | exact Nat.le_of_ble_eq_true rfl | (first | rfl | omega | (simp; done) | (simp; omega))) (v := .p (.v (.int .i64 _))) rfl ?_)
                  refine Si.n rfl (Nat.le_of_ble_eq_true rfl) (V.call [.p (.bs _), .p (.v (.int .i64 _))] 5 rfl rfl rfl rfl ⟨trivial, trivial, trivial⟩ ⟨Nat.le_of_ble_eq_true rfl, Nat.le_of_ble_eq_true rfl, Nat.le_of_ble_eq_true rfl, trivial⟩ (_, _) ⟨.refl _, .refl _, trivial⟩ trivial (by trivial) (Φ := fun (b, i) => ((getTextF b i).2.2 = 0 → 0 ≤ i ∧ i < (getTextF b i).2.1 ∧ (getTextF b i).2.1 ≤ b.length) ∧ (getTextF b i).1.length ≤ 1048576) (fun (b, i) _ => ⟨getTextF_ok b i, getTextF_len b i⟩) (.inl ⟨trivial, trivial, trivial⟩) (v := .tup 3 _) rfl (fun h30 => ?_))
                  try dsimp only at h30
                  refine Si.n rfl (Nat.le_of_ble_eq_true rfl) (V.mv (v := .tup 3 _) rfl ?_)
                  refine Si.n rfl (Nat.le_of_ble_eq_true rfl) (V.ext rfl (Nat.le_of_ble_eq_true rfl) (v := .p (.bs _)) rfl ?_)
                  refine Si.n rfl (Nat.le_of_ble_eq_true rfl) (V.ext rfl (Nat.le_of_ble_eq_true rfl) (v := .p (.v (.int .i64 _))) rfl ?_)
                  refine Si.n rfl (Nat.le_of_ble_eq_true rfl) (V.ext rfl (Nat.le_of_ble_eq_true rfl) (v := .p (.v (.int .i64 _))) rfl ?_)
                  refine Si.n rfl (Nat.le_of_ble_eq_true rfl) (V.ncPtr rfl ?_)
                  refine Si.e ?_
                  refine ⟨flEq_nil, fun ff => ?_⟩
                  refine Lo.s rfl (A.sto ty22 rfl rfl rfl (v := .p (.bs _)) rfl trivial rfl (by first | exact Nat.le_of_ble_eq_true rfl | (first | rfl | omega | (simp; done) | (simp; omega))) rfl rfl ?_)
                  refine ⟨_, fun ff => ff, ap0, rfl, FG.id, ?_⟩
                  show planA _ _ _ _ _ [(1, .ptr 1 0), (2, .ptr 1 0), (14, .p (.v (.int .i64 _))), (15, .p (.v (.int .i64 _)))] _ _ _
                  refine Pl.lk ?_
                  refine Si.n rfl (Nat.le_of_ble_eq_true rfl) (V.mv (v := .ptr 1 0) rfl ?_)
                  refine Si.n rfl (Nat.le_of_ble_eq_true rfl) (V.mv (v := .ptr 1 0) rfl ?_)
                  refine Si.n rfl (Nat.le_of_ble_eq_true rfl) (V.ext rfl (Nat.le_of_ble_eq_true rfl) (v := .p (.v (.int .i64 _))) rfl ?_)
                  refine Si.n rfl (Nat.le_of_ble_eq_true rfl) (V.ext rfl (Nat.le_of_ble_eq_true rfl) (v := .p (.v (.int .i64 _))) rfl ?_)
                  refine Si.n rfl (Nat.le_of_ble_eq_true rfl) (V.ncPtr rfl ?_)
                  refine Si.n rfl (Nat.le_of_ble_eq_true rfl) (V.faPtr ty63 rfl ty3 (Nat.le_of_ble_eq_true rfl) rfl rfl (by first | exact Nat.le_of_ble_eq_true rfl | first | rfl | omega | (simp; done) | (simp; omega)) ?_)
                  refine Si.e ?_
                  refine ⟨(flEq_cons rfl (flEq_cons rfl (flEq_cons rfl (flEq_cons rfl flEq_nil)))), fun ff => ?_⟩
                  refine Lo.s rfl (A.sto ty3 rfl rfl rfl (v := .p (.v (.int .i64 _))) rfl rfl rfl (by first | exact Nat.le_of_ble_eq_true rfl | (first | rfl | omega | (simp; done) | (simp; omega))) rfl rfl ?_)
                  refine ⟨_, fun ff => ff, ap0, rfl, FG.id, ?_⟩
                  show planA _ _ _ _ _ [(2, .ptr 1 0), (15, .p (.v (.int .i64 _)))] _ _ _
                  refine Pl.l0 ?_
                  refine Si.n rfl (Nat.le_of_ble_eq_true rfl) (V.mv (v := .ptr 1 0) rfl ?_)
                  refine Si.n rfl (Nat.le_of_ble_eq_true rfl) (V.ext rfl (Nat.le_of_ble_eq_true rfl) (v := .p (.v (.int .i64 _))) rfl ?_)
                  refine Si.n rfl (Nat.le_of_ble_eq_true rfl) (V.ncPtr rfl ?_)
                  refine Si.n rfl (Nat.le_of_ble_eq_true rfl) (V.faPtr ty63 rfl ty29 (Nat.le_of_ble_eq_true rfl) rfl rfl (by first | exact Nat.le_of_ble_eq_true rfl | first | rfl | omega | (simp; done) | (simp; omega)) ?_)
                  refine Si.e ?_
                  refine ⟨(flEq_cons rfl (flEq_cons rfl flEq_nil)), ?_⟩
                  refine Lo.s rfl (A.sto ty29 rfl rfl rfl (v := .p (.v (.int .i64 _))) rfl rfl rfl (by first | exact Nat.le_of_ble_eq_true rfl | (first | rfl | omega | (simp; done) | (simp; omega))) rfl rfl ?_)
                  refine Pl.e ?_
                  refine Si.e ?_
                  refine ⟨flEq_nil, ?_⟩
                  show HT _ _ _ _ _
                  refine R.tell [] [(1, ⟨63, 1, 3, true, .rows (fun j => ([.bs b, .v (.int .i64 (rd4 b p e).2.1), .v (.int .i64 (rd4 b p e).2.2)] : List PV).getD j (.v undef))⟩), (4, ⟨26, 1, 8, true, .rows (fun j => if j = 5 then .bs ((rd2 b p e).1) else if j = 6 then .bs ((rd3 b p e).1) else if j = 7 then .bs ((rd4 b p e).1) else f j)⟩)] [0, 6, 7, 8] [2, 3] (fr0 := [(0, .ptr 1 0), (6, .own 3 0 _), (7, .p (.v (.int .i64 _))), (8, .p (.v (.int .i64 _)))]) (O0 := [(2, ⟨_, _, _, _, .rows _⟩), (3, ⟨_, _, _, _, .cells [.ptr 2 0, .ptr 4 5, .ptr 4 6, .ptr 4 7]⟩)]) rfl rfl ⟨⟨⟨.refl _, rfl⟩, ⟨.refl _, rfl⟩, ⟨.refl _, trivial⟩, ⟨.refl _, trivial⟩, trivial⟩, ⟨⟨_, rfl, .inr (ob_rows (by rfl) (by first | (rw [show rd4 b p e = Go.Vh.gT b (rd3 b p e).2.1 from rdT_0 (e := (rd3 b p e).2.2) (by assumption)]; (intro j hj; match j, hj with | 0, _ => rfl | 1, _ => rfl | 2, _ => rfl)) | (rw [show rd4 b p e = ([], (rd3 b p e).2.1, (rd3 b p e).2.2) from rdT_1 (e := (rd3 b p e).2.2) (by assumption)]; (intro j hj; match j, hj with | 0, _ => rfl | 1, _ => rfl | 2, _ => rfl)))), trivial⟩, ⟨_, rfl, .inr (ob_rows (by rfl) (by first | (rw [show rd4 b p e = Go.Vh.gT b (rd3 b p e).2.1 from rdT_0 (e := (rd3 b p e).2.2) (by assumption)]; intro j hj; by_cases h5 : j = 5 <;> by_cases h6 : j = 6 <;> by_cases h7 : j = 7 <;> first | (simp [h5, h6, h7, gT]; done) | (exfalso; omega)) | (rw [show rd4 b p e = ([], (rd3 b p e).2.1, (rd3 b p e).2.2) from rdT_1 (e := (rd3 b p e).2.2) (by assumption)]; intro j hj; by_cases h5 : j = 5 <;> by_cases h6 : j = 6 <;> by_cases h7 : j = 7 <;> first | (simp [h5, h6, h7, gT]; done) | (exfalso; omega)))), trivial⟩, ⟨_, rfl, .inl rfl, trivial⟩, ⟨_, rfl, .inl rfl, ⟨rfl, rfl, rfl, rfl, trivial⟩⟩, trivial⟩⟩ ?_
                  show HT _ _ _ _ _
                  refine HT.region S_rtext_4_ok ?_
                  refine So.n (Nat.le_of_ble_eq_true rfl) (A.v rfl (V.addI rfl rfl (by omega) ?_))
                  refine So.n (Nat.le_of_ble_eq_true rfl) (A.v rfl (V.mv (v := .p (.v (.int .i64 _))) rfl ?_))
                  refine So.e ?_
                  show HT _ _ _ _ _
                  refine HT.seq ?_
                  refine HT.region S_rtext_4_ok ?_
                  refine So.n (Nat.le_of_ble_eq_true rfl) (A.v rfl (V.bin (a := (.v (.int .i64 _))) (b := (.v (.int .i64 _))) (r := .v (.bool _)) rfl rfl rfl trivial ?_))
                  refine So.e ?_
                  show HT _ _ _ _ _
                  refine HT.seq ?_
                  refine R.cond rfl rfl (fun h31 => ?_) (fun h31 => ?_)
                  · have h31 := of_decide_eq_true h31
                    exfalso; omega
                  · have h31 := of_decide_eq_false h31
                    refine HT.exit ?_
                    exact ret_ok (sg [(1, 1), (2, 2), (4, 4)]) h rfl rfl rfl ⟨trivial, trivial, trivial, trivial⟩ trivial rfl ⟨trivial, ⟨⟨_, rfl, .inr (ob_rows (by first | rfl | ((try dsimp only); (first | with_reducible rfl | (intro j hj; rfl)))) (by first | rfl | ((try dsimp only); (first | with_reducible rfl | (intro j hj; rfl))))), trivial⟩, ⟨_, rfl, .inr (ob_rows (by first | rfl | ((try dsimp only); (first | with_reducible rfl | (intro j hj; rfl)))) (by first | rfl | ((try dsimp only); (first | with_reducible rfl | (intro j hj; rfl))))), trivial⟩, ⟨_, rfl, .inr (ob_rows (by first | rfl | ((try dsimp only); (first | with_reducible rfl | (intro j hj; rfl)))) (by first | rfl | ((try dsimp only); (first | with_reducible rfl | (intro j hj; rfl))))), trivial⟩, trivial⟩⟩
                · have h29 := of_decide_eq_false h29
                  refine HT.skip ?_
                  show HT _ _ _ _ _
                  refine R.tell [] [(1, ⟨63, 1, 3, true, .rows (fun j => ([.bs b, .v (.int .i64 (rd4 b p e).2.1), .v (.int .i64 (rd4 b p e).2.2)] : List PV).getD j (.v undef))⟩), (4, ⟨26, 1, 8, true, .rows (fun j => if j = 5 then .bs ((rd2 b p e).1) else if j = 6 then .bs ((rd3 b p e).1) else if j = 7 then .bs ((rd4 b p e).1) else f j)⟩)] [0, 6, 7, 8] [2, 3] (fr0 := [(0, .ptr 1 0), (6, .own 3 0 _), (7, .p (.v (.int .i64 _))), (8, .p (.v (.int .i64 _)))]) (O0 := [(2, ⟨_, _, _, _, .rows _⟩), (3, ⟨_, _, _, _, .cells [.ptr 2 0, .ptr 4 5, .ptr 4 6, .ptr 4 7]⟩)]) rfl rfl ⟨⟨⟨.refl _, rfl⟩, ⟨.refl _, rfl⟩, ⟨.refl _, trivial⟩, ⟨.refl _, trivial⟩, trivial⟩, ⟨⟨_, rfl, .inr (ob_rows (by rfl) (by first | (rw [show rd4 b p e = Go.Vh.gT b (rd3 b p e).2.1 from rdT_0 (e := (rd3 b p e).2.2) (by assumption)]; (intro j hj; match j, hj with | 0, _ => rfl | 1, _ => rfl | 2, _ => rfl)) | (rw [show rd4 b p e = ([], (rd3 b p e).2.1, (rd3 b p e).2.2) from rdT_1 (e := (rd3 b p e).2.2) (by assumption)]; (intro j hj; match j, hj with | 0, _ => rfl | 1, _ => rfl | 2, _ => rfl)))), trivial⟩, ⟨_, rfl, .inr (ob_rows (by rfl) (by first | (rw [show rd4 b p e = Go.Vh.gT b (rd3 b p e).2.1 from rdT_0 (e := (rd3 b p e).2.2) (by assumption)]; intro j hj; by_cases h5 : j = 5 <;> by_cases h6 : j = 6 <;> by_cases h7 : j = 7 <;> first | (simp [h5, h6, h7, gT]; done) | (exfalso; omega)) | (rw [show rd4 b p e = ([], (rd3 b p e).2.1, (rd3 b p e).2.2) from rdT_1 (e := (rd3 b p e).2.2) (by assumption)]; intro j hj; by_cases h5 : j = 5 <;> by_cases h6 : j = 6 <;> by_cases h7 : j = 7 <;> first | (simp [h5, h6, h7, gT]; done) | (exfalso; omega)))), trivial⟩, ⟨_, rfl, .inl rfl, trivial⟩, ⟨_, rfl, .inl rfl, ⟨rfl, rfl, rfl, rfl, trivial⟩⟩, trivial⟩⟩ ?_
                  show HT _ _ _ _ _
                  refine HT.region S_rtext_4_ok ?_
                  refine So.n (Nat.le_of_ble_eq_true rfl) (A.v rfl (V.addI rfl rfl (by omega) ?_))
                  refine So.n (Nat.le_of_ble_eq_true rfl) (A.v rfl (V.mv (v := .p (.v (.int .i64 _))) rfl ?_))
                  refine So.e ?_
                  show HT _ _ _ _ _
                  refine HT.seq ?_
                  refine HT.region S_rtext_4_ok ?_
                  refine So.n (Nat.le_of_ble_eq_true rfl) (A.v rfl (V.bin (a := (.v (.int .i64 _))) (b := (.v (.int .i64 _))) (r := .v (.bool _)) rfl rfl rfl trivial ?_))
                  refine So.e ?_
                  show HT _ _ _ _ _
                  refine HT.seq ?_
                  refine R.cond rfl rfl (fun h32 => ?_) (fun h32 => ?_)
                  · have h32 := of_decide_eq_true h32
                    exfalso; omega
                  · have h32 := of_decide_eq_false h32
                    refine HT.exit ?_
                    exact ret_ok (sg [(1, 1), (2, 2), (4, 4)]) h rfl rfl rfl ⟨trivial, trivial, trivial, trivial⟩ trivial rfl ⟨trivial, ⟨⟨_, rfl, .inr (ob_rows (by first | rfl | ((try dsimp only); (first | with_reducible rfl | (intro j hj; rfl)))) (by first | rfl | ((try dsimp only); (first | with_reducible rfl | (intro j hj; rfl))))), trivial⟩, ⟨_, rfl, .inr (ob_rows (by first | rfl | ((try dsimp only); (first | with_reducible rfl | (intro j hj; rfl)))) (by first | rfl | ((try dsimp only); (first | with_reducible rfl | (intro j hj; rfl))))), trivial⟩, ⟨_, rfl, .inr (ob_rows (by first | rfl | ((try dsimp only); (first | with_reducible rfl | (intro j hj; rfl)))) (by first | rfl | ((try dsimp only); (first | with_reducible rfl | (intro j hj; rfl))))), trivial⟩, trivial⟩⟩
              · have h28 := of_decide_eq_false h28
                exfalso; omega
          · have h20 := of_decide_eq_false h20
            exfalso; omega
      · have h4 := of_decide_eq_false h4
        exfalso; omega
    · have h2 := of_decide_eq_false h2
      refine HT.skip ?_
      show HT _ _ _ _ _
      refine R.tell [] [(1, ⟨63, 1, 3, true, .rows (fun j => ([.bs b, .v (.int .i64 (rdT b p e).2.1), .v (.int .i64 (rdT b p e).2.2)] : List PV).getD j (.v undef))⟩), (2, ⟨63, 1, 3, true, .rows (fun j => if j = 0 then .bs ((rdT b p e).1) else u j)⟩)] [0, 6, 7, 8] [3, 4] (fr0 := [(0, .ptr 1 0), (6, .own 3 0 _), (7, .p (.v (.int .i64 _))), (8, .p (.v (.int .i64 _)))]) (O0 := [(3, ⟨_, _, _, _, .cells [.ptr 2 0, .ptr 4 5, .ptr 4 6, .ptr 4 7]⟩), (4, ⟨_, _, _, _, .rows _⟩)]) rfl rfl ⟨⟨⟨.refl _, rfl⟩, ⟨.refl _, rfl⟩, ⟨.refl _, trivial⟩, ⟨.refl _, trivial⟩, trivial⟩, ⟨⟨_, rfl, .inr (ob_rows (by rfl) (by first | (rw [show rdT b p e = Go.Vh.gT b p from rdT_0 (e := e) (by assumption)]; (intro j hj; match j, hj with | 0, _ => rfl | 1, _ => rfl | 2, _ => rfl)) | (rw [show rdT b p e = ([], p, e) from rdT_1 (e := e) (by assumption)]; (intro j hj; match j, hj with | 0, _ => rfl | 1, _ => rfl | 2, _ => rfl)))), trivial⟩, ⟨_, rfl, .inr (ob_rows (by rfl) (by first | (rw [show rdT b p e = Go.Vh.gT b p from rdT_0 (e := e) (by assumption)]; intro j hj; by_cases h0 : j = 0 <;> first | (simp [h0, gT]; done) | (exfalso; omega)) | (rw [show rdT b p e = ([], p, e) from rdT_1 (e := e) (by assumption)]; intro j hj; by_cases h0 : j = 0 <;> first | (simp [h0, gT]; done) | (exfalso; omega)))), trivial⟩, ⟨_, rfl, .inl rfl, ⟨rfl, rfl, rfl, rfl, trivial⟩⟩, ⟨_, rfl, .inl rfl, trivial⟩, trivial⟩⟩ ?_
      show HT _ _ _ _ _
      refine HT.region S_rtext_4_ok ?_
      refine So.n (Nat.le_of_ble_eq_true rfl) (A.v rfl (V.addI rfl rfl (by omega) ?_))
      refine So.n (Nat.le_of_ble_eq_true rfl) (A.v rfl (V.mv (v := .p (.v (.int .i64 _))) rfl ?_))
      refine So.e ?_
      show HT _ _ _ _ _
      refine HT.seq ?_
      refine HT.region S_rtext_4_ok ?_
      refine So.n (Nat.le_of_ble_eq_true rfl) (A.v rfl (V.bin (a := (.v (.int .i64 _))) (b := (.v (.int .i64 _))) (r := .v (.bool _)) rfl rfl rfl trivial ?_))
      refine So.e ?_
      show HT _ _ _ _ _
      refine HT.seq ?_
      refine R.cond rfl rfl (fun h33 => ?_) (fun h33 => ?_)
      · have h33 := of_decide_eq_true h33
        refine HT.skip ?_
        show HT _ _ _ _ _
        refine HT.seq ?_
        refine HT.block ?_
        refine HT.seq ?_
        refine HT.region S_rtext_4_ok ?_
        refine So.n (Nat.le_of_ble_eq_true rfl) (A.v rfl (V.ixOwn10 ty83 ty67 rfl rfl rfl rfl rfl (by omega) rfl ?_))
        refine So.n (Nat.le_of_ble_eq_true rfl) (A.v rfl (V.ldPtr ty67 rfl rfl rfl (Nat.le_of_ble_eq_true rfl) (v := .ptr 4 5) rfl ?_))
        refine So.n (Nat.le_of_ble_eq_true rfl) (A.v rfl (V.as (v := .ptr 4 5) rfl ?_))
        refine So.e ?_
        show HT _ _ _ _ _
        refine HT.seq ?_
        refine HT.region S_rtext_4_ok ?_
        refine So.n (Nat.le_of_ble_eq_true rfl) (A.v rfl (V.mv (v := .ptr 1 0) rfl ?_))
        refine So.n (Nat.le_of_ble_eq_true rfl) (A.v rfl (V.ncPtr rfl ?_))
        refine So.n (Nat.le_of_ble_eq_true rfl) (A.v rfl (V.faPtr ty63 rfl ty29 (Nat.le_of_ble_eq_true rfl) rfl rfl (by first | exact Nat.le_of_ble_eq_true rfl | first | rfl | omega | (simp; done) | (simp; omega)) ?_))
        refine So.n (Nat.le_of_ble_eq_true rfl) (A.v rfl (V.ldPtr ty29 rfl rfl rfl (by first | exact Nat.le_of_ble_eq_true rfl | (first | rfl | omega | (simp; done) | (simp; omega))) (v := .p (.v (.int .i64 _))) rfl ?_))
        refine So.n (Nat.le_of_ble_eq_true rfl) (A.v rfl (V.bin (a := (.v (.int .i64 _))) (b := (.v (.int .i64 (0)))) (r := .v (.bool _)) rfl rfl rfl trivial ?_))
        refine So.e ?_
        show HT _ _ _ _ _
        refine R.cond rfl rfl (fun h34 => ?_) (fun h34 => ?_)
        · have h34 := of_decide_eq_true h34
          refine HT.planS S_rtext_4_ok S_rtext_4_det mixed [] [⟨[0, 1, 2, 3, 4, 5, 6, 7, 8, 9, 10, 11, 12, 13, 14, 15, 16], 17, [1, 2, 14, 15]⟩, ⟨[1, 2, 14, 15, 18, 19], 20, [2, 15]⟩, ⟨[2, 15, 21, 22], 23, []⟩] (by kernel_rfl) ?_
          refine Pl.lk ?_
          refine Si.n rfl (Nat.le_of_ble_eq_true rfl) (V.mv (v := .ptr 4 5) rfl ?_)
          refine Si.n rfl (Nat.le_of_ble_eq_true rfl) (V.mv (v := .ptr 1 0) rfl ?_)
          refine Si.n rfl (Nat.le_of_ble_eq_true rfl) (V.mv (v := .ptr 1 0) rfl ?_)
          refine Si.n rfl (Nat.le_of_ble_eq_true rfl) (V.mv (v := .ptr 1 0) rfl ?_)
          refine Si.n rfl (Nat.le_of_ble_eq_true rfl) (V.ncPtr rfl ?_)
          refine Si.n rfl (Nat.le_of_ble_eq_true rfl) (V.faPtr ty63 rfl ty22 (Nat.le_of_ble_eq_true rfl) rfl rfl (by first | exact Nat.le_of_ble_eq_true rfl | first | rfl | omega | (simp; done) | (simp; omega)) ?_)
          refine Si.n rfl (Nat.le_of_ble_eq_true rfl) (V.ldPtr ty22 rfl rfl rfl (by first | exact Nat.le_of_ble_eq_true rfl | (first | rfl | omega | (simp; done) | (simp; omega))) (v := .p (.bs _)) rfl ?_)
          refine Si.n rfl (Nat.le_of_ble_eq_true rfl) (V.mv (v := .ptr 1 0) rfl ?_)
          refine Si.n rfl (Nat.le_of_ble_eq_true rfl) (V.ncPtr rfl ?_)
          refine Si.n rfl (Nat.le_of_ble_eq_true rfl) (V.faPtr ty63 rfl ty3 (Nat.le_of_ble_eq_true rfl) rfl rfl (by first | exact Nat.le_of_ble_eq_true rfl | first | rfl | omega | (simp; done) | (simp; omega)) ?_)
          refine Si.n rfl (Nat.le_of_ble_eq_true rfl) (V.ldPtr ty3 rfl rfl rfl (by first | exact Nat.le_of_ble_eq_true rfl | (first | rfl | omega | (simp; done) | (simp; omega))) (v := .p (.v (.int .i64 _))) rfl ?_)
          refine Si.n rfl (Nat.le_of_ble_eq_true rfl) (V.call [.p (.bs _), .p (.v (.int .i64 _))] 5 rfl rfl rfl rfl ⟨trivial, trivial, trivial⟩ ⟨Nat.le_of_ble_eq_true rfl, Nat.le_of_ble_eq_true rfl, Nat.le_of_ble_eq_true rfl, trivial⟩ (_, _) ⟨.refl _, .refl _, trivial⟩ trivial (by trivial) (Φ := fun (b, i) => ((getTextF b i).2.2 = 0 → 0 ≤ i ∧ i < (getTextF b i).2.1 ∧ (getTextF b i).2.1 ≤ b.length) ∧ (getTextF b i).1.length ≤ 1048576) (fun (b, i) _ => ⟨getTextF_ok b i, getTextF_len b i⟩) (.inl ⟨trivial, trivial, trivial⟩) (v := .tup 3 _) rfl (fun h35 => ?_))
          try dsimp only at h35
          refine Si.n rfl (Nat.le_of_ble_eq_true rfl) (V.mv (v := .tup 3 _) rfl ?_)
          refine Si.n rfl (Nat.le_of_ble_eq_true rfl) (V.ext rfl (Nat.le_of_ble_eq_true rfl) (v := .p (.bs _)) rfl ?_)
          refine Si.n rfl (Nat.le_of_ble_eq_true rfl) (V.ext rfl (Nat.le_of_ble_eq_true rfl) (v := .p (.v (.int .i64 _))) rfl ?_)
          refine Si.n rfl (Nat.le_of_ble_eq_true rfl) (V.ext rfl (Nat.le_of_ble_eq_true rfl) (v := .p (.v (.int .i64 _))) rfl ?_)
          refine Si.n rfl (Nat.le_of_ble_eq_true rfl) (V.ncPtr rfl ?_)
          refine Si.e ?_
          refine ⟨flEq_nil, fun ff => ?_⟩
          refine Lo.s rfl (A.sto ty22 rfl rfl rfl (v := .p (.bs _)) rfl trivial rfl (by first | exact Nat.le_of_ble_eq_true rfl | (first | rfl | omega | (simp; done) | (simp; omega))) rfl rfl ?_)
          refine ⟨_, fun ff => ff, ap0, rfl, FG.id, ?_⟩
          show planA _ _ _ _ _ [(1, .ptr 1 0), (2, .ptr 1 0), (14, .p (.v (.int .i64 _))), (15, .p (.v (.int .i64 _)))] _ _ _
          refine Pl.lk ?_
          refine Si.n rfl (Nat.le_of_ble_eq_true rfl) (V.mv (v := .ptr 1 0) rfl ?_)
          refine Si.n rfl (Nat.le_of_ble_eq_true rfl) (V.mv (v := .ptr 1 0) rfl ?_)
          refine Si.n rfl (Nat.le_of_ble_eq_true rfl) (V.ext rfl (Nat.le_of_ble_eq_true rfl) (v := .p (.v (.int .i64 _))) rfl ?_)
          refine Si.n rfl (Nat.le_of_ble_eq_true rfl) (V.ext rfl (Nat.le_of_ble_eq_true rfl) (v := .p (.v (.int .i64 _))) rfl ?_)
          refine Si.n rfl (Nat.le_of_ble_eq_true rfl) (V.ncPtr rfl ?_)
          refine Si.n rfl (Nat.le_of_ble_eq_true rfl) (V.faPtr ty63 rfl ty3 (Nat.le_of_ble_eq_true rfl) rfl rfl (by first | exact Nat.le_of_ble_eq_true rfl | first | rfl | omega | (simp; done) | (simp; omega)) ?_)
          refine Si.e ?_
          refine ⟨(flEq_cons rfl (flEq_cons rfl (flEq_cons rfl (flEq_cons rfl flEq_nil)))), fun ff => ?_⟩
          refine Lo.s rfl (A.sto ty3 rfl rfl rfl (v := .p (.v (.int .i64 _))) rfl rfl rfl (by first | exact Nat.le_of_ble_eq_true rfl | (first | rfl | omega | (simp; done) | (simp; omega))) rfl rfl ?_)
          refine ⟨_, fun ff => ff, ap0, rfl, FG.id, ?_⟩
          show planA _ _ _ _ _ [(2, .ptr 1 0), (15, .p (.v (.int .i64 _)))] _ _ _
          refine Pl.l0 ?_
          refine Si.n rfl (Nat.le_of_ble_eq_true rfl) (V.mv (v := .ptr 1 0) rfl ?_)
          refine Si.n rfl (Nat.le_of_ble_eq_true rfl) (V.ext rfl (Nat.le_of_ble_eq_true rfl) (v := .p (.v (.int .i64 _))) rfl ?_)
          refine Si.n rfl (Nat.le_of_ble_eq_true rfl) (V.ncPtr rfl ?_)
          refine Si.n rfl (Nat.le_of_ble_eq_true rfl) (V.faPtr ty63 rfl ty29 (Nat.le_of_ble_eq_true rfl) rfl rfl (by first | exact Nat.le_of_ble_eq_true rfl | first | rfl | omega | (simp; done) | (simp; omega)) ?_)
          refine Si.e ?_
          refine ⟨(flEq_cons rfl (flEq_cons rfl flEq_nil)), ?_⟩
          refine Lo.s rfl (A.sto ty29 rfl rfl rfl (v := .p (.v (.int .i64 _))) rfl rfl rfl (by first | exact Nat.le_of_ble_eq_true rfl | (first | rfl | omega | (simp; done) | (simp; omega))) rfl rfl ?_)
          refine Pl.e ?_
          refine Si.e ?_
          refine ⟨flEq_nil, ?_⟩
          show HT _ _ _ _ _
          refine R.tell [] [(1, ⟨63, 1, 3, true, .rows (fun j => ([.bs b, .v (.int .i64 (rd2 b p e).2.1), .v (.int .i64 (rd2 b p e).2.2)] : List PV).getD j (.v undef))⟩), (4, ⟨26, 1, 8, true, .rows (fun j => if j = 5 then .bs ((rd2 b p e).1) else if j = 6 then .bs ([]) else if j = 7 then .bs ([]) else f j)⟩)] [0, 6, 7, 8] [2, 3] (fr0 := [(0, .ptr 1 0), (6, .own 3 0 _), (7, .p (.v (.int .i64 _))), (8, .p (.v (.int .i64 _)))]) (O0 := [(2, ⟨_, _, _, _, .rows _⟩), (3, ⟨_, _, _, _, .cells [.ptr 2 0, .ptr 4 5, .ptr 4 6, .ptr 4 7]⟩)]) rfl rfl ⟨⟨⟨.refl _, rfl⟩, ⟨.refl _, rfl⟩, ⟨.refl _, trivial⟩, ⟨.refl _, trivial⟩, trivial⟩, ⟨⟨_, rfl, .inr (ob_rows (by rfl) (by first | (rw [show rd2 b p e = Go.Vh.gT b (rdT b p e).2.1 from rdT_0 (e := (rdT b p e).2.2) (by assumption)]; (intro j hj; match j, hj with | 0, _ => rfl | 1, _ => rfl | 2, _ => rfl)) | (rw [show rd2 b p e = ([], (rdT b p e).2.1, (rdT b p e).2.2) from rdT_1 (e := (rdT b p e).2.2) (by assumption)]; (intro j hj; match j, hj with | 0, _ => rfl | 1, _ => rfl | 2, _ => rfl)))), trivial⟩, ⟨_, rfl, .inr (ob_rows (by rfl) (by first | (rw [show rd2 b p e = Go.Vh.gT b (rdT b p e).2.1 from rdT_0 (e := (rdT b p e).2.2) (by assumption)]; intro j hj; by_cases h5 : j = 5 <;> by_cases h6 : j = 6 <;> by_cases h7 : j = 7 <;> first | (simp [h5, h6, h7, gT]; done) | (exfalso; omega)) | (rw [show rd2 b p e = ([], (rdT b p e).2.1, (rdT b p e).2.2) from rdT_1 (e := (rdT b p e).2.2) (by assumption)]; intro j hj; by_cases h5 : j = 5 <;> by_cases h6 : j = 6 <;> by_cases h7 : j = 7 <;> first | (simp [h5, h6, h7, gT]; done) | (exfalso; omega)))), trivial⟩, ⟨_, rfl, .inl rfl, trivial⟩, ⟨_, rfl, .inl rfl, ⟨rfl, rfl, rfl, rfl, trivial⟩⟩, trivial⟩⟩ ?_
          show HT _ _ _ _ _
          refine HT.region S_rtext_4_ok ?_
          refine So.n (Nat.le_of_ble_eq_true rfl) (A.v rfl (V.addI rfl rfl (by omega) ?_))
          refine So.n (Nat.le_of_ble_eq_true rfl) (A.v rfl (V.mv (v := .p (.v (.int .i64 _))) rfl ?_))
          refine So.e ?_
          show HT _ _ _ _ _
          refine HT.seq ?_
          refine HT.region S_rtext_4_ok ?_
          refine So.n (Nat.le_of_ble_eq_true rfl) (A.v rfl (V.bin (a := (.v (.int .i64 _))) (b := (.v (.int .i64 _))) (r := .v (.bool _)) rfl rfl rfl trivial ?_))
          refine So.e ?_
          show HT _ _ _ _ _
          refine HT.seq ?_
          refine R.cond rfl rfl (fun h36 => ?_) (fun h36 => ?_)
          · have h36 := of_decide_eq_true h36
            refine HT.skip ?_
            show HT _ _ _ _ _
            refine HT.seq ?_
            refine HT.block ?_
            refine HT.seq ?_
            refine HT.region S_rtext_4_ok ?_
            refine So.n (Nat.le_of_ble_eq_true rfl) (A.v rfl (V.ixOwn10 ty83 ty67 rfl rfl rfl rfl rfl (by omega) rfl ?_))
            refine So.n (Nat.le_of_ble_eq_true rfl) (A.v rfl (V.ldPtr ty67 rfl rfl rfl (Nat.le_of_ble_eq_true rfl) (v := .ptr 4 6) rfl ?_))
            refine So.n (Nat.le_of_ble_eq_true rfl) (A.v rfl (V.as (v := .ptr 4 6) rfl ?_))
            refine So.e ?_
            show HT _ _ _ _ _
            refine HT.seq ?_
            refine HT.region S_rtext_4_ok ?_
            refine So.n (Nat.le_of_ble_eq_true rfl) (A.v rfl (V.mv (v := .ptr 1 0) rfl ?_))
            refine So.n (Nat.le_of_ble_eq_true rfl) (A.v rfl (V.ncPtr rfl ?_))
            refine So.n (Nat.le_of_ble_eq_true rfl) (A.v rfl (V.faPtr ty63 rfl ty29 (Nat.le_of_ble_eq_true rfl) rfl rfl (by first | exact Nat.le_of_ble_eq_true rfl | first | rfl | omega | (simp; done) | (simp; omega)) ?_))
            refine So.n (Nat.le_of_ble_eq_true rfl) (A.v rfl (V.ldPtr ty29 rfl rfl rfl (by first | exact Nat.le_of_ble_eq_true rfl | (first | rfl | omega | (simp; done) | (simp; omega))) (v := .p (.v (.int .i64 _))) rfl ?_))
            refine So.n (Nat.le_of_ble_eq_true rfl) (A.v rfl (V.bin (a := (.v (.int .i64 _))) (b := (.v (.int .i64 (0)))) (r := .v (.bool _)) rfl rfl rfl trivial ?_))
            refine So.e ?_
            show HT _ _ _ _ _
            refine R.cond rfl rfl (fun h37 => ?_) (fun h37 => ?_)
            · have h37 := of_decide_eq_true h37
              refine HT.planS S_rtext_4_ok S_rtext_4_det mixed [] [⟨[0, 1, 2, 3, 4, 5, 6, 7, 8, 9, 10, 11, 12, 13, 14, 15, 16], 17, [1, 2, 14, 15]⟩, ⟨[1, 2, 14, 15, 18, 19], 20, [2, 15]⟩, ⟨[2, 15, 21, 22], 23, []⟩] (by kernel_rfl) ?_
              refine Pl.lk ?_
              refine Si.n rfl (Nat.le_of_ble_eq_true rfl) (V.mv (v := .ptr 4 6) rfl ?_)
              refine Si.n rfl (Nat.le_of_ble_eq_true rfl) (V.mv (v := .ptr 1 0) rfl ?_)
              refine Si.n rfl (Nat.le_of_ble_eq_true rfl) (V.mv (v := .ptr 1 0) rfl ?_)
              refine Si.n rfl (Nat.le_of_ble_eq_true rfl) (V.mv (v := .ptr 1 0) rfl ?_)
              refine Si.n rfl (Nat.le_of_ble_eq_true rfl) (V.ncPtr rfl ?_)
              refine Si.n rfl (Nat.le_of_ble_eq_true rfl) (V.faPtr ty63 rfl ty22 (Nat.le_of_ble_eq_true rfl) rfl rfl (by first | exact Nat.le_of_ble_eq_true rfl | first | rfl | omega | (simp; done) | (simp; omega)) ?_)
              refine Si.n rfl (Nat.le_of_ble_eq_true rfl) (V.ldPtr ty22 rfl rfl rfl (by first | exact Nat.le_of_ble_eq_true rfl | (first | rfl | omega | (simp; done) | (simp; omega))) (v := .p (.bs _)) rfl ?_)
              refine Si.n rfl (Nat.le_of_ble_eq_true rfl) (V.mv (v := .ptr 1 0) rfl ?_)
              refine Si.n rfl (Nat.le_of_ble_eq_true rfl) (V.ncPtr rfl ?_)
              refine Si.n rfl (Nat.le_of_ble_eq_true rfl) (V.faPtr ty63 rfl ty3 (Nat.le_of_ble_eq_true rfl) rfl rfl (by first | exact Nat.le_of_ble_eq_true rfl | first | rfl | omega | (simp; done) | (simp; omega)) ?_)
              refine Si.n rfl (Nat.le_of_ble_eq_true rfl) (V.ldPtr ty3 rfl rfl rfl (by first | exact Nat.le_of_ble_eq_true rfl | (first | rfl | omega | (simp; done) | (simp; omega))) (v := .p (.v (.int .i64 _))) rfl ?_)
              refine Si.n rfl (Nat.le_of_ble_eq_true rfl) (V.call [.p (.bs _), .p (.v (.int .i64 _))] 5 rfl rfl rfl rfl ⟨trivial, trivial, trivial⟩ ⟨Nat.le_of_ble_eq_true rfl, Nat.le_of_ble_eq_true rfl, Nat.le_of_ble_eq_true rfl, trivial⟩ (_, _) ⟨.refl _, .refl _, trivial⟩ trivial (by trivial) (Φ := fun (b, i) => ((getTextF b i).2.2 = 0 → 0 ≤ i ∧ i < (getTextF b i).2.1 ∧ (getTextF b i).2.1 ≤ b.length) ∧ (getTextF b i).1.length ≤ 1048576) (fun (b, i) _ => ⟨getTextF_ok b i, getTextF_len b i⟩) (.inl ⟨trivial, trivial, trivial⟩) (v := .tup 3 _) rfl (fun h38 => ?_))
              try dsimp only at h38
              refine Si.n rfl (Nat.le_of_ble_eq_true rfl) (V.mv (v := .tup 3 _) rfl ?_)
              refine Si.n rfl (Nat.le_of_ble_eq_true rfl) (V.ext rfl (Nat.le_of_ble_eq_true rfl) (v := .p (.bs _)) rfl ?_)
              refine Si.n rfl (Nat.le_of_ble_eq_true rfl) (V.ext rfl (Nat.le_of_ble_eq_true rfl) (v := .p (.v (.int .i64 _))) rfl ?_)
              refine Si.n rfl (Nat.le_of_ble_eq_true rfl) (V.ext rfl (Nat.le_of_ble_eq_true rfl) (v := .p (.v (.int .i64 _))) rfl ?_)
              refine Si.n rfl (Nat.le_of_ble_eq_true rfl) (V.ncPtr rfl ?_)
              refine Si.e ?_
              refine ⟨flEq_nil, fun ff => ?_⟩
              refine Lo.s rfl (A.sto ty22 rfl rfl rfl (v := .p (.bs _)) rfl trivial rfl (by first | exact Nat.le_of_ble_eq_true rfl | (first | rfl | omega | (simp; done) | (simp; omega))) rfl rfl ?_)
              refine ⟨_, fun ff => ff, ap0, rfl, FG.id, ?_⟩
              show planA _ _ _ _ _ [(1, .ptr 1 0), (2, .ptr 1 0), (14, .p (.v (.int .i64 _))), (15, .p (.v (.int .i64 _)))] _ _ _
              refine Pl.lk ?_
              refine Si.n rfl (Nat.le_of_ble_eq_true rfl) (V.mv (v := .ptr 1 0) rfl ?_)
              refine Si.n rfl (Nat.le_of_ble_eq_true rfl) (V.mv (v := .ptr 1 0) rfl ?_)
              refine Si.n rfl (Nat.le_of_ble_eq_true rfl) (V.ext rfl (Nat.le_of_ble_eq_true rfl) (v := .p (.v (.int .i64 _))) rfl ?_)
              refine Si.n rfl (Nat.le_of_ble_eq_true rfl) (V.ext rfl (Nat.le_of_ble_eq_true rfl) (v := .p (.v (.int .i64 _))) rfl ?_)
              refine Si.n rfl (Nat.le_of_ble_eq_true rfl) (V.ncPtr rfl ?_)
              refine Si.n rfl (Nat.le_of_ble_eq_true rfl) (V.faPtr ty63 rfl ty3 (Nat.le_of_ble_eq_true rfl) rfl rfl (by first | exact Nat.le_of_ble_eq_true rfl | first | rfl | omega | (simp; done) | (simp; omega)) ?_)
              refine Si.e ?_
              refine ⟨(flEq_cons rfl (flEq_cons rfl (flEq_cons rfl (flEq_cons rfl flEq_nil)))), fun ff => ?_⟩
              refine Lo.s rfl (A.sto ty3 rfl rfl rfl (v := .p (.v (.int .i64 _))) rfl rfl rfl (by first | exact Nat.le_of_ble_eq_true rfl | (first | rfl | omega | (simp; done) | (simp; omega))) rfl rfl ?_)
              refine ⟨_, fun ff => ff, ap0, rfl, FG.id, ?_⟩
              show planA _ _ _ _ _ [(2, .ptr 1 0), (15, .p (.v (.int .i64 _)))] _ _ _
              refine Pl.l0 ?_
              refine Si.n rfl (Nat.le_of_ble_eq_true rfl) (V.mv (v := .ptr 1 0) rfl ?_)
              refine Si.n rfl (Nat.le_of_ble_eq_true rfl) (V.ext rfl (Nat.le_of_ble_eq_true rfl) (v := .p (.v (.int .i64 _))) rfl ?_)
              refine Si.n rfl (Nat.le_of_ble_eq_true rfl) (V.ncPtr rfl ?_)
              refine Si.n rfl (Nat.le_of_ble_eq_true rfl) (V.faPtr ty63 rfl ty29 (Nat.le_of_ble_eq_true rfl) rfl rfl (by first | exact Nat.le_of_ble_eq_true rfl | first | rfl | omega | (simp; done) | (simp; omega)) ?_)
              refine Si.e ?_
              refine ⟨(flEq_cons rfl (flEq_cons rfl flEq_nil)), ?_⟩
              refine Lo.s rfl (A.sto ty29 rfl rfl rfl (v := .p (.v (.int .i64 _))) rfl rfl rfl (by first | exact Nat.le_of_ble_eq_true rfl | (first | rfl | omega | (simp; done) | (simp; omega))) rfl rfl ?_)
              refine Pl.e ?_
              refine Si.e ?_
              refine ⟨flEq_nil, ?_⟩
              show HT _ _ _ _ _
              refine R.tell [] [(1, ⟨63, 1, 3, true, .rows (fun j => ([.bs b, .v (.int .i64 (rd3 b p e).2.1), .v (.int .i64 (rd3 b p e).2.2)] : List PV).getD j (.v undef))⟩), (4, ⟨26, 1, 8, true, .rows (fun j => if j = 5 then .bs ((rd2 b p e).1) else if j = 6 then .bs ((rd3 b p e).1) else if j = 7 then .bs ([]) else f j)⟩)] [0, 6, 7, 8] [2, 3] (fr0 := [(0, .ptr 1 0), (6, .own 3 0 _), (7, .p (.v (.int .i64 _))), (8, .p (.v (.int .i64 _)))]) (O0 := [(2, ⟨_, _, _, _, .rows _⟩), (3, ⟨_, _, _, _, .cells [.ptr 2 0, .ptr 4 5, .ptr 4 6, .ptr 4 7]⟩)]) rfl rfl ⟨⟨⟨.refl _, rfl⟩, ⟨.refl _, rfl⟩, ⟨.refl _, trivial⟩, ⟨.refl _, trivial⟩, trivial⟩, ⟨⟨_, rfl, .inr (ob_rows (by rfl) (by first | (rw [show rd3 b p e = Go.Vh.gT b (rd2 b p e).2.1 from rdT_0 (e := (rd2 b p e).2.2) (by assumption)]; (intro j hj; match j, hj with | 0, _ => rfl | 1, _ => rfl | 2, _ => rfl)) | (rw [show rd3 b p e = ([], (rd2 b p e).2.1, (rd2 b p e).2.2) from rdT_1 (e := (rd2 b p e).2.2) (by assumption)]; (intro j hj; match j, hj with | 0, _ => rfl | 1, _ => rfl | 2, _ => rfl)))), trivial⟩, ⟨_, rfl, .inr (ob_rows (by rfl) (by first | (rw [show rd3 b p e = Go.Vh.gT b (rd2 b p e).2.1 from rdT_0 (e := (rd2 b p e).2.2) (by assumption)]; intro j hj; by_cases h5 : j = 5 <;> by_cases h6 : j = 6 <;> by_cases h7 : j = 7 <;> first | (simp [h5, h6, h7, gT]; done) | (exfalso; omega)) | (rw [show rd3 b p e = ([], (rd2 b p e).2.1, (rd2 b p e).2.2) from rdT_1 (e := (rd2 b p e).2.2) (by assumption)]; intro j hj; by_cases h5 : j = 5 <;> by_cases h6 : j = 6 <;> by_cases h7 : j = 7 <;> first | (simp [h5, h6, h7, gT]; done) | (exfalso; omega)))), trivial⟩, ⟨_, rfl, .inl rfl, trivial⟩, ⟨_, rfl, .inl rfl, ⟨rfl, rfl, rfl, rfl, trivial⟩⟩, trivial⟩⟩ ?_
              show HT _ _ _ _ _
              refine HT.region S_rtext_4_ok ?_
              refine So.n (Nat.le_of_ble_eq_true rfl) (A.v rfl (V.addI rfl rfl (by omega) ?_))
              refine So.n (Nat.le_of_ble_eq_true rfl) (A.v rfl (V.mv (v := .p (.v (.int .i64 _))) rfl ?_))
              refine So.e ?_
              show HT _ _ _ _ _
              refine HT.seq ?_
              refine HT.region S_rtext_4_ok ?_
              refine So.n (Nat.le_of_ble_eq_true rfl) (A.v rfl (V.bin (a := (.v (.int .i64 _))) (b := (.v (.int .i64 _))) (r := .v (.bool _)) rfl rfl rfl trivial ?_))
              refine So.e ?_
              show HT _ _ _ _ _
              refine HT.seq ?_
              refine R.cond rfl rfl (fun h39 => ?_) (fun h39 => ?_)
              · have h39 := of_decide_eq_true h39
                refine HT.skip ?_
                show HT _ _ _ _ _
                refine HT.seq ?_
                refine HT.block ?_
                refine HT.seq ?_
                refine HT.region S_rtext_4_ok ?_
                refine So.n (Nat.le_of_ble_eq_true rfl) (A.v rfl (V.ixOwn10 ty83 ty67 rfl rfl rfl rfl rfl (by omega) rfl ?_))
                refine So.n (Nat.le_of_ble_eq_true rfl) (A.v rfl (V.ldPtr ty67 rfl rfl rfl (Nat.le_of_ble_eq_true rfl) (v := .ptr 4 7) rfl ?_))
                refine So.n (Nat.le_of_ble_eq_true rfl) (A.v rfl (V.as (v := .ptr 4 7) rfl ?_))
                refine So.e ?_
                show HT _ _ _ _ _
                refine HT.seq ?_
                refine HT.region S_rtext_4_ok ?_
                refine So.n (Nat.le_of_ble_eq_true rfl) (A.v rfl (V.mv (v := .ptr 1 0) rfl ?_))
                refine So.n (Nat.le_of_ble_eq_true rfl) (A.v rfl (V.ncPtr rfl ?_))
                refine So.n (Nat.le_of_ble_eq_true rfl) (A.v rfl (V.faPtr ty63 rfl ty29 (Nat.le_of_ble_eq_true rfl) rfl rfl (by first | exact Nat.le_of_ble_eq_true rfl | first | rfl | omega | (simp; done) | (simp; omega)) ?_))
                refine So.n (Nat.le_of_ble_eq_true rfl) (A.v rfl (V.ldPtr ty29 rfl rfl rfl (by first | exact Nat.le_of_ble_eq_true rfl | (first | rfl | omega | (simp; done) | (simp; omega))) (v := .p (.v (.int .i64 _))) rfl ?_))
                refine So.n (Nat.le_of_ble_eq_true rfl) (A.v rfl (V.bin (a := (.v (.int .i64 _))) (b := (.v (.int .i64 (0)))) (r := .v (.bool _)) rfl rfl rfl trivial ?_))
                refine So.e ?_
                show HT _ _ _ _ _
                refine R.cond rfl rfl (fun h40 => ?_) (fun h40 => ?_)
                · have h40 := of_decide_eq_true h40
                  refine HT.planS S_rtext_4_ok S_rtext_4_det mixed [] [⟨[0, 1, 2, 3, 4, 5, 6, 7, 8, 9, 10, 11, 12, 13, 14, 15, 16], 17, [1, 2, 14, 15]⟩, ⟨[1, 2, 14, 15, 18, 19], 20, [2, 15]⟩, ⟨[2, 15, 21, 22], 23, []⟩] (by kernel_rfl) ?_
                  refine Pl.lk ?_
                  refine Si.n rfl (Nat.le_of_ble_eq_true rfl) (V.mv (v := .ptr 4 7) rfl ?_)
                  refine Si.n rfl (Nat.le_of_ble_eq_true rfl) (V.mv (v := .ptr 1 0) rfl ?_)
                  refine Si.n rfl (Nat.le_of_ble_eq_true rfl) (V.mv (v := .ptr 1 0) rfl ?_)
                  refine Si.n rfl (Nat.le_of_ble_eq_true rfl) (V.mv (v := .ptr 1 0) rfl ?_)
                  refine Si.n rfl (Nat.le_of_ble_eq_true rfl) (V.ncPtr rfl ?_)
                  refine Si.n rfl (Nat.le_of_ble_eq_true rfl) (V.faPtr ty63 rfl ty22 (Nat.le_of_ble_eq_true rfl) rfl rfl (by first | exact Nat.le_of_ble_eq_true rfl | first | rfl | omega | (simp; done) | (simp; omega)) ?_)
                  refine Si.n rfl (Nat.le_of_ble_eq_true rfl) (V.ldPtr ty22 rfl rfl rfl (by first | exact Nat.le_of_ble_eq_true rfl | (first | rfl | omega | (simp; done) | (simp; omega))) (v := .p (.bs _)) rfl ?_)
                  refine Si.n rfl (Nat.le_of_ble_eq_true rfl) (V.mv (v := .ptr 1 0) rfl ?_)
                  refine Si.n rfl (Nat.le_of_ble_eq_true rfl) (V.ncPtr rfl ?_)
                  refine Si.n rfl (Nat.le_of_ble_eq_true rfl) (V.faPtr ty63 rfl ty3 (Nat.le_of_ble_eq_true rfl) rfl rfl (by first | exact Nat.le_of_ble_eq_true rfl | first | rfl | omega | (simp; done) | (simp; omega)) ?_)
                  refine Si.n rfl (Nat.le_of_ble_eq_true rfl) (V.ldPtr ty3 rfl rfl rfl (by first | exact Nat.le_of_ble_eq_true rfl | (first | rfl | omega | (simp; done) | (simp; omega))) (v := .p (.v (.int .i64 _))) rfl ?_)
                  refine Si.n rfl (Nat.le_of_ble_eq_true rfl) (V.call [.p (.bs _), .p (.v (.int .i64 _))] 5 rfl rfl rfl rfl ⟨trivial, trivial, trivial⟩ ⟨Nat.le_of_ble_eq_true rfl, Nat.le_of_ble_eq_true rfl, Nat.le_of_ble_eq_true rfl, trivial⟩ (_, _) ⟨.refl _, .refl _, trivial⟩ trivial (by trivial) (Φ := fun (b, i) => ((getTextF b i).2.2 = 0 → 0 ≤ i ∧ i < (getTextF b i).2.1 ∧ (getTextF b i).2.1 ≤ b.length) ∧ (getTextF b i).1.length ≤ 1048576) (fun (b, i) _ => ⟨getTextF_ok b i, getTextF_len b i⟩) (.inl ⟨trivial, trivial, trivial⟩) (v := .tup 3 _) rfl (fun h41 => ?_))
                  try dsimp only at h41
                  refine Si.n rfl (Nat.le_of_ble_eq_true rfl) (V.mv (v := .tup 3 _) rfl ?_)
                  refine Si.n rfl (Nat.le_of_ble_eq_true rfl) (V.ext rfl (Nat.le_of_ble_eq_true rfl) (v := .p (.bs _)) rfl ?_)
                  refine Si.n rfl (Nat.le_of_ble_eq_true rfl) (V.ext rfl (Nat.le_of_ble_eq_true rfl) (v := .p (.v (.int .i64 _))) rfl ?_)
                  refine Si.n rfl (Nat.le_of_ble_eq_true rfl) (V.ext rfl (Nat.le_of_ble_eq_true rfl) (v := .p (.v (.int .i64 _))) rfl ?_)
                  refine Si.n rfl (Nat.le_of_ble_eq_true rfl) (V.ncPtr rfl ?_)
                  refine Si.e ?_
                  refine ⟨flEq_nil, fun ff => ?_⟩
                  refine Lo.s rfl (A.sto ty22 rfl rfl rfl (v := .p (.bs _)) rfl trivial rfl (by first | exact Nat.le_of_ble_eq_true rfl | (first | rfl | omega | (simp; done) | (simp; omega))) rfl rfl ?_)
                  refine ⟨_, fun ff => ff, ap0, rfl, FG.id, ?_⟩
                  show planA _ _ _ _ _ [(1, .ptr 1 0), (2, .ptr 1 0), (14, .p (.v (.int .i64 _))), (15, .p (.v (.int .i64 _)))] _ _ _
                  refine Pl.lk ?_
                  refine Si.n rfl (Nat.le_of_ble_eq_true rfl) (V.mv (v := .ptr 1 0) rfl ?_)
                  refine Si.n rfl (Nat.le_of_ble_eq_true rfl) (V.mv (v := .ptr 1 0) rfl ?_)
                  refine Si.n rfl (Nat.le_of_ble_eq_true rfl) (V.ext rfl (Nat.le_of_ble_eq_true rfl) (v := .p (.v (.int .i64 _))) rfl ?_)
                  refine Si.n rfl (Nat.le_of_ble_eq_true rfl) (V.ext rfl (Nat.le_of_ble_eq_true rfl) (v := .p (.v (.int .i64 _))) rfl ?_)
                  refine Si.n rfl (Nat.le_of_ble_eq_true rfl) (V.ncPtr rfl ?_)
                  refine Si.n rfl (Nat.le_of_ble_eq_true rfl) (V.faPtr ty63 rfl ty3 (Nat.le_of_ble_eq_true rfl) rfl rfl (by first | exact Nat.le_of_ble_eq_true rfl | first | rfl | omega | (simp; done) | (simp; omega)) ?_)
                  refine Si.e ?_
                  refine ⟨(flEq_cons rfl (flEq_cons rfl (flEq_cons rfl (flEq_cons rfl flEq_nil)))), fun ff => ?_⟩
                  refine Lo.s rfl (A.sto ty3 rfl rfl rfl (v := .p (.v (.int .i64 _))) rfl rfl rfl (by first | exact Nat.le_of_ble_eq_true rfl | (first | rfl | omega | (simp; done) | (simp; omega))) rfl rfl ?_)
                  refine ⟨_, fun ff => ff, ap0, rfl, FG.id, ?_⟩
                  show planA _ _ _ _ _ [(2, .ptr 1 0), (15, .p (.v (.int .i64 _)))] _ _ _
                  refine Pl.l0 ?_
                  refine Si.n rfl (Nat.le_of_ble_eq_true rfl) (V.mv (v := .ptr 1 0) rfl ?_)
                  refine Si.n rfl (Nat.le_of_ble_eq_true rfl) (V.ext rfl (Nat.le_of_ble_eq_true rfl) (v := .p (.v (.int .i64 _))) rfl ?_)
                  refine Si.n rfl (Nat.le_of_ble_eq_true rfl) (V.ncPtr rfl ?_)
                  refine Si.n rfl (Nat.le_of_ble_eq_true rfl) (V.faPtr ty63 rfl ty29 (Nat.le_of_ble_eq_true rfl) rfl rfl (by first | exact Nat.le_of_ble_eq_true rfl | first | rfl | omega | (simp; done) | (simp; omega)) ?_)
                  refine Si.e ?_
                  refine ⟨(flEq_cons rfl (flEq_cons rfl flEq_nil)), ?_⟩
                  refine Lo.s rfl (A.sto ty29 rfl rfl rfl (v := .p (.v (.int .i64 _))) rfl rfl rfl (by first | exact Nat.le_of_ble_eq_true rfl | (first | rfl | omega | (simp; done) | (simp; omega))) rfl rfl ?_)
                  refine Pl.e ?_
                  refine Si.e ?_
                  refine ⟨flEq_nil, ?_⟩
                  show HT _ _ _ _ _
                  refine R.tell [] [(1, ⟨63, 1, 3, true, .rows (fun j => ([.bs b, .v (.int .i64 (rd4 b p e).2.1), .v (.int .i64 (rd4 b p e).2.2)] : List PV).getD j (.v undef))⟩), (4, ⟨26, 1, 8, true, .rows (fun j => if j = 5 then .bs ((rd2 b p e).1) else if j = 6 then .bs ((rd3 b p e).1) else if j = 7 then .bs ((rd4 b p e).1) else f j)⟩)] [0, 6, 7, 8] [2, 3] (fr0 := [(0, .ptr 1 0), (6, .own 3 0 _), (7, .p (.v (.int .i64 _))), (8, .p (.v (.int .i64 _)))]) (O0 := [(2, ⟨_, _, _, _, .rows _⟩), (3, ⟨_, _, _, _, .cells [.ptr 2 0, .ptr 4 5, .ptr 4 6, .ptr 4 7]⟩)]) rfl rfl ⟨⟨⟨.refl _, rfl⟩, ⟨.refl _, rfl⟩, ⟨.refl _, trivial⟩, ⟨.refl _, trivial⟩, trivial⟩, ⟨⟨_, rfl, .inr (ob_rows (by rfl) (by first | (rw [show rd4 b p e = Go.Vh.gT b (rd3 b p e).2.1 from rdT_0 (e := (rd3 b p e).2.2) (by assumption)]; (intro j hj; match j, hj with | 0, _ => rfl | 1, _ => rfl | 2, _ => rfl)) | (rw [show rd4 b p e = ([], (rd3 b p e).2.1, (rd3 b p e).2.2) from rdT_1 (e := (rd3 b p e).2.2) (by assumption)]; (intro j hj; match j, hj with | 0, _ => rfl | 1, _ => rfl | 2, _ => rfl)))), trivial⟩, ⟨_, rfl, .inr (ob_rows (by rfl) (by first | (rw [show rd4 b p e = Go.Vh.gT b (rd3 b p e).2.1 from rdT_0 (e := (rd3 b p e).2.2) (by assumption)]; intro j hj; by_cases h5 : j = 5 <;> by_cases h6 : j = 6 <;> by_cases h7 : j = 7 <;> first | (simp [h5, h6, h7, gT]; done) | (exfalso; omega)) | (rw [show rd4 b p e = ([], (rd3 b p e).2.1, (rd3 b p e).2.2) from rdT_1 (e := (rd3 b p e).2.2) (by assumption)]; intro j hj; by_cases h5 : j = 5 <;> by_cases h6 : j = 6 <;> by_cases h7 : j = 7 <;> first | (simp [h5, h6, h7, gT]; done) | (exfalso; omega)))), trivial⟩, ⟨_, rfl, .inl rfl, trivial⟩, ⟨_, rfl, .inl rfl, ⟨rfl, rfl, rfl, rfl, trivial⟩⟩, trivial⟩⟩ ?_
                  show HT _ _ _ _ _
                  refine HT.region S_rtext_4_ok ?_
                  refine So.n (Nat.le_of_ble_eq_true rfl) (A.v rfl (V.addI rfl rfl (by omega) ?_))
                  refine So.n (Nat.le_of_ble_eq_true rfl) (A.v rfl (V.mv (v := .p (.v (.int .i64 _))) rfl ?_))
                  refine So.e ?_
                  show HT _ _ _ _ _
                  refine HT.seq ?_
                  refine HT.region S_rtext_4_ok ?_
                  refine So.n (Nat.le_of_ble_eq_true rfl) (A.v rfl (V.bin (a := (.v (.int .i64 _))) (b := (.v (.int .i64 _))) (r := .v (.bool _)) rfl rfl rfl trivial ?_))
                  refine So.e ?_
                  show HT _ _ _ _ _
                  refine HT.seq ?_
                  refine R.cond rfl rfl (fun h42 => ?_) (fun h42 => ?_)
                  · have h42 := of_decide_eq_true h42
                    exfalso; omega
                  · have h42 := of_decide_eq_false h42
                    refine HT.exit ?_
                    exact ret_ok (sg [(1, 1), (2, 2), (4, 4)]) h rfl rfl rfl ⟨trivial, trivial, trivial, trivial⟩ trivial rfl ⟨trivial, ⟨⟨_, rfl, .inr (ob_rows (by first | rfl | ((try dsimp only); (first | with_reducible rfl | (intro j hj; rfl)))) (by first | rfl | ((try dsimp only); (first | with_reducible rfl | (intro j hj; rfl))))), trivial⟩, ⟨_, rfl, .inr (ob_rows (by first | rfl | ((try dsimp only); (first | with_reducible rfl | (intro j hj; rfl)))) (by first | rfl | ((try dsimp only); (first | with_reducible rfl | (intro j hj; rfl))))), trivial⟩, ⟨_, rfl, .inr (ob_rows (by first | rfl | ((try dsimp only); (first | with_reducible rfl | (intro j hj; rfl)))) (by first | rfl | ((try dsimp only); (first | with_reducible rfl | (intro j hj; rfl))))), trivial⟩, trivial⟩⟩
                · have h40 := of_decide_eq_false h40
                  refine HT.skip ?_
                  show HT _ _ _ _ _
                  refine R.tell [] [(1, ⟨63, 1, 3, true, .rows (fun j => ([.bs b, .v (.int .i64 (rd4 b p e).2.1), .v (.int .i64 (rd4 b p e).2.2)] : List PV).getD j (.v undef))⟩), (4, ⟨26, 1, 8, true, .rows (fun j => if j = 5 then .bs ((rd2 b p e).1) else if j = 6 then .bs ((rd3 b p e).1) else if j = 7 then .bs ((rd4 b p e).1) else f j)⟩)] [0, 6, 7, 8] [2, 3] (fr0 := [(0, .ptr 1 0), (6, .own 3 0 _), (7, .p (.v (.int .i64 _))), (8, .p (.v (.int .i64 _)))]) (O0 := [(2, ⟨_, _, _, _, .rows _⟩), (3, ⟨_, _, _, _, .cells [.ptr 2 0, .ptr 4 5, .ptr 4 6, .ptr 4 7]⟩)]) rfl rfl ⟨⟨⟨.refl _, rfl⟩, ⟨.refl _, rfl⟩, ⟨.refl _, trivial⟩, ⟨.refl _, trivial⟩, trivial⟩, ⟨⟨_, rfl, .inr (ob_rows (by rfl) (by first | (rw [show rd4 b p e = Go.Vh.gT b (rd3 b p e).2.1 from rdT_0 (e := (rd3 b p e).2.2) (by assumption)]; (intro j hj; match j, hj with | 0, _ => rfl | 1, _ => rfl | 2, _ => rfl)) | (rw [show rd4 b p e = ([], (rd3 b p e).2.1, (rd3 b p e).2.2) from rdT_1 (e := (rd3 b p e).2.2) (by assumption)]; (intro j hj; match j, hj with | 0, _ => rfl | 1, _ => rfl | 2, _ => rfl)))), trivial⟩, ⟨_, rfl, .inr (ob_rows (by rfl) (by first | (rw [show rd4 b p e = Go.Vh.gT b (rd3 b p e).2.1 from rdT_0 (e := (rd3 b p e).2.2) (by assumption)]; intro j hj; by_cases h5 : j = 5 <;> by_cases h6 : j = 6 <;> by_cases h7 : j = 7 <;> first | (simp [h5, h6, h7, gT]; done) | (exfalso; omega)) | (rw [show rd4 b p e = ([], (rd3 b p e).2.1, (rd3 b p e).2.2) from rdT_1 (e := (rd3 b p e).2.2) (by assumption)]; intro j hj; by_cases h5 : j = 5 <;> by_cases h6 : j = 6 <;> by_cases h7 : j = 7 <;> first | (simp [h5, h6, h7, gT]; done) | (exfalso; omega)))), trivial⟩, ⟨_, rfl, .inl rfl, trivial⟩, ⟨_, rfl, .inl rfl, ⟨rfl, rfl, rfl, rfl, trivial⟩⟩, trivial⟩⟩ ?_
                  show HT _ _ _ _ _
                  refine HT.region S_rtext_4_ok ?_
                  refine So.n (Nat.le_of_ble_eq_true rfl) (A.v rfl (V.addI rfl rfl (by omega) ?_))
                  refine So.n (Nat.le_of_ble_eq_true rfl) (A.v rfl (V.mv (v := .p (.v (.int .i64 _))) rfl ?_))
                  refine So.e ?_
                  show HT _ _ _ _ _
                  refine HT.seq ?_
                  refine HT.region S_rtext_4_ok ?_
                  refine So.n (Nat.le_of_ble_eq_true rfl) (A.v rfl (V.bin (a := (.v (.int .i64 _))) (b := (.v (.int .i64 _))) (r := .v (.bool _)) rfl rfl rfl trivial ?_))
                  refine So.e ?_
                  show HT _ _ _ _ _
                  refine HT.seq ?_
                  refine R.cond rfl rfl (fun h43 => ?_) (fun h43 => ?_)
                  · have h43 := of_decide_eq_true h43
                    exfalso; omega
                  · have h43 := of_decide_eq_false h43
                    refine HT.exit ?_
                    exact ret_ok (sg [(1, 1), (2, 2), (4, 4)]) h rfl rfl rfl ⟨trivial, trivial, trivial, trivial⟩ trivial rfl ⟨trivial, ⟨⟨_, rfl, .inr (ob_rows (by first | rfl | ((try dsimp only); (first | with_reducible rfl | (intro j hj; rfl)))) (by first | rfl | ((try dsimp only); (first | with_reducible rfl | (intro j hj; rfl))))), trivial⟩, ⟨_, rfl, .inr (ob_rows (by first | rfl | ((try dsimp only); (first | with_reducible rfl | (intro j hj; rfl)))) (by first | rfl | ((try dsimp only); (first | with_reducible rfl | (intro j hj; rfl))))), trivial⟩, ⟨_, rfl, .inr (ob_rows (by first | rfl | ((try dsimp only); (first | with_reducible rfl | (intro j hj; rfl)))) (by first | rfl | ((try dsimp only); (first | with_reducible rfl | (intro j hj; rfl))))), trivial⟩, trivial⟩⟩
              · have h39 := of_decide_eq_false h39
                exfalso; omega
            · have h37 := of_decide_eq_false h37
              refine HT.skip ?_
              show HT _ _ _ _ _
              refine R.tell [] [(1, ⟨63, 1, 3, true, .rows (fun j => ([.bs b, .v (.int .i64 (rd3 b p e).2.1), .v (.int .i64 (rd3 b p e).2.2)] : List PV).getD j (.v undef))⟩), (4, ⟨26, 1, 8, true, .rows (fun j => if j = 5 then .bs ((rd2 b p e).1) else if j = 6 then .bs ((rd3 b p e).1) else if j = 7 then .bs ([]) else f j)⟩)] [0, 6, 7, 8] [2, 3] (fr0 := [(0, .ptr 1 0), (6, .own 3 0 _), (7, .p (.v (.int .i64 _))), (8, .p (.v (.int .i64 _)))]) (O0 := [(2, ⟨_, _, _, _, .rows _⟩), (3, ⟨_, _, _, _, .cells [.ptr 2 0, .ptr 4 5, .ptr 4 6, .ptr 4 7]⟩)]) rfl rfl ⟨⟨⟨.refl _, rfl⟩, ⟨.refl _, rfl⟩, ⟨.refl _, trivial⟩, ⟨.refl _, trivial⟩, trivial⟩, ⟨⟨_, rfl, .inr (ob_rows (by rfl) (by first | (rw [show rd3 b p e = Go.Vh.gT b (rd2 b p e).2.1 from rdT_0 (e := (rd2 b p e).2.2) (by assumption)]; (intro j hj; match j, hj with | 0, _ => rfl | 1, _ => rfl | 2, _ => rfl)) | (rw [show rd3 b p e = ([], (rd2 b p e).2.1, (rd2 b p e).2.2) from rdT_1 (e := (rd2 b p e).2.2) (by assumption)]; (intro j hj; match j, hj with | 0, _ => rfl | 1, _ => rfl | 2, _ => rfl)))), trivial⟩, ⟨_, rfl, .inr (ob_rows (by rfl) (by first | (rw [show rd3 b p e = Go.Vh.gT b (rd2 b p e).2.1 from rdT_0 (e := (rd2 b p e).2.2) (by assumption)]; intro j hj; by_cases h5 : j = 5 <;> by_cases h6 : j = 6 <;> by_cases h7 : j = 7 <;> first | (simp [h5, h6, h7, gT]; done) | (exfalso; omega)) | (rw [show rd3 b p e = ([], (rd2 b p e).2.1, (rd2 b p e).2.2) from rdT_1 (e := (rd2 b p e).2.2) (by assumption)]; intro j hj; by_cases h5 : j = 5 <;> by_cases h6 : j = 6 <;> by_cases h7 : j = 7 <;> first | (simp [h5, h6, h7, gT]; done) | (exfalso; omega)))), trivial⟩, ⟨_, rfl, .inl rfl, trivial⟩, ⟨_, rfl, .inl rfl, ⟨rfl, rfl, rfl, rfl, trivial⟩⟩, trivial⟩⟩ ?_
              show HT _ _ _ _ _
              refine HT.region S_rtext_4_ok ?_
              refine So.n (Nat.le_of_ble_eq_true rfl) (A.v rfl (V.addI rfl rfl (by omega) ?_))
              refine So.n (Nat.le_of_ble_eq_true rfl) (A.v rfl (V.mv (v := .p (.v (.int .i64 _))) rfl ?_))
              refine So.e ?_
              show HT _ _ _ _ _
              refine HT.seq ?_
              refine HT.region S_rtext_4_ok ?_
              refine So.n (Nat.le_of_ble_eq_true rfl) (A.v rfl (V.bin (a := (.v (.int .i64 _))) (b := (.v (.int .i64 _))) (r := .v (.bool _)) rfl rfl rfl trivial ?_))
              refine So.e ?_
              show HT _ _ _ _ _
              refine HT.seq ?_
              refine R.cond rfl rfl (fun h44 => ?_) (fun h44 => ?_)
              · have h44 := of_decide_eq_true h44
                refine HT.skip ?_
                show HT _ _ _ _ _
                refine HT.seq ?_
                refine HT.block ?_
                refine HT.seq ?_
                refine HT.region S_rtext_4_ok ?_
                refine So.n (Nat.le_of_ble_eq_true rfl) (A.v rfl (V.ixOwn10 ty83 ty67 rfl rfl rfl rfl rfl (by omega) rfl ?_))
                refine So.n (Nat.le_of_ble_eq_true rfl) (A.v rfl (V.ldPtr ty67 rfl rfl rfl (Nat.le_of_ble_eq_true rfl) (v := .ptr 4 7) rfl ?_))
                refine So.n (Nat.le_of_ble_eq_true rfl) (A.v rfl (V.as (v := .ptr 4 7) rfl ?_))
                refine So.e ?_
                show HT _ _ _ _ _
                refine HT.seq ?_
                refine HT.region S_rtext_4_ok ?_
                refine So.n (Nat.le_of_ble_eq_true rfl) (A.v rfl (V.mv (v := .ptr 1 0) rfl ?_))
                refine So.n (Nat.le_of_ble_eq_true rfl) (A.v rfl (V.ncPtr rfl ?_))
                refine So.n (Nat.le_of_ble_eq_true rfl) (A.v rfl (V.faPtr ty63 rfl ty29 (Nat.le_of_ble_eq_true rfl) rfl rfl (by first | exact Nat.le_of_ble_eq_true rfl | first | rfl | omega | (simp; done) | (simp; omega)) ?_))
                refine So.n (Nat.le_of_ble_eq_true rfl) (A.v rfl (V.ldPtr ty29 rfl rfl rfl (by first | exact Nat.le_of_ble_eq_true rfl | (first | rfl | omega | (simp; done) | (simp; omega))) (v := .p (.v (.int .i64 _))) rfl ?_))
                refine So.n (Nat.le_of_ble_eq_true rfl) (A.v rfl (V.bin (a := (.v (.int .i64 _))) (b := (.v (.int .i64 (0)))) (r := .v (.bool _)) rfl rfl rfl trivial ?_))
                refine So.e ?_
                show HT _ _ _ _ _
                refine R.cond rfl rfl (fun h45 => ?_) (fun h45 => ?_)
                · have h45 := of_decide_eq_true h45
                  refine HT.planS S_rtext_4_ok S_rtext_4_det mixed [] [⟨[0, 1, 2, 3, 4, 5, 6, 7, 8, 9, 10, 11, 12, 13, 14, 15, 16], 17, [1, 2, 14, 15]⟩, ⟨[1, 2, 14, 15, 18, 19], 20, [2, 15]⟩, ⟨[2, 15, 21, 22], 23, []⟩] (by kernel_rfl) ?_
                  refine Pl.lk ?_
                  refine Si.n rfl (Nat.le_of_ble_eq_true rfl) (V.mv (v := .ptr 4 7) rfl ?_)
                  refine Si.n rfl (Nat.le_of_ble_eq_true rfl) (V.mv (v := .ptr 1 0) rfl ?_)
                  refine Si.n rfl (Nat.le_of_ble_eq_true rfl) (V.mv (v := .ptr 1 0) rfl ?_)
                  refine Si.n rfl (Nat.le_of_ble_eq_true rfl) (V.mv (v := .ptr 1 0) rfl ?_)
                  refine Si.n rfl (Nat.le_of_ble_eq_true rfl) (V.ncPtr rfl ?_)
                  refine Si.n rfl (Nat.le_of_ble_eq_true rfl) (V.faPtr ty63 rfl ty22 (Nat.le_of_ble_eq_true rfl) rfl rfl (by first | exact Nat.le_of_ble_eq_true rfl | first | rfl | omega | (simp; done) | (simp; omega)) ?_)
                  refine Si.n rfl (Nat.le_of_ble_eq_true rfl) (V.ldPtr ty22 rfl rfl rfl (by first | exact Nat.le_of_ble_eq_true rfl | (first | rfl | omega | (simp; done) | (simp; omega))) (v := .p (.bs _)) rfl ?_)
                  refine Si.n rfl (Nat.le_of_ble_eq_true rfl) (V.mv (v := .ptr 1 0) rfl ?_)
                  refine Si.n rfl (Nat.le_of_ble_eq_true rfl) (V.ncPtr rfl ?_)
                  refine Si.n rfl (Nat.le_of_ble_eq_true rfl) (V.faPtr ty63 rfl ty3 (Nat.le_of_ble_eq_true rfl) rfl rfl (by first | exact Nat.le_of_ble_eq_true rfl | first | rfl | omega | (simp; done) | (simp; omega)) ?_)
                  refine Si.n rfl (Nat.le_of_ble_eq_true rfl) (V.ldPtr ty3 rfl rfl rfl (by first | exact Nat.le_of_ble_eq_true rfl | (first | rfl | omega | (simp; done) | (simp; omega))) (v := .p (.v (.int .i64 _))) rfl ?_)
                  refine Si.n rfl (Nat.le_of_ble_eq_true rfl) (V.call [.p (.bs _), .p (.v (.int .i64 _))] 5 rfl rfl rfl rfl ⟨trivial, trivial, trivial⟩ ⟨Nat.le_of_ble_eq_true rfl, Nat.le_of_ble_eq_true rfl, Nat.le_of_ble_eq_true rfl, trivial⟩ (_, _) ⟨.refl _, .refl _, trivial⟩ trivial (by trivial) (Φ := fun (b, i) => ((getTextF b i).2.2 = 0 → 0 ≤ i ∧ i < (getTextF b i).2.1 ∧ (getTextF b i).2.1 ≤ b.length) ∧ (getTextF b i).1.length ≤ 1048576) (fun (b, i) _ => ⟨getTextF_ok b i, getTextF_len b i⟩) (.inl ⟨trivial, trivial, trivial⟩) (v := .tup 3 _) rfl (fun h46 => ?_))
                  try dsimp only at h46
                  refine Si.n rfl (Nat.le_of_ble_eq_true rfl) (V.mv (v := .tup 3 _) rfl ?_)
                  refine Si.n rfl (Nat.le_of_ble_eq_true rfl) (V.ext rfl (Nat.le_of_ble_eq_true rfl) (v := .p (.bs _)) rfl ?_)
                  refine Si.n rfl (Nat.le_of_ble_eq_true rfl) (V.ext rfl (Nat.le_of_ble_eq_true rfl) (v := .p (.v (.int .i64 _))) rfl ?_)
                  refine Si.n rfl (Nat.le_of_ble_eq_true rfl) (V.ext rfl (Nat.le_of_ble_eq_true rfl) (v := .p (.v (.int .i64 _))) rfl ?_)
                  refine Si.n rfl (Nat.le_of_ble_eq_true rfl) (V.ncPtr rfl ?_)
                  refine Si.e ?_
                  refine ⟨flEq_nil, fun ff => ?_⟩
                  refine Lo.s rfl (A.sto ty22 rfl rfl rfl (v := .p (.bs _)) rfl trivial rfl (by first | exact Nat.le_of_ble_eq_true rfl | (first | rfl | omega | (simp; done) | (simp; omega))) rfl rfl ?_)
                  refine ⟨_, fun ff => ff, ap0, rfl, FG.id, ?_⟩
                  show planA _ _ _ _ _ [(1, .ptr 1 0), (2, .ptr 1 0), (14, .p (.v (.int .i64 _))), (15, .p (.v (.int .i64 _)))] _ _ _
                  refine Pl.lk ?_
                  refine Si.n rfl (Nat.le_of_ble_eq_true rfl) (V.mv (v := .ptr 1 0) rfl ?_)
                  refine Si.n rfl (Nat.le_of_ble_eq_true rfl) (V.mv (v := .ptr 1 0) rfl ?_)
                  refine Si.n rfl (Nat.le_of_ble_eq_true rfl) (V.ext rfl (Nat.le_of_ble_eq_true rfl) (v := .p (.v (.int .i64 _))) rfl ?_)
                  refine Si.n rfl (Nat.le_of_ble_eq_true rfl) (V.ext rfl (Nat.le_of_ble_eq_true rfl) (v := .p (.v (.int .i64 _))) rfl ?_)
                  refine Si.n rfl (Nat.le_of_ble_eq_true rfl) (V.ncPtr rfl ?_)
                  refine Si.n rfl (Nat.le_of_ble_eq_true rfl) (V.faPtr ty63 rfl ty3 (Nat.le_of_ble_eq_true rfl) rfl rfl (by first | exact Nat.le_of_ble_eq_true rfl | first | rfl | omega | (simp; done) | (simp; omega)) ?_)
                  refine Si.e ?_
                  refine ⟨(flEq_cons rfl (flEq_cons rfl (flEq_cons rfl (flEq_cons rfl flEq_nil)))), fun ff => ?_⟩
                  refine Lo.s rfl (A.sto ty3 rfl rfl rfl (v := .p (.v (.int .i64 _))) rfl rfl rfl (by first | exact Nat.le_of_ble_eq_true rfl | (first | rfl | omega | (simp; done) | (simp; omega))) rfl rfl ?_)
                  refine ⟨_, fun ff => ff, ap0, rfl, FG.id, ?_⟩
                  show planA _ _ _ _ _ [(2, .ptr 1 0), (15, .p (.v (.int .i64 _)))] _ _ _
                  refine Pl.l0 ?_
                  refine Si.n rfl (Nat.le_of_ble_eq_true rfl) (V.mv (v := .ptr 1 0) rfl ?_)
                  refine Si.n rfl (Nat.le_of_ble_eq_true rfl) (V.ext rfl (Nat.le_of_ble_eq_true rfl) (v := .p (.v (.int .i64 _))) rfl ?_)
                  refine Si.n rfl (Nat.le_of_ble_eq_true rfl) (V.ncPtr rfl ?_)
                  refine Si.n rfl (Nat.le_of_ble_eq_true rfl) (V.faPtr ty63 rfl ty29 (Nat.le_of_ble_eq_true rfl) rfl rfl (by first | exact Nat.le_of_ble_eq_true rfl | first | rfl | omega | (simp; done) | (simp; omega)) ?_)
                  refine Si.e ?_
                  refine ⟨(flEq_cons rfl (flEq_cons rfl flEq_nil)), ?_⟩
                  refine Lo.s rfl (A.sto ty29 rfl rfl rfl (v := .p (.v (.int .i64 _))) rfl rfl rfl (by first | exact Nat.le_of_ble_eq_true rfl | (first | rfl | omega | (simp; done) | (simp; omega))) rfl rfl ?_)
                  refine Pl.e ?_
                  refine Si.e ?_
                  refine ⟨flEq_nil, ?_⟩
                  show HT _ _ _ _ _
                  refine R.tell [] [(1, ⟨63, 1, 3, true, .rows (fun j => ([.bs b, .v (.int .i64 (rd4 b p e).2.1), .v (.int .i64 (rd4 b p e).2.2)] : List PV).getD j (.v undef))⟩), (4, ⟨26, 1, 8, true, .rows (fun j => if j = 5 then .bs ((rd2 b p e).1) else if j = 6 then .bs ((rd3 b p e).1) else if j = 7 then .bs ((rd4 b p e).1) else f j)⟩)] [0, 6, 7, 8] [2, 3] (fr0 := [(0, .ptr 1 0), (6, .own 3 0 _), (7, .p (.v (.int .i64 _))), (8, .p (.v (.int .i64 _)))]) (O0 := [(2, ⟨_, _, _, _, .rows _⟩), (3, ⟨_, _, _, _, .cells [.ptr 2 0, .ptr 4 5, .ptr 4 6, .ptr 4 7]⟩)]) rfl rfl ⟨⟨⟨.refl _, rfl⟩, ⟨.refl _, rfl⟩, ⟨.refl _, trivial⟩, ⟨.refl _, trivial⟩, trivial⟩, ⟨⟨_, rfl, .inr (ob_rows (by rfl) (by first | (rw [show rd4 b p e = Go.Vh.gT b (rd3 b p e).2.1 from rdT_0 (e := (rd3 b p e).2.2) (by assumption)]; (intro j hj; match j, hj with | 0, _ => rfl | 1, _ => rfl | 2, _ => rfl)) | (rw [show rd4 b p e = ([], (rd3 b p e).2.1, (rd3 b p e).2.2) from rdT_1 (e := (rd3 b p e).2.2) (by assumption)]; (intro j hj; match j, hj with | 0, _ => rfl | 1, _ => rfl | 2, _ => rfl)))), trivial⟩, ⟨_, rfl, .inr (ob_rows (by rfl) (by first | (rw [show rd4 b p e = Go.Vh.gT b (rd3 b p e).2.1 from rdT_0 (e := (rd3 b p e).2.2) (by assumption)]; intro j hj; by_cases h5 : j = 5 <;> by_cases h6 : j = 6 <;> by_cases h7 : j = 7 <;> first | (simp [h5, h6, h7, gT]; done) | (exfalso; omega)) | (rw [show rd4 b p e = ([], (rd3 b p e).2.1, (rd3 b p e).2.2) from rdT_1 (e := (rd3 b p e).2.2) (by assumption)]; intro j hj; by_cases h5 : j = 5 <;> by_cases h6 : j = 6 <;> by_cases h7 : j = 7 <;> first | (simp [h5, h6, h7, gT]; done) | (exfalso; omega)))), trivial⟩, ⟨_, rfl, .inl rfl, trivial⟩, ⟨_, rfl, .inl rfl, ⟨rfl, rfl, rfl, rfl, trivial⟩⟩, trivial⟩⟩ ?_
                  show HT _ _ _ _ _
                  refine HT.region S_rtext_4_ok ?_
                  refine So.n (Nat.le_of_ble_eq_true rfl) (A.v rfl (V.addI rfl rfl (by omega) ?_))
                  refine So.n (Nat.le_of_ble_eq_true rfl) (A.v rfl (V.mv (v := .p (.v (.int .i64 _))) rfl ?_))
                  refine So.e ?_
                  show HT _ _ _ _ _
                  refine HT.seq ?_
                  refine HT.region S_rtext_4_ok ?_
                  refine So.n (Nat.le_of_ble_eq_true rfl) (A.v rfl (V.bin (a := (.v (.int .i64 _))) (b := (.v (.int .i64 _))) (r := .v (.bool _)) rfl rfl rfl trivial ?_))
                  refine So.e ?_
                  show HT _ _ _ _ _
                  refine HT.seq ?_
                  refine R.cond rfl rfl (fun h47 => ?_) (fun h47 => ?_)
                  · have h47 := of_decide_eq_true h47
                    exfalso; omega
                  · have h47 := of_decide_eq_false h47
                    refine HT.exit ?_
                    exact ret_ok (sg [(1, 1), (2, 2), (4, 4)]) h rfl rfl rfl ⟨trivial, trivial, trivial, trivial⟩ trivial rfl ⟨trivial, ⟨⟨_, rfl, .inr (ob_rows (by first | rfl | ((try dsimp only); (first | with_reducible rfl | (intro j hj; rfl)))) (by first | rfl | ((try dsimp only); (first | with_reducible rfl | (intro j hj; rfl))))), trivial⟩, ⟨_, rfl, .inr (ob_rows (by first | rfl | ((try dsimp only); (first | with_reducible rfl | (intro j hj; rfl)))) (by first | rfl | ((try dsimp only); (first | with_reducible rfl | (intro j hj; rfl))))), trivial⟩, ⟨_, rfl, .inr (ob_rows (by first | rfl | ((try dsimp only); (first | with_reducible rfl | (intro j hj; rfl)))) (by first | rfl | ((try dsimp only); (first | with_reducible rfl | (intro j hj; rfl))))), trivial⟩, trivial⟩⟩
                · have h45 := of_decide_eq_false h45
                  refine HT.skip ?_
                  show HT _ _ _ _ _
                  refine R.tell [] [(1, ⟨63, 1, 3, true, .rows (fun j => ([.bs b, .v (.int .i64 (rd4 b p e).2.1), .v (.int .i64 (rd4 b p e).2.2)] : List PV).getD j (.v undef))⟩), (4, ⟨26, 1, 8, true, .rows (fun j => if j = 5 then .bs ((rd2 b p e).1) else if j = 6 then .bs ((rd3 b p e).1) else if j = 7 then .bs ((rd4 b p e).1) else f j)⟩)] [0, 6, 7, 8] [2, 3] (fr0 := [(0, .ptr 1 0), (6, .own 3 0 _), (7, .p (.v (.int .i64 _))), (8, .p (.v (.int .i64 _)))]) (O0 := [(2, ⟨_, _, _, _, .rows _⟩), (3, ⟨_, _, _, _, .cells [.ptr 2 0, .ptr 4 5, .ptr 4 6, .ptr 4 7]⟩)]) rfl rfl ⟨⟨⟨.refl _, rfl⟩, ⟨.refl _, rfl⟩, ⟨.refl _, trivial⟩, ⟨.refl _, trivial⟩, trivial⟩, ⟨⟨_, rfl, .inr (ob_rows (by rfl) (by first | (rw [show rd4 b p e = Go.Vh.gT b (rd3 b p e).2.1 from rdT_0 (e := (rd3 b p e).2.2) (by assumption)]; (intro j hj; match j, hj with | 0, _ => rfl | 1, _ => rfl | 2, _ => rfl)) | (rw [show rd4 b p e = ([], (rd3 b p e).2.1, (rd3 b p e).2.2) from rdT_1 (e := (rd3 b p e).2.2) (by assumption)]; (intro j hj; match j, hj with | 0, _ => rfl | 1, _ => rfl | 2, _ => rfl)))), trivial⟩, ⟨_, rfl, .inr (ob_rows (by rfl) (by first | (rw [show rd4 b p e = Go.Vh.gT b (rd3 b p e).2.1 from rdT_0 (e := (rd3 b p e).2.2) (by assumption)]; intro j hj; by_cases h5 : j = 5 <;> by_cases h6 : j = 6 <;> by_cases h7 : j = 7 <;> first | (simp [h5, h6, h7, gT]; done) | (exfalso; omega)) | (rw [show rd4 b p e = ([], (rd3 b p e).2.1, (rd3 b p e).2.2) from rdT_1 (e := (rd3 b p e).2.2) (by assumption)]; intro j hj; by_cases h5 : j = 5 <;> by_cases h6 : j = 6 <;> by_cases h7 : j = 7 <;> first | (simp [h5, h6, h7, gT]; done) | (exfalso; omega)))), trivial⟩, ⟨_, rfl, .inl rfl, trivial⟩, ⟨_, rfl, .inl rfl, ⟨rfl, rfl, rfl, rfl, trivial⟩⟩, trivial⟩⟩ ?_
                  show HT _ _ _ _ _
                  refine HT.region S_rtext_4_ok ?_
                  refine So.n (Nat.le_of_ble_eq_true rfl) (A.v rfl (V.addI rfl rfl (by omega) ?_))
                  refine So.n (Nat.le_of_ble_eq_true rfl) (A.v rfl (V.mv (v := .p (.v (.int .i64 _))) rfl ?_))
                  refine So.e ?_
                  show HT _ _ _ _ _
                  refine HT.seq ?_
                  refine HT.region S_rtext_4_ok ?_
                  refine So.n (Nat.le_of_ble_eq_true rfl) (A.v rfl (V.bin (a := (.v (.int .i64 _))) (b := (.v (.int .i64 _))) (r := .v (.bool _)) rfl rfl rfl trivial ?_))
                  refine So.e ?_
                  show HT _ _ _ _ _
                  refine HT.seq ?_
                  refine R.cond rfl rfl (fun h48 => ?_) (fun h48 => ?_)
                  · have h48 := of_decide_eq_true h48
                    exfalso; omega
                  · have h48 := of_decide_eq_false h48
                    refine HT.exit ?_
                    exact ret_ok (sg [(1, 1), (2, 2), (4, 4)]) h rfl rfl rfl ⟨trivial, trivial, trivial, trivial⟩ trivial rfl ⟨trivial, ⟨⟨_, rfl, .inr (ob_rows (by first | rfl | ((try dsimp only); (first | with_reducible rfl | (intro j hj; rfl)))) (by first | rfl | ((try dsimp only); (first | with_reducible rfl | (intro j hj; rfl))))), trivial⟩, ⟨_, rfl, .inr (ob_rows (by first | rfl | ((try dsimp only); (first | with_reducible rfl | (intro j hj; rfl)))) (by first | rfl | ((try dsimp only); (first | with_reducible rfl | (intro j hj; rfl))))), trivial⟩, ⟨_, rfl, .inr (ob_rows (by first | rfl | ((try dsimp only); (first | with_reducible rfl | (intro j hj; rfl)))) (by first | rfl | ((try dsimp only); (first | with_reducible rfl | (intro j hj; rfl))))), trivial⟩, trivial⟩⟩
              · have h44 := of_decide_eq_false h44
                exfalso; omega
          · have h36 := of_decide_eq_false h36
            exfalso; omega
        · have h34 := of_decide_eq_false h34
          refine HT.skip ?_
          show HT _ _ _ _ _
          refine R.tell [] [(1, ⟨63, 1, 3, true, .rows (fun j => ([.bs b, .v (.int .i64 (rd2 b p e).2.1), .v (.int .i64 (rd2 b p e).2.2)] : List PV).getD j (.v undef))⟩), (4, ⟨26, 1, 8, true, .rows (fun j => if j = 5 then .bs ((rd2 b p e).1) else if j = 6 then .bs ([]) else if j = 7 then .bs ([]) else f j)⟩)] [0, 6, 7, 8] [2, 3] (fr0 := [(0, .ptr 1 0), (6, .own 3 0 _), (7, .p (.v (.int .i64 _))), (8, .p (.v (.int .i64 _)))]) (O0 := [(2, ⟨_, _, _, _, .rows _⟩), (3, ⟨_, _, _, _, .cells [.ptr 2 0, .ptr 4 5, .ptr 4 6, .ptr 4 7]⟩)]) rfl rfl ⟨⟨⟨.refl _, rfl⟩, ⟨.refl _, rfl⟩, ⟨.refl _, trivial⟩, ⟨.refl _, trivial⟩, trivial⟩, ⟨⟨_, rfl, .inr (ob_rows (by rfl) (by first | (rw [show rd2 b p e = Go.Vh.gT b (rdT b p e).2.1 from rdT_0 (e := (rdT b p e).2.2) (by assumption)]; (intro j hj; match j, hj with | 0, _ => rfl | 1, _ => rfl | 2, _ => rfl)) | (rw [show rd2 b p e = ([], (rdT b p e).2.1, (rdT b p e).2.2) from rdT_1 (e := (rdT b p e).2.2) (by assumption)]; (intro j hj; match j, hj with | 0, _ => rfl | 1, _ => rfl | 2, _ => rfl)))), trivial⟩, ⟨_, rfl, .inr (ob_rows (by rfl) (by first | (rw [show rd2 b p e = Go.Vh.gT b (rdT b p e).2.1 from rdT_0 (e := (rdT b p e).2.2) (by assumption)]; intro j hj; by_cases h5 : j = 5 <;> by_cases h6 : j = 6 <;> by_cases h7 : j = 7 <;> first | (simp [h5, h6, h7, gT]; done) | (exfalso; omega)) | (rw [show rd2 b p e = ([], (rdT b p e).2.1, (rdT b p e).2.2) from rdT_1 (e := (rdT b p e).2.2) (by assumption)]; intro j hj; by_cases h5 : j = 5 <;> by_cases h6 : j = 6 <;> by_cases h7 : j = 7 <;> first | (simp [h5, h6, h7, gT]; done) | (exfalso; omega)))), trivial⟩, ⟨_, rfl, .inl rfl, trivial⟩, ⟨_, rfl, .inl rfl, ⟨rfl, rfl, rfl, rfl, trivial⟩⟩, trivial⟩⟩ ?_
          show HT _ _ _ _ _
          refine HT.region S_rtext_4_ok ?_
          refine So.n (Nat.le_of_ble_eq_true rfl) (A.v rfl (V.addI rfl rfl (by omega) ?_))
          refine So.n (Nat.le_of_ble_eq_true rfl) (A.v rfl (V.mv (v := .p (.v (.int .i64 _))) rfl ?_))
          refine So.e ?_
          show HT _ _ _ _ _
          refine HT.seq ?_
          refine HT.region S_rtext_4_ok ?_
          refine So.n (Nat.le_of_ble_eq_true rfl) (A.v rfl (V.bin (a := (.v (.int .i64 _))) (b := (.v (.int .i64 _))) (r := .v (.bool _)) rfl rfl rfl trivial ?_))
          refine So.e ?_
          show HT _ _ _ _ _
          refine HT.seq ?_
          refine R.cond rfl rfl (fun h49 => ?_) (fun h49 => ?_)
          · have h49 := of_decide_eq_true h49
            refine HT.skip ?_
            show HT _ _ _ _ _
            refine HT.seq ?_
            refine HT.block ?_
            refine HT.seq ?_
            refine HT.region S_rtext_4_ok ?_
            refine So.n (Nat.le_of_ble_eq_true rfl) (A.v rfl (V.ixOwn10 ty83 ty67 rfl rfl rfl rfl rfl (by omega) rfl ?_))
            refine So.n (Nat.le_of_ble_eq_true rfl) (A.v rfl (V.ldPtr ty67 rfl rfl rfl (Nat.le_of_ble_eq_true rfl) (v := .ptr 4 6) rfl ?_))
            refine So.n (Nat.le_of_ble_eq_true rfl) (A.v rfl (V.as (v := .ptr 4 6) rfl ?_))
            refine So.e ?_
            show HT _ _ _ _ _
            refine HT.seq ?_
            refine HT.region S_rtext_4_ok ?_
            refine So.n (Nat.le_of_ble_eq_true rfl) (A.v rfl (V.mv (v := .ptr 1 0) rfl ?_))
            refine So.n (Nat.le_of_ble_eq_true rfl) (A.v rfl (V.ncPtr rfl ?_))
            refine So.n (Nat.le_of_ble_eq_true rfl) (A.v rfl (V.faPtr ty63 rfl ty29 (Nat.le_of_ble_eq_true rfl) rfl rfl (by first | exact Nat.le_of_ble_eq_true rfl | first | rfl | omega | (simp; done) | (simp; omega)) ?_))
            refine So.n (Nat.le_of_ble_eq_true rfl) (A.v rfl (V.ldPtr ty29 rfl rfl rfl (by first | exact Nat.le_of_ble_eq_true rfl | (first | rfl | omega | (simp; done) | (simp; omega))) (v := .p (.v (.int .i64 _))) rfl ?_))
            refine So.n (Nat.le_of_ble_eq_true rfl) (A.v rfl (V.bin (a := (.v (.int .i64 _))) (b := (.v (.int .i64 (0)))) (r := .v (.bool _)) rfl rfl rfl trivial ?_))
            refine So.e ?_
            show HT _ _ _ _ _
            refine R.cond rfl rfl (fun h50 => ?_) (fun h50 => ?_)
            · have h50 := of_decide_eq_true h50
              refine HT.planS S_rtext_4_ok S_rtext_4_det mixed [] [⟨[0, 1, 2, 3, 4, 5, 6, 7, 8, 9, 10, 11, 12, 13, 14, 15, 16], 17, [1, 2, 14, 15]⟩, ⟨[1, 2, 14, 15, 18, 19], 20, [2, 15]⟩, ⟨[2, 15, 21, 22], 23, []⟩] (by kernel_rfl) ?_
              refine Pl.lk ?_
              refine Si.n rfl (Nat.le_of_ble_eq_true rfl) (V.mv (v := .ptr 4 6) rfl ?_)
              refine Si.n rfl (Nat.le_of_ble_eq_true rfl) (V.mv (v := .ptr 1 0) rfl ?_)
              refine Si.n rfl (Nat.le_of_ble_eq_true rfl) (V.mv (v := .ptr 1 0) rfl ?_)
              refine Si.n rfl (Nat.le_of_ble_eq_true rfl) (V.mv (v := .ptr 1 0) rfl ?_)
              refine Si.n rfl (Nat.le_of_ble_eq_true rfl) (V.ncPtr rfl ?_)
              refine Si.n rfl (Nat.le_of_ble_eq_true rfl) (V.faPtr ty63 rfl ty22 (Nat.le_of_ble_eq_true rfl) rfl rfl (by first | exact Nat.le_of_ble_eq_true rfl | first | rfl | omega | (simp; done) | (simp; omega)) ?_)
              refine Si.n rfl (Nat.le_of_ble_eq_true rfl) (V.ldPtr ty22 rfl rfl rfl (by first | exact Nat.le_of_ble_eq_true rfl | (first | rfl | omega | (simp; done) | (simp; omega))) (v := .p (.bs _)) rfl ?_)
              refine Si.n rfl (Nat.le_of_ble_eq_true rfl) (V.mv (v := .ptr 1 0) rfl ?_)
              refine Si.n rfl (Nat.le_of_ble_eq_true rfl) (V.ncPtr rfl ?_)
              refine Si.n rfl (Nat.le_of_ble_eq_true rfl) (V.faPtr ty63 rfl ty3 (Nat.le_of_ble_eq_true rfl) rfl rfl (by first | exact Nat.le_of_ble_eq_true rfl | first | rfl | omega | (simp; done) | (simp; omega)) ?_)
              refine Si.n rfl (Nat.le_of_ble_eq_true rfl) (V.ldPtr ty3 rfl rfl rfl (by first | exact Nat.le_of_ble_eq_true rfl | (first | rfl | omega | (simp; done) | (simp; omega))) (v := .p (.v (.int .i64 _))) rfl ?_)
              refine Si.n rfl (Nat.le_of_ble_eq_true rfl) (V.call [.p (.bs _), .p (.v (.int .i64 _))] 5 rfl rfl rfl rfl ⟨trivial, trivial, trivial⟩ ⟨Nat.le_of_ble_eq_true rfl, Nat.le_of_ble_eq_true rfl, Nat.le_of_ble_eq_true rfl, trivial⟩ (_, _) ⟨.refl _, .refl _, trivial⟩ trivial (by trivial) (Φ := fun (b, i) => ((getTextF b i).2.2 = 0 → 0 ≤ i ∧ i < (getTextF b i).2.1 ∧ (getTextF b i).2.1 ≤ b.length) ∧ (getTextF b i).1.length ≤ 1048576) (fun (b, i) _ => ⟨getTextF_ok b i, getTextF_len b i⟩) (.inl ⟨trivial, trivial, trivial⟩) (v := .tup 3 _) rfl (fun h51 => ?_))
              try dsimp only at h51
              refine Si.n rfl (Nat.le_of_ble_eq_true rfl) (V.mv (v := .tup 3 _) rfl ?_)
              refine Si.n rfl (Nat.le_of_ble_eq_true rfl) (V.ext rfl (Nat.le_of_ble_eq_true rfl) (v := .p (.bs _)) rfl ?_)
              refine Si.n rfl (Nat.le_of_ble_eq_true rfl) (V.ext rfl (Nat.le_of_ble_eq_true rfl) (v := .p (.v (.int .i64 _))) rfl ?_)
              refine Si.n rfl (Nat.le_of_ble_eq_true rfl) (V.ext rfl (Nat.le_of_ble_eq_true rfl) (v := .p (.v (.int .i64 _))) rfl ?_)
              refine Si.n rfl (Nat.le_of_ble_eq_true rfl) (V.ncPtr rfl ?_)
              refine Si.e ?_
              refine ⟨flEq_nil, fun ff => ?_⟩
              refine Lo.s rfl (A.sto ty22 rfl rfl rfl (v := .p (.bs _)) rfl trivial rfl (by first | exact Nat.le_of_ble_eq_true rfl | (first | rfl | omega | (simp; done) | (simp; omega))) rfl rfl ?_)
              refine ⟨_, fun ff => ff, ap0, rfl, FG.id, ?_⟩
              show planA _ _ _ _ _ [(1, .ptr 1 0), (2, .ptr 1 0), (14, .p (.v (.int .i64 _))), (15, .p (.v (.int .i64 _)))] _ _ _
              refine Pl.lk ?_
              refine Si.n rfl (Nat.le_of_ble_eq_true rfl) (V.mv (v := .ptr 1 0) rfl ?_)
              refine Si.n rfl (Nat.le_of_ble_eq_true rfl) (V.mv (v := .ptr 1 0) rfl ?_)
              refine Si.n rfl (Nat.le_of_ble_eq_true rfl) (V.ext rfl (Nat.le_of_ble_eq_true rfl) (v := .p (.v (.int .i64 _))) rfl ?_)
              refine Si.n rfl (Nat.le_of_ble_eq_true rfl) (V.ext rfl (Nat.le_of_ble_eq_true rfl) (v := .p (.v (.int .i64 _))) rfl ?_)
              refine Si.n rfl (Nat.le_of_ble_eq_true rfl) (V.ncPtr rfl ?_)
              refine Si.n rfl (Nat.le_of_ble_eq_true rfl) (V.faPtr ty63 rfl ty3 (Nat.le_of_ble_eq_true rfl) rfl rfl (by first | exact Nat.le_of_ble_eq_true rfl | first | rfl | omega | (simp; done) | (simp; omega)) ?_)
              refine Si.e ?_
              refine ⟨(flEq_cons rfl (flEq_cons rfl (flEq_cons rfl (flEq_cons rfl flEq_nil)))), fun ff => ?_⟩
              refine Lo.s rfl (A.sto ty3 rfl rfl rfl (v := .p (.v (.int .i64 _))) rfl rfl rfl (by first | exact Nat.le_of_ble_eq_true rfl | (first | rfl | omega | (simp; done) | (simp; omega))) rfl rfl ?_)
              refine ⟨_, fun ff => ff, ap0, rfl, FG.id, ?_⟩
              show planA _ _ _ _ _ [(2, .ptr 1 0), (15, .p (.v (.int .i64 _)))] _ _ _
              refine Pl.l0 ?_
              refine Si.n rfl (Nat.le_of_ble_eq_true rfl) (V.mv (v := .ptr 1 0) rfl ?_)
              refine Si.n rfl (Nat.le_of_ble_eq_true rfl) (V.ext rfl (Nat.le_of_ble_eq_true rfl) (v := .p (.v (.int .i64 _))) rfl ?_)
              refine Si.n rfl (Nat.le_of_ble_eq_true rfl) (V.ncPtr rfl ?_)
              refine Si.n rfl (Nat.le_of_ble_eq_true rfl) (V.faPtr ty63 rfl ty29 (Nat.le_of_ble_eq_true rfl) rfl rfl (by first | exact Nat.le_of_ble_eq_true rfl | first | rfl | omega | (simp; done) | (simp; omega)) ?_)
              refine Si.e ?_
              refine ⟨(flEq_cons rfl (flEq_cons rfl flEq_nil)), ?_⟩
              refine Lo.s rfl (A.sto ty29 rfl rfl rfl (v := .p (.v (.int .i64 _))) rfl rfl rfl (by first | exact Nat.le_of_ble_eq_true rfl | (first | rfl | omega | (simp; done) | (simp; omega))) rfl rfl ?_)
              refine Pl.e ?_
              refine Si.e ?_
              refine ⟨flEq_nil, ?_⟩
              show HT _ _ _ _ _
              refine R.tell [] [(1, ⟨63, 1, 3, true, .rows (fun j => ([.bs b, .v (.int .i64 (rd3 b p e).2.1), .v (.int .i64 (rd3 b p e).2.2)] : List PV).getD j (.v undef))⟩), (4, ⟨26, 1, 8, true, .rows (fun j => if j = 5 then .bs ((rd2 b p e).1) else if j = 6 then .bs ((rd3 b p e).1) else if j = 7 then .bs ([]) else f j)⟩)] [0, 6, 7, 8] [2, 3] (fr0 := [(0, .ptr 1 0), (6, .own 3 0 _), (7, .p (.v (.int .i64 _))), (8, .p (.v (.int .i64 _)))]) (O0 := [(2, ⟨_, _, _, _, .rows _⟩), (3, ⟨_, _, _, _, .cells [.ptr 2 0, .ptr 4 5, .ptr 4 6, .ptr 4 7]⟩)]) rfl rfl ⟨⟨⟨.refl _, rfl⟩, ⟨.refl _, rfl⟩, ⟨.refl _, trivial⟩, ⟨.refl _, trivial⟩, trivial⟩, ⟨⟨_, rfl, .inr (ob_rows (by rfl) (by first | (rw [show rd3 b p e = Go.Vh.gT b (rd2 b p e).2.1 from rdT_0 (e := (rd2 b p e).2.2) (by assumption)]; (intro j hj; match j, hj with | 0, _ => rfl | 1, _ => rfl | 2, _ => rfl)) | (rw [show rd3 b p e = ([], (rd2 b p e).2.1, (rd2 b p e).2.2) from rdT_1 (e := (rd2 b p e).2.2) (by assumption)]; (intro j hj; match j, hj with | 0, _ => rfl | 1, _ => rfl | 2, _ => rfl)))), trivial⟩, ⟨_, rfl, .inr (ob_rows (by rfl) (by first | (rw [show rd3 b p e = Go.Vh.gT b (rd2 b p e).2.1 from rdT_0 (e := (rd2 b p e).2.2) (by assumption)]; intro j hj; by_cases h5 : j = 5 <;> by_cases h6 : j = 6 <;> by_cases h7 : j = 7 <;> first | (simp [h5, h6, h7, gT]; done) | (exfalso; omega)) | (rw [show rd3 b p e = ([], (rd2 b p e).2.1, (rd2 b p e).2.2) from rdT_1 (e := (rd2 b p e).2.2) (by assumption)]; intro j hj; by_cases h5 : j = 5 <;> by_cases h6 : j = 6 <;> by_cases h7 : j = 7 <;> first | (simp [h5, h6, h7, gT]; done) | (exfalso; omega)))), trivial⟩, ⟨_, rfl, .inl rfl, trivial⟩, ⟨_, rfl, .inl rfl, ⟨rfl, rfl, rfl, rfl, trivial⟩⟩, trivial⟩⟩ ?_
              show HT _ _ _ _ _
              refine HT.region S_rtext_4_ok ?_
              refine So.n (Nat.le_of_ble_eq_true rfl) (A.v rfl (V.addI rfl rfl (by omega) ?_))
              refine So.n (Nat.le_of_ble_eq_true rfl) (A.v rfl (V.mv (v := .p (.v (.int .i64 _))) rfl ?_))
              refine So.e ?_
              show HT _ _ _ _ _
              refine HT.seq ?_
              refine HT.region S_rtext_4_ok ?_
              refine So.n (Nat.le_of_ble_eq_true rfl) (A.v rfl (V.bin (a := (.v (.int .i64 _))) (b := (.v (.int .i64 _))) (r := .v (.bool _)) rfl rfl rfl trivial ?_))
              refine So.e ?_
              show HT _ _ _ _ _
              refine HT.seq ?_
              refine R.cond rfl rfl (fun h52 => ?_) (fun h52 => ?_)
              · have h52 := of_decide_eq_true h52
                refine HT.skip ?_
                show HT _ _ _ _ _
                refine HT.seq ?_
                refine HT.block ?_
                refine HT.seq ?_
                refine HT.region S_rtext_4_ok ?_
                refine So.n (Nat.le_of_ble_eq_true rfl) (A.v rfl (V.ixOwn10 ty83 ty67 rfl rfl rfl rfl rfl (by omega) rfl ?_))
                refine So.n (Nat.le_of_ble_eq_true rfl) (A.v rfl (V.ldPtr ty67 rfl rfl rfl (Nat.le_of_ble_eq_true rfl) (v := .ptr 4 7) rfl ?_))
                refine So.n (Nat.le_of_ble_eq_true rfl) (A.v rfl (V.as (v := .ptr 4 7) rfl ?_))
                refine So.e ?_
                show HT _ _ _ _ _
                refine HT.seq ?_
                refine HT.region S_rtext_4_ok ?_
                refine So.n (Nat.le_of_ble_eq_true rfl) (A.v rfl (V.mv (v := .ptr 1 0) rfl ?_))
                refine So.n (Nat.le_of_ble_eq_true rfl) (A.v rfl (V.ncPtr rfl ?_))
                refine So.n (Nat.le_of_ble_eq_true rfl) (A.v rfl (V.faPtr ty63 rfl ty29 (Nat.le_of_ble_eq_true rfl) rfl rfl (by first | exact Nat.le_of_ble_eq_true rfl | first | rfl | omega | (simp; done) | (simp; omega)) ?_))
                refine So.n (Nat.le_of_ble_eq_true rfl) (A.v rfl (V.ldPtr ty29 rfl rfl rfl (by first | exact Nat.le_of_ble_eq_true rfl | (first | rfl | omega | (simp; done) | (simp; omega))) (v := .p (.v (.int .i64 _))) rfl ?_))
                refine So.n (Nat.le_of_ble_eq_true rfl) (A.v rfl (V.bin (a := (.v (.int .i64 _))) (b := (.v (.int .i64 (0)))) (r := .v (.bool _)) rfl rfl rfl trivial ?_))
                refine So.e ?_
                show HT _ _ _ _ _
                refine R.cond rfl rfl (fun h53 => ?_) (fun h53 => ?_)
                · have h53 := of_decide_eq_true h53
                  refine HT.planS S_rtext_4_ok S_rtext_4_det mixed [] [⟨[0, 1, 2, 3, 4, 5, 6, 7, 8, 9, 10, 11, 12, 13, 14, 15, 16], 17, [1, 2, 14, 15]⟩, ⟨[1, 2, 14, 15, 18, 19], 20, [2, 15]⟩, ⟨[2, 15, 21, 22], 23, []⟩] (by kernel_rfl) ?_
                  refine Pl.lk ?_
                  refine Si.n rfl (Nat.le_of_ble_eq_true rfl) (V.mv (v := .ptr 4 7) rfl ?_)
                  refine Si.n rfl (Nat.le_of_ble_eq_true rfl) (V.mv (v := .ptr 1 0) rfl ?_)
                  refine Si.n rfl (Nat.le_of_ble_eq_true rfl) (V.mv (v := .ptr 1 0) rfl ?_)
                  refine Si.n rfl (Nat.le_of_ble_eq_true rfl) (V.mv (v := .ptr 1 0) rfl ?_)
                  refine Si.n rfl (Nat.le_of_ble_eq_true rfl) (V.ncPtr rfl ?_)
                  refine Si.n rfl (Nat.le_of_ble_eq_true rfl) (V.faPtr ty63 rfl ty22 (Nat.le_of_ble_eq_true rfl) rfl rfl (by first | exact Nat.le_of_ble_eq_true rfl | first | rfl | omega | (simp; done) | (simp; omega)) ?_)
                  refine Si.n rfl (Nat.le_of_ble_eq_true rfl) (V.ldPtr ty22 rfl rfl rfl (by first | exact Nat.le_of_ble_eq_true rfl | (first | rfl | omega | (simp; done) | (simp; omega))) (v := .p (.bs _)) rfl ?_)
                  refine Si.n rfl (Nat.le_of_ble_eq_true rfl) (V.mv (v := .ptr 1 0) rfl ?_)
                  refine Si.n rfl (Nat.le_of_ble_eq_true rfl) (V.ncPtr rfl ?_)
                  refine Si.n rfl (Nat.le_of_ble_eq_true rfl) (V.faPtr ty63 rfl ty3 (Nat.le_of_ble_eq_true rfl) rfl rfl (by first | exact Nat.le_of_ble_eq_true rfl | first | rfl | omega | (simp; done) | (simp; omega)) ?_)
                  refine Si.n rfl (Nat.le_of_ble_eq_true rfl) (V.ldPtr ty3 rfl rfl rfl (by first | exact Nat.le_of_ble_eq_true rfl | (first | rfl | omega | (simp; done) | (simp; omega))) (v := .p (.v (.int .i64 _))) rfl ?_)
                  refine Si.n rfl (Nat.le_of_ble_eq_true rfl) (V.call [.p (.bs _), .p (.v (.int .i64 _))] 5 rfl rfl rfl rfl ⟨trivial, trivial, trivial⟩ ⟨Nat.le_of_ble_eq_true rfl, Nat.le_of_ble_eq_true rfl, Nat.le_of_ble_eq_true rfl, trivial⟩ (_, _) ⟨.refl _, .refl _, trivial⟩ trivial (by trivial) (Φ := fun (b, i) => ((getTextF b i).2.2 = 0 → 0 ≤ i ∧ i < (getTextF b i).2.1 ∧ (getTextF b i).2.1 ≤ b.length) ∧ (getTextF b i).1.length ≤ 1048576) (fun (b, i) _ => ⟨getTextF_ok b i, getTextF_len b i⟩) (.inl ⟨trivial, trivial, trivial⟩) (v := .tup 3 _) rfl (fun h54 => ?_))
                  try dsimp only at h54
                  refine Si.n rfl (Nat.le_of_ble_eq_true rfl) (V.mv (v := .tup 3 _) rfl ?_)
                  refine Si.n rfl (Nat.le_of_ble_eq_true rfl) (V.ext rfl (Nat.le_of_ble_eq_true rfl) (v := .p (.bs _)) rfl ?_)
                  refine Si.n rfl (Nat.le_of_ble_eq_true rfl) (V.ext rfl (Nat.le_of_ble_eq_true rfl) (v := .p (.v (.int .i64 _))) rfl ?_)
                  refine Si.n rfl (Nat.le_of_ble_eq_true rfl) (V.ext rfl (Nat.le_of_ble_eq_true rfl) (v := .p (.v (.int .i64 _))) rfl ?_)
                  refine Si.n rfl (Nat.le_of_ble_eq_true rfl) (V.ncPtr rfl ?_)
                  refine Si.e ?_
                  refine ⟨flEq_nil, fun ff => ?_⟩
                  refine Lo.s rfl (A.sto ty22 rfl rfl rfl (v := .p (.bs _)) rfl trivial rfl (by first | exact Nat.le_of_ble_eq_true rfl | (first | rfl | omega | (simp; done) | (simp; omega))) rfl rfl ?_)
                  refine ⟨_, fun ff => ff, ap0, rfl, FG.id, ?_⟩
                  show planA _ _ _ _ _ [(1, .ptr 1 0), (2, .ptr 1 0), (14, .p (.v (.int .i64 _))), (15, .p (.v (.int .i64 _)))] _ _ _
                  refine Pl.lk ?_
                  refine Si.n rfl (Nat.le_of_ble_eq_true rfl) (V.mv (v := .ptr 1 0) rfl ?_)
                  refine Si.n rfl (Nat.le_of_ble_eq_true rfl) (V.mv (v := .ptr 1 0) rfl ?_)
                  refine Si.n rfl (Nat.le_of_ble_eq_true rfl) (V.ext rfl (Nat.le_of_ble_eq_true rfl) (v := .p (.v (.int .i64 _))) rfl ?_)
                  refine Si.n rfl (Nat.le_of_ble_eq_true rfl) (V.ext rfl (Nat.le_of_ble_eq_true rfl) (v := .p (.v (.int .i64 _))) rfl ?_)
                  refine Si.n rfl (Nat.le_of_ble_eq_true rfl) (V.ncPtr rfl ?_)
                  refine Si.n rfl (Nat.le_of_ble_eq_true rfl) (V.faPtr ty63 rfl ty3 (Nat.le_of_ble_eq_true rfl) rfl rfl (by first | exact Nat.le_of_ble_eq_true rfl | first | rfl | omega | (simp; done) | (simp; omega)) ?_)
                  refine Si.e ?_
                  refine ⟨(flEq_cons rfl (flEq_cons rfl (flEq_cons rfl (flEq_cons rfl flEq_nil)))), fun ff => ?_⟩
                  refine Lo.s rfl (A.sto ty3 rfl rfl rfl (v := .p (.v (.int .i64 _))) rfl rfl rfl (by first | exact Nat.le_of_ble_eq_true rfl | (first | rfl | omega | (simp; done) | (simp; omega))) rfl rfl ?_)
                  refine ⟨_, fun ff => ff, ap0, rfl, FG.id, ?_⟩
                  show planA _ _ _ _ _ [(2, .ptr 1 0), (15, .p (.v (.int .i64 _)))] _ _ _
                  refine Pl.l0 ?_
                  refine Si.n rfl (Nat.le_of_ble_eq_true rfl) (V.mv (v := .ptr 1 0) rfl ?_)
                  refine Si.n rfl (Nat.le_of_ble_eq_true rfl) (V.ext rfl (Nat.le_of_ble_eq_true rfl) (v := .p (.v (.int .i64 _))) rfl ?_)
                  refine Si.n rfl (Nat.le_of_ble_eq_true rfl) (V.ncPtr rfl ?_)
                  refine Si.n rfl (Nat.le_of_ble_eq_true rfl) (V.faPtr ty63 rfl ty29 (Nat.le_of_ble_eq_true rfl) rfl rfl (by first | exact Nat.le_of_ble_eq_true rfl | first | rfl | omega | (simp; done) | (simp; omega)) ?_)
                  refine Si.e ?_
                  refine ⟨(flEq_cons rfl (flEq_cons rfl flEq_nil)), ?_⟩
                  refine Lo.s rfl (A.sto ty29 rfl rfl rfl (v := .p (.v (.int .i64 _))) rfl rfl rfl (by first | exact Nat.le_of_ble_eq_true rfl | (first | rfl | omega | (simp; done) | (simp; omega))) rfl rfl ?_)
                  refine Pl.e ?_
                  refine Si.e ?_
                  refine ⟨flEq_nil, ?_⟩
                  show HT _ _ _ _ _
                  refine R.tell [] [(1, ⟨63, 1, 3, true, .rows (fun j => ([.bs b, .v (.int .i64 (rd4 b p e).2.1), .v (.int .i64 (rd4 b p e).2.2)] : List PV).getD j (.v undef))⟩), (4, ⟨26, 1, 8, true, .rows (fun j => if j = 5 then .bs ((rd2 b p e).1) else if j = 6 then .bs ((rd3 b p e).1) else if j = 7 then .bs ((rd4 b p e).1) else f j)⟩)] [0, 6, 7, 8] [2, 3] (fr0 := [(0, .ptr 1 0), (6, .own 3 0 _), (7, .p (.v (.int .i64 _))), (8, .p (.v (.int .i64 _)))]) (O0 := [(2, ⟨_, _, _, _, .rows _⟩), (3, ⟨_, _, _, _, .cells [.ptr 2 0, .ptr 4 5, .ptr 4 6, .ptr 4 7]⟩)]) rfl rfl ⟨⟨⟨.refl _, rfl⟩, ⟨.refl _, rfl⟩, ⟨.refl _, trivial⟩, ⟨.refl _, trivial⟩, trivial⟩, ⟨⟨_, rfl, .inr (ob_rows (by rfl) (by first | (rw [show rd4 b p e = Go.Vh.gT b (rd3 b p e).2.1 from rdT_0 (e := (rd3 b p e).2.2) (by assumption)]; (intro j hj; match j, hj with | 0, _ => rfl | 1, _ => rfl | 2, _ => rfl)) | (rw [show rd4 b p e = ([], (rd3 b p e).2.1, (rd3 b p e).2.2) from rdT_1 (e := (rd3 b p e).2.2) (by assumption)]; (intro j hj; match j, hj with | 0, _ => rfl | 1, _ => rfl | 2, _ => rfl)))), trivial⟩, ⟨_, rfl, .inr (ob_rows (by rfl) (by first | (rw [show rd4 b p e = Go.Vh.gT b (rd3 b p e).2.1 from rdT_0 (e := (rd3 b p e).2.2) (by assumption)]; intro j hj; by_cases h5 : j = 5 <;> by_cases h6 : j = 6 <;> by_cases h7 : j = 7 <;> first | (simp [h5, h6, h7, gT]; done) | (exfalso; omega)) | (rw [show rd4 b p e = ([], (rd3 b p e).2.1, (rd3 b p e).2.2) from rdT_1 (e := (rd3 b p e).2.2) (by assumption)]; intro j hj; by_cases h5 : j = 5 <;> by_cases h6 : j = 6 <;> by_cases h7 : j = 7 <;> first | (simp [h5, h6, h7, gT]; done) | (exfalso; omega)))), trivial⟩, ⟨_, rfl, .inl rfl, trivial⟩, ⟨_, rfl, .inl rfl, ⟨rfl, rfl, rfl, rfl, trivial⟩⟩, trivial⟩⟩ ?_
                  show HT _ _ _ _ _
                  refine HT.region S_rtext_4_ok ?_
                  refine So.n (Nat.le_of_ble_eq_true rfl) (A.v rfl (V.addI rfl rfl (by omega) ?_))
                  refine So.n (Nat.le_of_ble_eq_true rfl) (A.v rfl (V.mv (v := .p (.v (.int .i64 _))) rfl ?_))
                  refine So.e ?_
                  show HT _ _ _ _ _
                  refine HT.seq ?_
                  refine HT.region S_rtext_4_ok ?_
                  refine So.n (Nat.le_of_ble_eq_true rfl) (A.v rfl (V.bin (a := (.v (.int .i64 _))) (b := (.v (.int .i64 _))) (r := .v (.bool _)) rfl rfl rfl trivial ?_))
                  refine So.e ?_
                  show HT _ _ _ _ _
                  refine HT.seq ?_
                  refine R.cond rfl rfl (fun h55 => ?_) (fun h55 => ?_)
                  · have h55 := of_decide_eq_true h55
                    exfalso; omega
                  · have h55 := of_decide_eq_false h55
                    refine HT.exit ?_
                    exact ret_ok (sg [(1, 1), (2, 2), (4, 4)]) h rfl rfl rfl ⟨trivial, trivial, trivial, trivial⟩ trivial rfl ⟨trivial, ⟨⟨_, rfl, .inr (ob_rows (by first | rfl | ((try dsimp only); (first | with_reducible rfl | (intro j hj; rfl)))) (by first | rfl | ((try dsimp only); (first | with_reducible rfl | (intro j hj; rfl))))), trivial⟩, ⟨_, rfl, .inr (ob_rows (by first | rfl | ((try dsimp only); (first | with_reducible rfl | (intro j hj; rfl)))) (by first | rfl | ((try dsimp only); (first | with_reducible rfl | (intro j hj; rfl))))), trivial⟩, ⟨_, rfl, .inr (ob_rows (by first | rfl | ((try dsimp only); (first | with_reducible rfl | (intro j hj; rfl)))) (by first | rfl | ((try dsimp only); (first | with_reducible rfl | (intro j hj; rfl))))), trivial⟩, trivial⟩⟩
                · have h53 := of_decide_eq_false h53
                  refine HT.skip ?_
                  show HT _ _ _ _ _
                  refine R.tell [] [(1, ⟨63, 1, 3, true, .rows (fun j => ([.bs b, .v (.int .i64 (rd4 b p e).2.1), .v (.int .i64 (rd4 b p e).2.2)] : List PV).getD j (.v undef))⟩), (4, ⟨26, 1, 8, true, .rows (fun j => if j = 5 then .bs ((rd2 b p e).1) else if j = 6 then .bs ((rd3 b p e).1) else if j = 7 then .bs ((rd4 b p e).1) else f j)⟩)] [0, 6, 7, 8] [2, 3] (fr0 := [(0, .ptr 1 0), (6, .own 3 0 _), (7, .p (.v (.int .i64 _))), (8, .p (.v (.int .i64 _)))]) (O0 := [(2, ⟨_, _, _, _, .rows _⟩), (3, ⟨_, _, _, _, .cells [.ptr 2 0, .ptr 4 5, .ptr 4 6, .ptr 4 7]⟩)]) rfl rfl ⟨⟨⟨.refl _, rfl⟩, ⟨.refl _, rfl⟩, ⟨.refl _, trivial⟩, ⟨.refl _, trivial⟩, trivial⟩, ⟨⟨_, rfl, .inr (ob_rows (by rfl) (by first | (rw [show rd4 b p e = Go.Vh.gT b (rd3 b p e).2.1 from rdT_0 (e := (rd3 b p e).2.2) (by assumption)]; (intro j hj; match j, hj with | 0, _ => rfl | 1, _ => rfl | 2, _ => rfl)) | (rw [show rd4 b p e = ([], (rd3 b p e).2.1, (rd3 b p e).2.2) from rdT_1 (e := (rd3 b p e).2.2) (by assumption)]; (intro j hj; match j, hj with | 0, _ => rfl | 1, _ => rfl | 2, _ => rfl)))), trivial⟩, ⟨_, rfl, .inr (ob_rows (by rfl) (by first | (rw [show rd4 b p e = Go.Vh.gT b (rd3 b p e).2.1 from rdT_0 (e := (rd3 b p e).2.2) (by assumption)]; intro j hj; by_cases h5 : j = 5 <;> by_cases h6 : j = 6 <;> by_cases h7 : j = 7 <;> first | (simp [h5, h6, h7, gT]; done) | (exfalso; omega)) | (rw [show rd4 b p e = ([], (rd3 b p e).2.1, (rd3 b p e).2.2) from rdT_1 (e := (rd3 b p e).2.2) (by assumption)]; intro j hj; by_cases h5 : j = 5 <;> by_cases h6 : j = 6 <;> by_cases h7 : j = 7 <;> first | (simp [h5, h6, h7, gT]; done) | (exfalso; omega)))), trivial⟩, ⟨_, rfl, .inl rfl, trivial⟩, ⟨_, rfl, .inl rfl, ⟨rfl, rfl, rfl, rfl, trivial⟩⟩, trivial⟩⟩ ?_
                  show HT _ _ _ _ _
                  refine HT.region S_rtext_4_ok ?_
                  refine So.n (Nat.le_of_ble_eq_true rfl) (A.v rfl (V.addI rfl rfl (by omega) ?_))
                  refine So.n (Nat.le_of_ble_eq_true rfl) (A.v rfl (V.mv (v := .p (.v (.int .i64 _))) rfl ?_))
                  refine So.e ?_
                  show HT _ _ _ _ _
                  refine HT.seq ?_
                  refine HT.region S_rtext_4_ok ?_
                  refine So.n (Nat.le_of_ble_eq_true rfl) (A.v rfl (V.bin (a := (.v (.int .i64 _))) (b := (.v (.int .i64 _))) (r := .v (.bool _)) rfl rfl rfl trivial ?_))
                  refine So.e ?_
                  show HT _ _ _ _ _
                  refine HT.seq ?_
                  refine R.cond rfl rfl (fun h56 => ?_) (fun h56 => ?_)
                  · have h56 := of_decide_eq_true h56
                    exfalso; omega
                  · have h56 := of_decide_eq_false h56
                    refine HT.exit ?_
                    exact ret_ok (sg [(1, 1), (2, 2), (4, 4)]) h rfl rfl rfl ⟨trivial, trivial, trivial, trivial⟩ trivial rfl ⟨trivial, ⟨⟨_, rfl, .inr (ob_rows (by first | rfl | ((try dsimp only); (first | with_reducible rfl | (intro j hj; rfl)))) (by first | rfl | ((try dsimp only); (first | with_reducible rfl | (intro j hj; rfl))))), trivial⟩, ⟨_, rfl, .inr (ob_rows (by first | rfl | ((try dsimp only); (first | with_reducible rfl | (intro j hj; rfl)))) (by first | rfl | ((try dsimp only); (first | with_reducible rfl | (intro j hj; rfl))))), trivial⟩, ⟨_, rfl, .inr (ob_rows (by first | rfl | ((try dsimp only); (first | with_reducible rfl | (intro j hj; rfl)))) (by first | rfl | ((try dsimp only); (first | with_reducible rfl | (intro j hj; rfl))))), trivial⟩, trivial⟩⟩
              · have h52 := of_decide_eq_false h52
                exfalso; omega
            · have h50 := of_decide_eq_false h50
              refine HT.skip ?_
              show HT _ _ _ _ _
              refine R.tell [] [(1, ⟨63, 1, 3, true, .rows (fun j => ([.bs b, .v (.int .i64 (rd3 b p e).2.1), .v (.int .i64 (rd3 b p e).2.2)] : List PV).getD j (.v undef))⟩), (4, ⟨26, 1, 8, true, .rows (fun j => if j = 5 then .bs ((rd2 b p e).1) else if j = 6 then .bs ((rd3 b p e).1) else if j = 7 then .bs ([]) else f j)⟩)] [0, 6, 7, 8] [2, 3] (fr0 := [(0, .ptr 1 0), (6, .own 3 0 _), (7, .p (.v (.int .i64 _))), (8, .p (.v (.int .i64 _)))]) (O0 := [(2, ⟨_, _, _, _, .rows _⟩), (3, ⟨_, _, _, _, .cells [.ptr 2 0, .ptr 4 5, .ptr 4 6, .ptr 4 7]⟩)]) rfl rfl ⟨⟨⟨.refl _, rfl⟩, ⟨.refl _, rfl⟩, ⟨.refl _, trivial⟩, ⟨.refl _, trivial⟩, trivial⟩, ⟨⟨_, rfl, .inr (ob_rows (by rfl) (by first | (rw [show rd3 b p e = Go.Vh.gT b (rd2 b p e).2.1 from rdT_0 (e := (rd2 b p e).2.2) (by assumption)]; (intro j hj; match j, hj with | 0, _ => rfl | 1, _ => rfl | 2, _ => rfl)) | (rw [show rd3 b p e = ([], (rd2 b p e).2.1, (rd2 b p e).2.2) from rdT_1 (e := (rd2 b p e).2.2) (by assumption)]; (intro j hj; match j, hj with | 0, _ => rfl | 1, _ => rfl | 2, _ => rfl)))), trivial⟩, ⟨_, rfl, .inr (ob_rows (by rfl) (by first | (rw [show rd3 b p e = Go.Vh.gT b (rd2 b p e).2.1 from rdT_0 (e := (rd2 b p e).2.2) (by assumption)]; intro j hj; by_cases h5 : j = 5 <;> by_cases h6 : j = 6 <;> by_cases h7 : j = 7 <;> first | (simp [h5, h6, h7, gT]; done) | (exfalso; omega)) | (rw [show rd3 b p e = ([], (rd2 b p e).2.1, (rd2 b p e).2.2) from rdT_1 (e := (rd2 b p e).2.2) (by assumption)]; intro j hj; by_cases h5 : j = 5 <;> by_cases h6 : j = 6 <;> by_cases h7 : j = 7 <;> first | (simp [h5, h6, h7, gT]; done) | (exfalso; omega)))), trivial⟩, ⟨_, rfl, .inl rfl, trivial⟩, ⟨_, rfl, .inl rfl, ⟨rfl, rfl, rfl, rfl, trivial⟩⟩, trivial⟩⟩ ?_
              show HT _ _ _ _ _
              refine HT.region S_rtext_4_ok ?_
              refine So.n (Nat.le_of_ble_eq_true rfl) (A.v rfl (V.addI rfl rfl (by omega) ?_))
              refine So.n (Nat.le_of_ble_eq_true rfl) (A.v rfl (V.mv (v := .p (.v (.int .i64 _))) rfl ?_))
              refine So.e ?_
              show HT _ _ _ _ _
              refine HT.seq ?_
              refine HT.region S_rtext_4_ok ?_
              refine So.n (Nat.le_of_ble_eq_true rfl) (A.v rfl (V.bin (a := (.v (.int .i64 _))) (b := (.v (.int .i64 _))) (r := .v (.bool _)) rfl rfl rfl trivial ?_))
              refine So.e ?_
              show HT _ _ _ _ _
              refine HT.seq ?_
              refine R.cond rfl rfl (fun h57 => ?_) (fun h57 => ?_)
              · have h57 := of_decide_eq_true h57
                refine HT.skip ?_
                show HT _ _ _ _ _
                refine HT.seq ?_
                refine HT.block ?_
                refine HT.seq ?_
                refine HT.region S_rtext_4_ok ?_
                refine So.n (Nat.le_of_ble_eq_true rfl) (A.v rfl (V.ixOwn10 ty83 ty67 rfl rfl rfl rfl rfl (by omega) rfl ?_))
                refine So.n (Nat.le_of_ble_eq_true rfl) (A.v rfl (V.ldPtr ty67 rfl rfl rfl (Nat.le_of_ble_eq_true rfl) (v := .ptr 4 7) rfl ?_))
                refine So.n (Nat.le_of_ble_eq_true rfl) (A.v rfl (V.as (v := .ptr 4 7) rfl ?_))
                refine So.e ?_
                show HT _ _ _ _ _
                refine HT.seq ?_
                refine HT.region S_rtext_4_ok ?_
                refine So.n (Nat.le_of_ble_eq_true rfl) (A.v rfl (V.mv (v := .ptr 1 0) rfl ?_))
                refine So.n (Nat.le_of_ble_eq_true rfl) (A.v rfl (V.ncPtr rfl ?_))
                refine So.n (Nat.le_of_ble_eq_true rfl) (A.v rfl (V.faPtr ty63 rfl ty29 (Nat.le_of_ble_eq_true rfl) rfl rfl (by first | exact Nat.le_of_ble_eq_true rfl | first | rfl | omega | (simp; done) | (simp; omega)) ?_))
                refine So.n (Nat.le_of_ble_eq_true rfl) (A.v rfl (V.ldPtr ty29 rfl rfl rfl (by first | exact Nat.le_of_ble_eq_true rfl | (first | rfl | omega | (simp; done) | (simp; omega))) (v := .p (.v (.int .i64 _))) rfl ?_))
                refine So.n (Nat.le_of_ble_eq_true rfl) (A.v rfl (V.bin (a := (.v (.int .i64 _))) (b := (.v (.int .i64 (0)))) (r := .v (.bool _)) rfl rfl rfl trivial ?_))
                refine So.e ?_
                show HT _ _ _ _ _
                refine R.cond rfl rfl (fun h58 => ?_) (fun h58 => ?_)
                · have h58 := of_decide_eq_true h58
                  refine HT.planS S_rtext_4_ok S_rtext_4_det mixed [] [⟨[0, 1, 2, 3, 4, 5, 6, 7, 8, 9, 10, 11, 12, 13, 14, 15, 16], 17, [1, 2, 14, 15]⟩, ⟨[1, 2, 14, 15, 18, 19], 20, [2, 15]⟩, ⟨[2, 15, 21, 22], 23, []⟩] (by kernel_rfl) ?_
                  refine Pl.lk ?_
                  refine Si.n rfl (Nat.le_of_ble_eq_true rfl) (V.mv (v := .ptr 4 7) rfl ?_)
                  refine Si.n rfl (Nat.le_of_ble_eq_true rfl) (V.mv (v := .ptr 1 0) rfl ?_)
                  refine Si.n rfl (Nat.le_of_ble_eq_true rfl) (V.mv (v := .ptr 1 0) rfl ?_)
                  refine Si.n rfl (Nat.le_of_ble_eq_true rfl) (V.mv (v := .ptr 1 0) rfl ?_)
                  refine Si.n rfl (Nat.le_of_ble_eq_true rfl) (V.ncPtr rfl ?_)
                  refine Si.n rfl (Nat.le_of_ble_eq_true rfl) (V.faPtr ty63 rfl ty22 (Nat.le_of_ble_eq_true rfl) rfl rfl (by first | exact Nat.le_of_ble_eq_true rfl | first | rfl | omega | (simp; done) | (simp; omega)) ?_)
                  refine Si.n rfl (Nat.le_of_ble_eq_true rfl) (V.ldPtr ty22 rfl rfl rfl (by first | exact Nat.le_of_ble_eq_true rfl | (first | rfl | omega | (simp; done) | (simp; omega))) (v := .p (.bs _)) rfl ?_)
                  refine Si.n rfl (Nat.le_of_ble_eq_true rfl) (V.mv (v := .ptr 1 0) rfl ?_)
                  refine Si.n rfl (Nat.le_of_ble_eq_true rfl) (V.ncPtr rfl ?_)
                  refine Si.n rfl (Nat.le_of_ble_eq_true rfl) (V.faPtr ty63 rfl ty3 (Nat.le_of_ble_eq_true rfl) rfl rfl (by first | exact Nat.le_of_ble_eq_true rfl | first | rfl | omega | (simp; done) | (simp; omega)) ?_)
                  refine Si.n rfl (Nat.le_of_ble_eq_true rfl) (V.ldPtr ty3 rfl rfl rfl (by first | exact Nat.le_of_ble_eq_true rfl | (first | rfl | omega | (simp; done) | (simp; omega))) (v := .p (.v (.int .i64 _))) rfl ?_)
                  refine Si.n rfl (Nat.le_of_ble_eq_true rfl) (V.call [.p (.bs _), .p (.v (.int .i64 _))] 5 rfl rfl rfl rfl ⟨trivial, trivial, trivial⟩ ⟨Nat.le_of_ble_eq_true rfl, Nat.le_of_ble_eq_true rfl, Nat.le_of_ble_eq_true rfl, trivial⟩ (_, _) ⟨.refl _, .refl _, trivial⟩ trivial (by trivial) (Φ := fun (b, i) => ((getTextF b i).2.2 = 0 → 0 ≤ i ∧ i < (getTextF b i).2.1 ∧ (getTextF b i).2.1 ≤ b.length) ∧ (getTextF b i).1.length ≤ 1048576) (fun (b, i) _ => ⟨getTextF_ok b i, getTextF_len b i⟩) (.inl ⟨trivial, trivial, trivial⟩) (v := .tup 3 _) rfl (fun h59 => ?_))
                  try dsimp only at h59
                  refine Si.n rfl (Nat.le_of_ble_eq_true rfl) (V.mv (v := .tup 3 _) rfl ?_)
                  refine Si.n rfl (Nat.le_of_ble_eq_true rfl) (V.ext rfl (Nat.le_of_ble_eq_true rfl) (v := .p (.bs _)) rfl ?_)
                  refine Si.n rfl (Nat.le_of_ble_eq_true rfl) (V.ext rfl (Nat.le_of_ble_eq_true rfl) (v := .p (.v (.int .i64 _))) rfl ?_)
                  refine Si.n rfl (Nat.le_of_ble_eq_true rfl) (V.ext rfl (Nat.le_of_ble_eq_true rfl) (v := .p (.v (.int .i64 _))) rfl ?_)
                  refine Si.n rfl (Nat.le_of_ble_eq_true rfl) (V.ncPtr rfl ?_)
                  refine Si.e ?_
                  refine ⟨flEq_nil, fun ff => ?_⟩
                  refine Lo.s rfl (A.sto ty22 rfl rfl rfl (v := .p (.bs _)) rfl trivial rfl (by first | exact Nat.le_of_ble_eq_true rfl | (first | rfl | omega | (simp; done) | (simp; omega))) rfl rfl ?_)
                  refine ⟨_, fun ff => ff, ap0, rfl, FG.id, ?_⟩
                  show planA _ _ _ _ _ [(1, .ptr 1 0), (2, .ptr 1 0), (14, .p (.v (.int .i64 _))), (15, .p (.v (.int .i64 _)))] _ _ _
                  refine Pl.lk ?_
                  refine Si.n rfl (Nat.le_of_ble_eq_true rfl) (V.mv (v := .ptr 1 0) rfl ?_)
                  refine Si.n rfl (Nat.le_of_ble_eq_true rfl) (V.mv (v := .ptr 1 0) rfl ?_)
                  refine Si.n rfl (Nat.le_of_ble_eq_true rfl) (V.ext rfl (Nat.le_of_ble_eq_true rfl) (v := .p (.v (.int .i64 _))) rfl ?_)
                  refine Si.n rfl (Nat.le_of_ble_eq_true rfl) (V.ext rfl (Nat.le_of_ble_eq_true rfl) (v := .p (.v (.int .i64 _))) rfl ?_)
                  refine Si.n rfl (Nat.le_of_ble_eq_true rfl) (V.ncPtr rfl ?_)
                  refine Si.n rfl (Nat.le_of_ble_eq_true rfl) (V.faPtr ty63 rfl ty3 (Nat.le_of_ble_eq_true rfl) rfl rfl (by first | exact Nat.le_of_ble_eq_true rfl | first | rfl | omega | (simp; done) | (simp; omega)) ?_)
                  refine Si.e ?_
                  refine ⟨(flEq_cons rfl (flEq_cons rfl (flEq_cons rfl (flEq_cons rfl flEq_nil)))), fun ff => ?_⟩
                  refine Lo.s rfl (A.sto ty3 rfl rfl rfl (v := .p (.v (.int .i64 _))) rfl rfl rfl (by first | exact Nat.le_of_ble_eq_true rfl | (first | rfl | omega | (simp; done) | (simp; omega))) rfl rfl ?_)
                  refine ⟨_, fun ff => ff, ap0, rfl, FG.id, ?_⟩
                  show planA _ _ _ _ _ [(2, .ptr 1 0), (15, .p (.v (.int .i64 _)))] _ _ _
                  refine Pl.l0 ?_
                  refine Si.n rfl (Nat.le_of_ble_eq_true rfl) (V.mv (v := .ptr 1 0) rfl ?_)
                  refine Si.n rfl (Nat.le_of_ble_eq_true rfl) (V.ext rfl (Nat.le_of_ble_eq_true rfl) (v := .p (.v (.int .i64 _))) rfl ?_)
                  refine Si.n rfl (Nat.le_of_ble_eq_true rfl) (V.ncPtr rfl ?_)
                  refine Si.n rfl (Nat.le_of_ble_eq_true rfl) (V.faPtr ty63 rfl ty29 (Nat.le_of_ble_eq_true rfl) rfl rfl (by first | exact Nat.le_of_ble_eq_true rfl | first | rfl | omega | (simp; done) | (simp; omega)) ?_)
                  refine Si.e ?_
                  refine ⟨(flEq_cons rfl (flEq_cons rfl flEq_nil)), ?_⟩
                  refine Lo.s rfl (A.sto ty29 rfl rfl rfl (v := .p (.v (.int .i64 _))) rfl rfl rfl (by first | exact Nat.le_of_ble_eq_true rfl | (first | rfl | omega | (simp; done) | (simp; omega))) rfl rfl ?_)
                  refine Pl.e ?_
                  refine Si.e ?_
                  refine ⟨flEq_nil, ?_⟩
                  show HT _ _ _ _ _
                  refine R.tell [] [(1, ⟨63, 1, 3, true, .rows (fun j => ([.bs b, .v (.int .i64 (rd4 b p e).2.1), .v (.int .i64 (rd4 b p e).2.2)] : List PV).getD j (.v undef))⟩), (4, ⟨26, 1, 8, true, .rows (fun j => if j = 5 then .bs ((rd2 b p e).1) else if j = 6 then .bs ((rd3 b p e).1) else if j = 7 then .bs ((rd4 b p e).1) else f j)⟩)] [0, 6, 7, 8] [2, 3] (fr0 := [(0, .ptr 1 0), (6, .own 3 0 _), (7, .p (.v (.int .i64 _))), (8, .p (.v (.int .i64 _)))]) (O0 := [(2, ⟨_, _, _, _, .rows _⟩), (3, ⟨_, _, _, _, .cells [.ptr 2 0, .ptr 4 5, .ptr 4 6, .ptr 4 7]⟩)]) rfl rfl ⟨⟨⟨.refl _, rfl⟩, ⟨.refl _, rfl⟩, ⟨.refl _, trivial⟩, ⟨.refl _, trivial⟩, trivial⟩, ⟨⟨_, rfl, .inr (ob_rows (by rfl) (by first | (rw [show rd4 b p e = Go.Vh.gT b (rd3 b p e).2.1 from rdT_0 (e := (rd3 b p e).2.2) (by assumption)]; (intro j hj; match j, hj with | 0, _ => rfl | 1, _ => rfl | 2, _ => rfl)) | (rw [show rd4 b p e = ([], (rd3 b p e).2.1, (rd3 b p e).2.2) from rdT_1 (e := (rd3 b p e).2.2) (by assumption)]; (intro j hj; match j, hj with | 0, _ => rfl | 1, _ => rfl | 2, _ => rfl)))), trivial⟩, ⟨_, rfl, .inr (ob_rows (by rfl) (by first | (rw [show rd4 b p e = Go.Vh.gT b (rd3 b p e).2.1 from rdT_0 (e := (rd3 b p e).2.2) (by assumption)]; intro j hj; by_cases h5 : j = 5 <;> by_cases h6 : j = 6 <;> by_cases h7 : j = 7 <;> first | (simp [h5, h6, h7, gT]; done) | (exfalso; omega)) | (rw [show rd4 b p e = ([], (rd3 b p e).2.1, (rd3 b p e).2.2) from rdT_1 (e := (rd3 b p e).2.2) (by assumption)]; intro j hj; by_cases h5 : j = 5 <;> by_cases h6 : j = 6 <;> by_cases h7 : j = 7 <;> first | (simp [h5, h6, h7, gT]; done) | (exfalso; omega)))), trivial⟩, ⟨_, rfl, .inl rfl, trivial⟩, ⟨_, rfl, .inl rfl, ⟨rfl, rfl, rfl, rfl, trivial⟩⟩, trivial⟩⟩ ?_
                  show HT _ _ _ _ _
                  refine HT.region S_rtext_4_ok ?_
                  refine So.n (Nat.le_of_ble_eq_true rfl) (A.v rfl (V.addI rfl rfl (by omega) ?_))
                  refine So.n (Nat.le_of_ble_eq_true rfl) (A.v rfl (V.mv (v := .p (.v (.int .i64 _))) rfl ?_))
                  refine So.e ?_
                  show HT _ _ _ _ _
                  refine HT.seq ?_
                  refine HT.region S_rtext_4_ok ?_
                  refine So.n (Nat.le_of_ble_eq_true rfl) (A.v rfl (V.bin (a := (.v (.int .i64 _))) (b := (.v (.int .i64 _))) (r := .v (.bool _)) rfl rfl rfl trivial ?_))
                  refine So.e ?_
                  show HT _ _ _ _ _
                  refine HT.seq ?_
                  refine R.cond rfl rfl (fun h60 => ?_) (fun h60 => ?_)
                  · have h60 := of_decide_eq_true h60
                    exfalso; omega
                  · have h60 := of_decide_eq_false h60
                    refine HT.exit ?_
                    exact ret_ok (sg [(1, 1), (2, 2), (4, 4)]) h rfl rfl rfl ⟨trivial, trivial, trivial, trivial⟩ trivial rfl ⟨trivial, ⟨⟨_, rfl, .inr (ob_rows (by first | rfl | ((try dsimp only); (first | with_reducible rfl | (intro j hj; rfl)))) (by first | rfl | ((try dsimp only); (first | with_reducible rfl | (intro j hj; rfl))))), trivial⟩, ⟨_, rfl, .inr (ob_rows (by first | rfl | ((try dsimp only); (first | with_reducible rfl | (intro j hj; rfl)))) (by first | rfl | ((try dsimp only); (first | with_reducible rfl | (intro j hj; rfl))))), trivial⟩, ⟨_, rfl, .inr (ob_rows (by first | rfl | ((try dsimp only); (first | with_reducible rfl | (intro j hj; rfl)))) (by first | rfl | ((try dsimp only); (first | with_reducible rfl | (intro j hj; rfl))))), trivial⟩, trivial⟩⟩
                · have h58 := of_decide_eq_false h58
                  refine HT.skip ?_
                  show HT _ _ _ _ _
                  refine R.tell [] [(1, ⟨63, 1, 3, true, .rows (fun j => ([.bs b, .v (.int .i64 (rd4 b p e).2.1), .v (.int .i64 (rd4 b p e).2.2)] : List PV).getD j (.v undef))⟩), (4, ⟨26, 1, 8, true, .rows (fun j => if j = 5 then .bs ((rd2 b p e).1) else if j = 6 then .bs ((rd3 b p e).1) else if j = 7 then .bs ((rd4 b p e).1) else f j)⟩)] [0, 6, 7, 8] [2, 3] (fr0 := [(0, .ptr 1 0), (6, .own 3 0 _), (7, .p (.v (.int .i64 _))), (8, .p (.v (.int .i64 _)))]) (O0 := [(2, ⟨_, _, _, _, .rows _⟩), (3, ⟨_, _, _, _, .cells [.ptr 2 0, .ptr 4 5, .ptr 4 6, .ptr 4 7]⟩)]) rfl rfl ⟨⟨⟨.refl _, rfl⟩, ⟨.refl _, rfl⟩, ⟨.refl _, trivial⟩, ⟨.refl _, trivial⟩, trivial⟩, ⟨⟨_, rfl, .inr (ob_rows (by rfl) (by first | (rw [show rd4 b p e = Go.Vh.gT b (rd3 b p e).2.1 from rdT_0 (e := (rd3 b p e).2.2) (by assumption)]; (intro j hj; match j, hj with | 0, _ => rfl | 1, _ => rfl | 2, _ => rfl)) | (rw [show rd4 b p e = ([], (rd3 b p e).2.1, (rd3 b p e).2.2) from rdT_1 (e := (rd3 b p e).2.2) (by assumption)]; (intro j hj; match j, hj with | 0, _ => rfl | 1, _ => rfl | 2, _ => rfl)))), trivial⟩, ⟨_, rfl, .inr (ob_rows (by rfl) (by first | (rw [show rd4 b p e = Go.Vh.gT b (rd3 b p e).2.1 from rdT_0 (e := (rd3 b p e).2.2) (by assumption)]; intro j hj; by_cases h5 : j = 5 <;> by_cases h6 : j = 6 <;> by_cases h7 : j = 7 <;> first | (simp [h5, h6, h7, gT]; done) | (exfalso; omega)) | (rw [show rd4 b p e = ([], (rd3 b p e).2.1, (rd3 b p e).2.2) from rdT_1 (e := (rd3 b p e).2.2) (by assumption)]; intro j hj; by_cases h5 : j = 5 <;> by_cases h6 : j = 6 <;> by_cases h7 : j = 7 <;> first | (simp [h5, h6, h7, gT]; done) | (exfalso; omega)))), trivial⟩, ⟨_, rfl, .inl rfl, trivial⟩, ⟨_, rfl, .inl rfl, ⟨rfl, rfl, rfl, rfl, trivial⟩⟩, trivial⟩⟩ ?_
                  show HT _ _ _ _ _
                  refine HT.region S_rtext_4_ok ?_
                  refine So.n (Nat.le_of_ble_eq_true rfl) (A.v rfl (V.addI rfl rfl (by omega) ?_))
                  refine So.n (Nat.le_of_ble_eq_true rfl) (A.v rfl (V.mv (v := .p (.v (.int .i64 _))) rfl ?_))
                  refine So.e ?_
                  show HT _ _ _ _ _
                  refine HT.seq ?_
                  refine HT.region S_rtext_4_ok ?_
                  refine So.n (Nat.le_of_ble_eq_true rfl) (A.v rfl (V.bin (a := (.v (.int .i64 _))) (b := (.v (.int .i64 _))) (r := .v (.bool _)) rfl rfl rfl trivial ?_))
                  refine So.e ?_
                  show HT _ _ _ _ _
                  refine HT.seq ?_
                  refine R.cond rfl rfl (fun h61 => ?_) (fun h61 => ?_)
                  · have h61 := of_decide_eq_true h61
                    exfalso; omega
                  · have h61 := of_decide_eq_false h61
                    refine HT.exit ?_
                    exact ret_ok (sg [(1, 1), (2, 2), (4, 4)]) h rfl rfl rfl ⟨trivial, trivial, trivial, trivial⟩ trivial rfl ⟨trivial, ⟨⟨_, rfl, .inr (ob_rows (by first | rfl | ((try dsimp only); (first | with_reducible rfl | (intro j hj; rfl)))) (by first | rfl | ((try dsimp only); (first | with_reducible rfl | (intro j hj; rfl))))), trivial⟩, ⟨_, rfl, .inr (ob_rows (by first | rfl | ((try dsimp only); (first | with_reducible rfl | (intro j hj; rfl)))) (by first | rfl | ((try dsimp only); (first | with_reducible rfl | (intro j hj; rfl))))), trivial⟩, ⟨_, rfl, .inr (ob_rows (by first | rfl | ((try dsimp only); (first | with_reducible rfl | (intro j hj; rfl)))) (by first | rfl | ((try dsimp only); (first | with_reducible rfl | (intro j hj; rfl))))), trivial⟩, trivial⟩⟩
              · have h57 := of_decide_eq_false h57
                exfalso; omega
          · have h49 := of_decide_eq_false h49
            exfalso; omega
      · have h33 := of_decide_eq_false h33
        exfalso; omega
  · have h1 := of_decide_eq_false h1
    exfalso; omega
end Go.Vh

set_option linter.unusedVariables false
set_option linter.unusedSimpArgs false
namespace Go.Vh
open Go Go.Vc Go.Proofs Go.Vw
def fofSp : Sp := ⟨[], mkE (α := (List UInt8) × Int × Int × Int × (List UInt8)) (fun (g, ep, fr, kd, bd) => [.agg 5 (fun j => ([.bs g, .v (.int .i64 ep), .v (.int .i64 fr), .v (.int .i64 kd), .bs bd] : List PV).getD j (.v undef))]) (fun (g, ep, fr, kd, bd) => []) (fun (g, ep, fr, kd, bd) => True) (fun (g, ep, fr, kd, bd) => [.agg 3 (fun j => ([.bs g, .v (.int .i64 ep), .v (.int .i64 fr)] : List PV).getD j (.v undef))]) (fun (g, ep, fr, kd, bd) => [])⟩
def S_fof : FuncId → Option Sp := fun _ => none
theorem S_fof_ok : ∀ f s, S_fof f = some s → FOK Tryd.prog gl f s := fun f s h => by cases h
set_option maxHeartbeats 1000000 in
set_option maxRecDepth 1000 in
theorem fof_ok : FOK Tryd.prog gl 27 fofSp := by
  refine FOK.ofEC (tyOf_ok Tryd.prog) (rvs := [.cell 2 57]) (nt := 10) Tryd.func27 rfl rfl rfl rfl (by decide) 1 (fun ⟨_, _, _, _, _⟩ => rfl) (by decide) (fun ⟨_, _, _, _, _⟩ => ⟨trivial, trivial⟩) ?_
  rintro ⟨g, ep, fr, kd, bd⟩ kk hlen hpre h
  replace hpre : True := hpre
  show HT (cx Tryd.prog 10 (tyOf Tryd.prog) gl []) _ [(0, .agg 5 (fun j => ([.bs g, .v (.int .i64 ep), .v (.int .i64 fr), .v (.int .i64 kd), .bs bd] : List PV).getD j (.v undef)))] [] _
  refine HT.seq ?_
  refine HT.region S_fof_ok ?_
  refine So.n (Nat.le_of_ble_eq_true rfl) (A.boxAg 1 1 (n := 5) rfl (by intro j hj; first | rfl | trivial | (match j, hj with | 0, _ => (first | trivial | rfl) | 1, _ => (first | trivial | rfl) | 2, _ => (first | trivial | rfl) | 3, _ => (first | trivial | rfl) | 4, _ => (first | trivial | rfl)) | (split <;> first | rfl | trivial | (split <;> first | rfl | trivial))) rfl trivial ?_)
  refine So.n (Nat.le_of_ble_eq_true rfl) (A.alloc 2 1 ty57 rfl trivial (f := fun j => ([.v (.slice none 0 0), .v (.int .i64 0), .v (.int .i64 0)] : List PV).getD j (.v undef)) (fun j hj => by match j, hj with | 0, _ => rfl | 1, _ => rfl | 2, _ => rfl) ?_)
  refine So.e ?_
  show HT _ _ _ _ _
  refine HT.seq ?_
  refine HT.region S_fof_ok ?_
  refine So.n (Nat.le_of_ble_eq_true rfl) (A.v rfl (V.faPtr ty24 rfl ty22 (Nat.le_of_ble_eq_true rfl) rfl rfl (by first | exact Nat.le_of_ble_eq_true rfl | first | rfl | omega | (simp; done) | (simp; omega)) ?_))
  refine So.n (Nat.le_of_ble_eq_true rfl) (A.v rfl (V.ldPtr ty22 rfl rfl rfl (by first | exact Nat.le_of_ble_eq_true rfl | (first | rfl | omega | (simp; done) | (simp; omega))) (v := .p (.bs _)) rfl ?_))
  refine So.n (Nat.le_of_ble_eq_true rfl) (A.v rfl (V.faPtr ty24 rfl ty2 (Nat.le_of_ble_eq_true rfl) rfl rfl (by first | exact Nat.le_of_ble_eq_true rfl | first | rfl | omega | (simp; done) | (simp; omega)) ?_))
  refine So.n (Nat.le_of_ble_eq_true rfl) (A.v rfl (V.ldPtr ty2 rfl rfl rfl (by first | exact Nat.le_of_ble_eq_true rfl | (first | rfl | omega | (simp; done) | (simp; omega))) (v := .p (.v (.int .i64 _))) rfl ?_))
  refine So.n (Nat.le_of_ble_eq_true rfl) (A.v rfl (V.faPtr ty24 rfl ty3 (Nat.le_of_ble_eq_true rfl) rfl rfl (by first | exact Nat.le_of_ble_eq_true rfl | first | rfl | omega | (simp; done) | (simp; omega)) ?_))
  refine So.n (Nat.le_of_ble_eq_true rfl) (A.v rfl (V.ldPtr ty3 rfl rfl rfl (by first | exact Nat.le_of_ble_eq_true rfl | (first | rfl | omega | (simp; done) | (simp; omega))) (v := .p (.v (.int .i64 _))) rfl ?_))
  refine So.n (Nat.le_of_ble_eq_true rfl) (A.bldS ty57 rfl rfl ⟨by first | exact trivial | exact rfl | (intro j hj; first | trivial | rfl | (simp [BV.one]; done)), by first | exact trivial | exact rfl | (intro j hj; first | trivial | rfl | (simp [BV.one]; done)), by first | exact trivial | exact rfl | (intro j hj; first | trivial | rfl | (simp [BV.one]; done)), trivial⟩ rfl (f := fun j => ([.bs g, .v (.int .i64 ep), .v (.int .i64 fr)] : List PV).getD j (.v undef)) (by exact allP_spec (P := fun j => _ = _) ⟨⟨⟨trivial, rfl⟩, rfl⟩, rfl⟩) ?_)
  refine So.s (A.stoAg ty57 rfl (n := 3) rfl (by decide) (by intro j hj; first | rfl | trivial | (match j, hj with | 0, _ => (first | trivial | rfl) | 1, _ => (first | trivial | rfl) | 2, _ => (first | trivial | rfl))) rfl rfl rfl ?_)
  refine So.e ?_
  show HT _ _ _ _ _
  refine HT.ret ?_
  exact retC_ok (sg []) [(2, .ptr 2 0)] [(2, ⟨57, 1, 3, true, .rows (fun j => ([.bs g, .v (.int .i64 ep), .v (.int .i64 fr)] : List PV).getD j (.v undef))⟩)] h ⟨⟨⟨.refl _, rfl⟩, trivial⟩, ⟨⟨_, rfl, .inr (ob_rows rfl (by intro j hj; first | rfl | ((try dsimp only); (first | rfl | (match j, hj with | 0, _ => rfl | 1, _ => rfl | 2, _ => rfl))))), trivial⟩, trivial⟩⟩ ⟨rvA_cell ty57 rfl rfl rfl rfl (Nat.le_refl _) (le_agg (fun j _ => by first | rfl | (dsimp only; rw [Nat.zero_add]))), trivial⟩ trivial rfl trivial ⟨trivial, trivial⟩ rfl
def fwhereSp : Sp := ⟨[], mkE (α := (List UInt8) × Int × Int × Int × (List UInt8)) (fun (g, ep, fr, gn, cl) => [.agg 5 (fun j => ([.bs g, .v (.int .i64 ep), .v (.int .i64 fr), .v (.int .i64 gn), .bs cl] : List PV).getD j (.v undef))]) (fun (g, ep, fr, gn, cl) => []) (fun (g, ep, fr, gn, cl) => True) (fun (g, ep, fr, gn, cl) => [.agg 3 (fun j => ([.bs g, .v (.int .i64 ep), .v (.int .i64 fr)] : List PV).getD j (.v undef))]) (fun (g, ep, fr, gn, cl) => [])⟩
def S_fwhere : FuncId → Option Sp := fun _ => none
theorem S_fwhere_ok : ∀ f s, S_fwhere f = some s → FOK Tryd.prog gl f s := fun f s h => by cases h
set_option maxHeartbeats 1000000 in
set_option maxRecDepth 1000 in
theorem fwhere_ok : FOK Tryd.prog gl 39 fwhereSp := by
  refine FOK.ofEC (tyOf_ok Tryd.prog) (rvs := [.cell 2 57]) (nt := 10) Tryd.func39 rfl rfl rfl rfl (by decide) 1 (fun ⟨_, _, _, _, _⟩ => rfl) (by decide) (fun ⟨_, _, _, _, _⟩ => ⟨trivial, trivial⟩) ?_
  rintro ⟨g, ep, fr, gn, cl⟩ kk hlen hpre h
  replace hpre : True := hpre
  show HT (cx Tryd.prog 10 (tyOf Tryd.prog) gl []) _ [(0, .agg 5 (fun j => ([.bs g, .v (.int .i64 ep), .v (.int .i64 fr), .v (.int .i64 gn), .bs cl] : List PV).getD j (.v undef)))] [] _
  refine HT.seq ?_
  refine HT.region S_fwhere_ok ?_
  refine So.n (Nat.le_of_ble_eq_true rfl) (A.boxAg 1 1 (n := 5) rfl (by intro j hj; first | rfl | trivial | (match j, hj with | 0, _ => (first | trivial | rfl) | 1, _ => (first | trivial | rfl) | 2, _ => (first | trivial | rfl) | 3, _ => (first | trivial | rfl) | 4, _ => (first | trivial | rfl)) | (split <;> first | rfl | trivial | (split <;> first | rfl | trivial))) rfl trivial ?_)
  refine So.n (Nat.le_of_ble_eq_true rfl) (A.alloc 2 1 ty57 rfl trivial (f := fun j => ([.v (.slice none 0 0), .v (.int .i64 0), .v (.int .i64 0)] : List PV).getD j (.v undef)) (fun j hj => by match j, hj with | 0, _ => rfl | 1, _ => rfl | 2, _ => rfl) ?_)
  refine So.e ?_
  show HT _ _ _ _ _
  refine HT.seq ?_
  refine HT.region S_fwhere_ok ?_
  refine So.n (Nat.le_of_ble_eq_true rfl) (A.v rfl (V.faPtr ty35 rfl ty22 (Nat.le_of_ble_eq_true rfl) rfl rfl (by first | exact Nat.le_of_ble_eq_true rfl | first | rfl | omega | (simp; done) | (simp; omega)) ?_))
  refine So.n (Nat.le_of_ble_eq_true rfl) (A.v rfl (V.ldPtr ty22 rfl rfl rfl (by first | exact Nat.le_of_ble_eq_true rfl | (first | rfl | omega | (simp; done) | (simp; omega))) (v := .p (.bs _)) rfl ?_))
  refine So.n (Nat.le_of_ble_eq_true rfl) (A.v rfl (V.faPtr ty35 rfl ty2 (Nat.le_of_ble_eq_true rfl) rfl rfl (by first | exact Nat.le_of_ble_eq_true rfl | first | rfl | omega | (simp; done) | (simp; omega)) ?_))
  refine So.n (Nat.le_of_ble_eq_true rfl) (A.v rfl (V.ldPtr ty2 rfl rfl rfl (by first | exact Nat.le_of_ble_eq_true rfl | (first | rfl | omega | (simp; done) | (simp; omega))) (v := .p (.v (.int .i64 _))) rfl ?_))
  refine So.n (Nat.le_of_ble_eq_true rfl) (A.v rfl (V.faPtr ty35 rfl ty3 (Nat.le_of_ble_eq_true rfl) rfl rfl (by first | exact Nat.le_of_ble_eq_true rfl | first | rfl | omega | (simp; done) | (simp; omega)) ?_))
  refine So.n (Nat.le_of_ble_eq_true rfl) (A.v rfl (V.ldPtr ty3 rfl rfl rfl (by first | exact Nat.le_of_ble_eq_true rfl | (first | rfl | omega | (simp; done) | (simp; omega))) (v := .p (.v (.int .i64 _))) rfl ?_))
  refine So.n (Nat.le_of_ble_eq_true rfl) (A.bldS ty57 rfl rfl ⟨by first | exact trivial | exact rfl | (intro j hj; first | trivial | rfl | (simp [BV.one]; done)), by first | exact trivial | exact rfl | (intro j hj; first | trivial | rfl | (simp [BV.one]; done)), by first | exact trivial | exact rfl | (intro j hj; first | trivial | rfl | (simp [BV.one]; done)), trivial⟩ rfl (f := fun j => ([.bs g, .v (.int .i64 ep), .v (.int .i64 fr)] : List PV).getD j (.v undef)) (by exact allP_spec (P := fun j => _ = _) ⟨⟨⟨trivial, rfl⟩, rfl⟩, rfl⟩) ?_)
  refine So.s (A.stoAg ty57 rfl (n := 3) rfl (by decide) (by intro j hj; first | rfl | trivial | (match j, hj with | 0, _ => (first | trivial | rfl) | 1, _ => (first | trivial | rfl) | 2, _ => (first | trivial | rfl))) rfl rfl rfl ?_)
  refine So.e ?_
  show HT _ _ _ _ _
  refine HT.ret ?_
  exact retC_ok (sg []) [(2, .ptr 2 0)] [(2, ⟨57, 1, 3, true, .rows (fun j => ([.bs g, .v (.int .i64 ep), .v (.int .i64 fr)] : List PV).getD j (.v undef))⟩)] h ⟨⟨⟨.refl _, rfl⟩, trivial⟩, ⟨⟨_, rfl, .inr (ob_rows rfl (by intro j hj; first | rfl | ((try dsimp only); (first | rfl | (match j, hj with | 0, _ => rfl | 1, _ => rfl | 2, _ => rfl))))), trivial⟩, trivial⟩⟩ ⟨rvA_cell ty57 rfl rfl rfl rfl (Nat.le_refl _) (le_agg (fun j _ => by first | rfl | (dsimp only; rw [Nat.zero_add]))), trivial⟩ trivial rfl trivial ⟨trivial, trivial⟩ rfl
def prightSp : Sp := ⟨[], mkE (α := (List UInt8) × Int × Int) (fun (g, ep, fr) => [.agg 3 (fun j => ([.bs g, .v (.int .i64 ep), .v (.int .i64 fr)] : List PV).getD j (.v undef))]) (fun (g, ep, fr) => []) (fun (g, ep, fr) => True) (fun (g, ep, fr) => [.p (.v (.bool (decide (whereP g ep fr))))]) (fun (g, ep, fr) => [])⟩
def S_pright : FuncId → Option Sp := fun _ => none
theorem S_pright_ok : ∀ f s, S_pright f = some s → FOK Tryd.prog gl f s := fun f s h => by cases h
set_option maxHeartbeats 1000000 in
set_option maxRecDepth 1000 in
theorem pright_ok : FOK Tryd.prog gl 28 prightSp := by
  refine FOK.ofE (tyOf_ok Tryd.prog) (slots := [2]) (nt := 33) Tryd.func28 rfl rfl rfl rfl (by decide) 1 (fun ⟨_, _, _⟩ => rfl) (by decide) (fun ⟨_, _, _⟩ => ⟨trivial, trivial⟩) ?_
  rintro ⟨g, ep, fr⟩ kk hlen hpre h
  replace hpre : True := hpre
  show HT (cx Tryd.prog 33 (tyOf Tryd.prog) gl []) _ [(0, .agg 3 (fun j => ([.bs g, .v (.int .i64 ep), .v (.int .i64 fr)] : List PV).getD j (.v undef)))] [] _
  refine HT.seq ?_
  refine HT.region S_pright_ok ?_
  refine So.n (Nat.le_of_ble_eq_true rfl) (A.boxAg 1 1 (n := 3) rfl (by intro j hj; first | rfl | trivial | (match j, hj with | 0, _ => (first | trivial | rfl) | 1, _ => (first | trivial | rfl) | 2, _ => (first | trivial | rfl)) | (split <;> first | rfl | trivial | (split <;> first | rfl | trivial))) rfl trivial ?_)
  refine So.n (Nat.le_of_ble_eq_true rfl) (A.v rfl (V.as (v := .p (.v (.bool false))) rfl ?_))
  refine So.e ?_
  show HT _ _ _ _ _
  refine HT.seq ?_
  refine HT.region S_pright_ok ?_
  refine So.n (Nat.le_of_ble_eq_true rfl) (A.v rfl (V.faPtr ty57 rfl ty22 (Nat.le_of_ble_eq_true rfl) rfl rfl (by first | exact Nat.le_of_ble_eq_true rfl | first | rfl | omega | (simp; done) | (simp; omega)) ?_))
  refine So.n (Nat.le_of_ble_eq_true rfl) (A.v rfl (V.ldPtr ty22 rfl rfl rfl (by first | exact Nat.le_of_ble_eq_true rfl | (first | rfl | omega | (simp; done) | (simp; omega))) (v := .p (.bs _)) rfl ?_))
  refine So.n (Nat.le_of_ble_eq_true rfl) (A.v rfl (V.len ty22 (v := .p (.bs _)) rfl rfl ?_))
  refine So.n (Nat.le_of_ble_eq_true rfl) (A.v rfl (V.bin (a := (.v (.int .i64 _))) (b := (.v (.int .i64 (0)))) (r := .v (.bool _)) rfl rfl rfl trivial ?_))
  refine So.n (Nat.le_of_ble_eq_true rfl) (A.v rfl (V.mv (v := .p (.v (.bool _))) rfl ?_))
  refine So.gd rfl rfl (Nat.le_of_ble_eq_true rfl) (Nat.le_of_ble_eq_true rfl) (fun h1 => ?_) (fun h1 => ?_)
  · have h1 := of_decide_eq_true h1
    refine A.v rfl (V.faPtr ty57 rfl ty22 (Nat.le_of_ble_eq_true rfl) rfl rfl (by first | exact Nat.le_of_ble_eq_true rfl | first | rfl | omega | (simp; done) | (simp; omega)) ?_)
    refine So.gy rfl rfl (Nat.le_of_ble_eq_true rfl) (Nat.le_of_ble_eq_true rfl) ?_
    refine A.v rfl (V.ldPtr ty22 rfl rfl rfl (by first | exact Nat.le_of_ble_eq_true rfl | (first | rfl | omega | (simp; done) | (simp; omega))) (v := .p (.bs _)) rfl ?_)
    refine So.gy rfl rfl (Nat.le_of_ble_eq_true rfl) (Nat.le_of_ble_eq_true rfl) ?_
    refine A.v rfl (V.len ty22 (v := .p (.bs _)) rfl rfl ?_)
    refine So.gy rfl rfl (Nat.le_of_ble_eq_true rfl) (Nat.le_of_ble_eq_true rfl) ?_
    refine A.v rfl (V.bin (a := (.v (.int .i64 _))) (b := (.v (.int .i64 (32)))) (r := .v (.bool _)) rfl rfl rfl trivial ?_)
    refine So.n (Nat.le_of_ble_eq_true rfl) (A.v rfl (V.pkTrue (u := .p (.v (.bool _))) rfl rfl ?_))
    refine So.n (Nat.le_of_ble_eq_true rfl) (A.v rfl (V.mv (v := .p (.v (.bool _))) rfl ?_))
    refine So.gd rfl rfl (Nat.le_of_ble_eq_true rfl) (Nat.le_of_ble_eq_true rfl) (fun h2 => ?_) (fun h2 => ?_)
    · have h2 := of_decide_eq_true h2
      refine A.v rfl (V.faPtr ty57 rfl ty2 (Nat.le_of_ble_eq_true rfl) rfl rfl (by first | exact Nat.le_of_ble_eq_true rfl | first | rfl | omega | (simp; done) | (simp; omega)) ?_)
      refine So.gy rfl rfl (Nat.le_of_ble_eq_true rfl) (Nat.le_of_ble_eq_true rfl) ?_
      refine A.v rfl (V.ldPtr ty2 rfl rfl rfl (by first | exact Nat.le_of_ble_eq_true rfl | (first | rfl | omega | (simp; done) | (simp; omega))) (v := .p (.v (.int .i64 _))) rfl ?_)
      refine So.gy rfl rfl (Nat.le_of_ble_eq_true rfl) (Nat.le_of_ble_eq_true rfl) ?_
      refine A.v rfl (V.bin (a := (.v (.int .i64 _))) (b := (.v (.int .i64 (0)))) (r := .v (.bool _)) rfl rfl rfl trivial ?_)
      refine So.n (Nat.le_of_ble_eq_true rfl) (A.v rfl (V.pkTrue (u := .p (.v (.bool _))) rfl rfl ?_))
      refine So.n (Nat.le_of_ble_eq_true rfl) (A.v rfl (V.mv (v := .p (.v (.bool _))) rfl ?_))
      refine So.gd rfl rfl (Nat.le_of_ble_eq_true rfl) (Nat.le_of_ble_eq_true rfl) (fun h3 => ?_) (fun h3 => ?_)
      · have h3 := of_decide_eq_true h3
        refine A.v rfl (V.faPtr ty57 rfl ty2 (Nat.le_of_ble_eq_true rfl) rfl rfl (by first | exact Nat.le_of_ble_eq_true rfl | first | rfl | omega | (simp; done) | (simp; omega)) ?_)
        refine So.gy rfl rfl (Nat.le_of_ble_eq_true rfl) (Nat.le_of_ble_eq_true rfl) ?_
        refine A.v rfl (V.ldPtr ty2 rfl rfl rfl (by first | exact Nat.le_of_ble_eq_true rfl | (first | rfl | omega | (simp; done) | (simp; omega))) (v := .p (.v (.int .i64 _))) rfl ?_)
        refine So.gy rfl rfl (Nat.le_of_ble_eq_true rfl) (Nat.le_of_ble_eq_true rfl) ?_
        refine A.v rfl (V.bin (a := (.v (.int .i64 _))) (b := (.v (.int .i64 (1099511627776)))) (r := .v (.bool _)) rfl rfl rfl trivial ?_)
        refine So.n (Nat.le_of_ble_eq_true rfl) (A.v rfl (V.pkTrue (u := .p (.v (.bool _))) rfl rfl ?_))
        refine So.n (Nat.le_of_ble_eq_true rfl) (A.v rfl (V.mv (v := .p (.v (.bool _))) rfl ?_))
        refine So.gd rfl rfl (Nat.le_of_ble_eq_true rfl) (Nat.le_of_ble_eq_true rfl) (fun h4 => ?_) (fun h4 => ?_)
        · have h4 := of_decide_eq_true h4
          refine A.v rfl (V.faPtr ty57 rfl ty3 (Nat.le_of_ble_eq_true rfl) rfl rfl (by first | exact Nat.le_of_ble_eq_true rfl | first | rfl | omega | (simp; done) | (simp; omega)) ?_)
          refine So.gy rfl rfl (Nat.le_of_ble_eq_true rfl) (Nat.le_of_ble_eq_true rfl) ?_
          refine A.v rfl (V.ldPtr ty3 rfl rfl rfl (by first | exact Nat.le_of_ble_eq_true rfl | (first | rfl | omega | (simp; done) | (simp; omega))) (v := .p (.v (.int .i64 _))) rfl ?_)
          refine So.gy rfl rfl (Nat.le_of_ble_eq_true rfl) (Nat.le_of_ble_eq_true rfl) ?_
          refine A.v rfl (V.bin (a := (.v (.int .i64 _))) (b := (.v (.int .i64 (0)))) (r := .v (.bool _)) rfl rfl rfl trivial ?_)
          refine So.n (Nat.le_of_ble_eq_true rfl) (A.v rfl (V.pkTrue (u := .p (.v (.bool _))) rfl rfl ?_))
          refine So.n (Nat.le_of_ble_eq_true rfl) (A.v rfl (V.mv (v := .p (.v (.bool _))) rfl ?_))
          refine So.gd rfl rfl (Nat.le_of_ble_eq_true rfl) (Nat.le_of_ble_eq_true rfl) (fun h5 => ?_) (fun h5 => ?_)
          · have h5 := of_decide_eq_true h5
            refine A.v rfl (V.faPtr ty57 rfl ty3 (Nat.le_of_ble_eq_true rfl) rfl rfl (by first | exact Nat.le_of_ble_eq_true rfl | first | rfl | omega | (simp; done) | (simp; omega)) ?_)
            refine So.gy rfl rfl (Nat.le_of_ble_eq_true rfl) (Nat.le_of_ble_eq_true rfl) ?_
            refine A.v rfl (V.ldPtr ty3 rfl rfl rfl (by first | exact Nat.le_of_ble_eq_true rfl | (first | rfl | omega | (simp; done) | (simp; omega))) (v := .p (.v (.int .i64 _))) rfl ?_)
            refine So.gy rfl rfl (Nat.le_of_ble_eq_true rfl) (Nat.le_of_ble_eq_true rfl) ?_
            refine A.v rfl (V.bin (a := (.v (.int .i64 _))) (b := (.v (.int .i64 (65536)))) (r := .v (.bool _)) rfl rfl rfl trivial ?_)
            refine So.n (Nat.le_of_ble_eq_true rfl) (A.v rfl (V.pkTrue (u := .p (.v (.bool _))) rfl rfl ?_))
            refine So.n (Nat.le_of_ble_eq_true rfl) (A.v rfl (V.as (v := .p (.v (.bool _))) rfl ?_))
            refine So.e ?_
            show HT _ _ _ _ _
            refine HT.ret ?_
            exact ret_ok (sg []) h rfl rfl rfl trivial ⟨trivial, trivial⟩ rfl ⟨⟨⟨le_bool (by first | with_reducible rfl | exact (decide_eq_false (by unfold whereP; omega)).symm | exact decide_eq_decide.2 (by unfold whereP; omega)), trivial⟩, trivial⟩, trivial⟩
          · have h5 := of_decide_eq_false h5
            refine So.gn (b := false) rfl rfl rfl (Nat.le_of_ble_eq_true rfl) (Nat.le_of_ble_eq_true rfl) ?_
            refine So.gn (b := false) rfl rfl rfl (Nat.le_of_ble_eq_true rfl) (Nat.le_of_ble_eq_true rfl) ?_
            refine So.n (Nat.le_of_ble_eq_true rfl) (A.v rfl (V.pkFalse (u := .p (.v (.bool false))) rfl rfl ?_))
            refine So.n (Nat.le_of_ble_eq_true rfl) (A.v rfl (V.as (v := .p (.v (.bool false))) rfl ?_))
            refine So.e ?_
            show HT _ _ _ _ _
            refine HT.ret ?_
            exact ret_ok (sg []) h rfl rfl rfl trivial ⟨trivial, trivial⟩ rfl ⟨⟨⟨le_bool (by first | with_reducible rfl | exact (decide_eq_false (by unfold whereP; omega)).symm | exact decide_eq_decide.2 (by unfold whereP; omega)), trivial⟩, trivial⟩, trivial⟩
        · have h4 := of_decide_eq_false h4
          refine So.gn (b := false) rfl rfl rfl (Nat.le_of_ble_eq_true rfl) (Nat.le_of_ble_eq_true rfl) ?_
          refine So.gn (b := false) rfl rfl rfl (Nat.le_of_ble_eq_true rfl) (Nat.le_of_ble_eq_true rfl) ?_
          refine So.n (Nat.le_of_ble_eq_true rfl) (A.v rfl (V.pkFalse (u := .p (.v (.bool false))) rfl rfl ?_))
          refine So.n (Nat.le_of_ble_eq_true rfl) (A.v rfl (V.mv (v := .p (.v (.bool false))) rfl ?_))
          refine So.gn (b := false) rfl rfl rfl (Nat.le_of_ble_eq_true rfl) (Nat.le_of_ble_eq_true rfl) ?_
          refine So.gn (b := false) rfl rfl rfl (Nat.le_of_ble_eq_true rfl) (Nat.le_of_ble_eq_true rfl) ?_
          refine So.gn (b := false) rfl rfl rfl (Nat.le_of_ble_eq_true rfl) (Nat.le_of_ble_eq_true rfl) ?_
          refine So.n (Nat.le_of_ble_eq_true rfl) (A.v rfl (V.pkFalse (u := .p (.v (.bool false))) rfl rfl ?_))
          refine So.n (Nat.le_of_ble_eq_true rfl) (A.v rfl (V.as (v := .p (.v (.bool false))) rfl ?_))
          refine So.e ?_
          show HT _ _ _ _ _
          refine HT.ret ?_
          exact ret_ok (sg []) h rfl rfl rfl trivial ⟨trivial, trivial⟩ rfl ⟨⟨⟨le_bool (by first | with_reducible rfl | exact (decide_eq_false (by unfold whereP; omega)).symm | exact decide_eq_decide.2 (by unfold whereP; omega)), trivial⟩, trivial⟩, trivial⟩
      · have h3 := of_decide_eq_false h3
        refine So.gn (b := false) rfl rfl rfl (Nat.le_of_ble_eq_true rfl) (Nat.le_of_ble_eq_true rfl) ?_
        refine So.gn (b := false) rfl rfl rfl (Nat.le_of_ble_eq_true rfl) (Nat.le_of_ble_eq_true rfl) ?_
        refine So.n (Nat.le_of_ble_eq_true rfl) (A.v rfl (V.pkFalse (u := .p (.v (.bool false))) rfl rfl ?_))
        refine So.n (Nat.le_of_ble_eq_true rfl) (A.v rfl (V.mv (v := .p (.v (.bool false))) rfl ?_))
        refine So.gn (b := false) rfl rfl rfl (Nat.le_of_ble_eq_true rfl) (Nat.le_of_ble_eq_true rfl) ?_
        refine So.gn (b := false) rfl rfl rfl (Nat.le_of_ble_eq_true rfl) (Nat.le_of_ble_eq_true rfl) ?_
        refine So.gn (b := false) rfl rfl rfl (Nat.le_of_ble_eq_true rfl) (Nat.le_of_ble_eq_true rfl) ?_
        refine So.n (Nat.le_of_ble_eq_true rfl) (A.v rfl (V.pkFalse (u := .p (.v (.bool false))) rfl rfl ?_))
        refine So.n (Nat.le_of_ble_eq_true rfl) (A.v rfl (V.mv (v := .p (.v (.bool false))) rfl ?_))
        refine So.gn (b := false) rfl rfl rfl (Nat.le_of_ble_eq_true rfl) (Nat.le_of_ble_eq_true rfl) ?_
        refine So.gn (b := false) rfl rfl rfl (Nat.le_of_ble_eq_true rfl) (Nat.le_of_ble_eq_true rfl) ?_
        refine So.gn (b := false) rfl rfl rfl (Nat.le_of_ble_eq_true rfl) (Nat.le_of_ble_eq_true rfl) ?_
        refine So.n (Nat.le_of_ble_eq_true rfl) (A.v rfl (V.pkFalse (u := .p (.v (.bool false))) rfl rfl ?_))
        refine So.n (Nat.le_of_ble_eq_true rfl) (A.v rfl (V.as (v := .p (.v (.bool false))) rfl ?_))
        refine So.e ?_
        show HT _ _ _ _ _
        refine HT.ret ?_
        exact ret_ok (sg []) h rfl rfl rfl trivial ⟨trivial, trivial⟩ rfl ⟨⟨⟨le_bool (by first | with_reducible rfl | exact (decide_eq_false (by unfold whereP; omega)).symm | exact decide_eq_decide.2 (by unfold whereP; omega)), trivial⟩, trivial⟩, trivial⟩
    · have h2 := of_decide_eq_false h2
      refine So.gn (b := false) rfl rfl rfl (Nat.le_of_ble_eq_true rfl) (Nat.le_of_ble_eq_true rfl) ?_
      refine So.gn (b := false) rfl rfl rfl (Nat.le_of_ble_eq_true rfl) (Nat.le_of_ble_eq_true rfl) ?_
      refine So.n (Nat.le_of_ble_eq_true rfl) (A.v rfl (V.pkFalse (u := .p (.v (.bool false))) rfl rfl ?_))
      refine So.n (Nat.le_of_ble_eq_true rfl) (A.v rfl (V.mv (v := .p (.v (.bool false))) rfl ?_))
      refine So.gn (b := false) rfl rfl rfl (Nat.le_of_ble_eq_true rfl) (Nat.le_of_ble_eq_true rfl) ?_
      refine So.gn (b := false) rfl rfl rfl (Nat.le_of_ble_eq_true rfl) (Nat.le_of_ble_eq_true rfl) ?_
      refine So.gn (b := false) rfl rfl rfl (Nat.le_of_ble_eq_true rfl) (Nat.le_of_ble_eq_true rfl) ?_
      refine So.n (Nat.le_of_ble_eq_true rfl) (A.v rfl (V.pkFalse (u := .p (.v (.bool false))) rfl rfl ?_))
      refine So.n (Nat.le_of_ble_eq_true rfl) (A.v rfl (V.mv (v := .p (.v (.bool false))) rfl ?_))
      refine So.gn (b := false) rfl rfl rfl (Nat.le_of_ble_eq_true rfl) (Nat.le_of_ble_eq_true rfl) ?_
      refine So.gn (b := false) rfl rfl rfl (Nat.le_of_ble_eq_true rfl) (Nat.le_of_ble_eq_true rfl) ?_
      refine So.gn (b := false) rfl rfl rfl (Nat.le_of_ble_eq_true rfl) (Nat.le_of_ble_eq_true rfl) ?_
      refine So.n (Nat.le_of_ble_eq_true rfl) (A.v rfl (V.pkFalse (u := .p (.v (.bool false))) rfl rfl ?_))
      refine So.n (Nat.le_of_ble_eq_true rfl) (A.v rfl (V.mv (v := .p (.v (.bool false))) rfl ?_))
      refine So.gn (b := false) rfl rfl rfl (Nat.le_of_ble_eq_true rfl) (Nat.le_of_ble_eq_true rfl) ?_
      refine So.gn (b := false) rfl rfl rfl (Nat.le_of_ble_eq_true rfl) (Nat.le_of_ble_eq_true rfl) ?_
      refine So.gn (b := false) rfl rfl rfl (Nat.le_of_ble_eq_true rfl) (Nat.le_of_ble_eq_true rfl) ?_
      refine So.n (Nat.le_of_ble_eq_true rfl) (A.v rfl (V.pkFalse (u := .p (.v (.bool false))) rfl rfl ?_))
      refine So.n (Nat.le_of_ble_eq_true rfl) (A.v rfl (V.as (v := .p (.v (.bool false))) rfl ?_))
      refine So.e ?_
      show HT _ _ _ _ _
      refine HT.ret ?_
      exact ret_ok (sg []) h rfl rfl rfl trivial ⟨trivial, trivial⟩ rfl ⟨⟨⟨le_bool (by first | with_reducible rfl | exact (decide_eq_false (by unfold whereP; omega)).symm | exact decide_eq_decide.2 (by unfold whereP; omega)), trivial⟩, trivial⟩, trivial⟩
  · have h1 := of_decide_eq_false h1
    refine So.gn (b := false) rfl rfl rfl (Nat.le_of_ble_eq_true rfl) (Nat.le_of_ble_eq_true rfl) ?_
    refine So.gn (b := false) rfl rfl rfl (Nat.le_of_ble_eq_true rfl) (Nat.le_of_ble_eq_true rfl) ?_
    refine So.gn (b := false) rfl rfl rfl (Nat.le_of_ble_eq_true rfl) (Nat.le_of_ble_eq_true rfl) ?_
    refine So.n (Nat.le_of_ble_eq_true rfl) (A.v rfl (V.pkFalse (u := .p (.v (.bool false))) rfl rfl ?_))
    refine So.n (Nat.le_of_ble_eq_true rfl) (A.v rfl (V.mv (v := .p (.v (.bool false))) rfl ?_))
    refine So.gn (b := false) rfl rfl rfl (Nat.le_of_ble_eq_true rfl) (Nat.le_of_ble_eq_true rfl) ?_
    refine So.gn (b := false) rfl rfl rfl (Nat.le_of_ble_eq_true rfl) (Nat.le_of_ble_eq_true rfl) ?_
    refine So.gn (b := false) rfl rfl rfl (Nat.le_of_ble_eq_true rfl) (Nat.le_of_ble_eq_true rfl) ?_
    refine So.n (Nat.le_of_ble_eq_true rfl) (A.v rfl (V.pkFalse (u := .p (.v (.bool false))) rfl rfl ?_))
    refine So.n (Nat.le_of_ble_eq_true rfl) (A.v rfl (V.mv (v := .p (.v (.bool false))) rfl ?_))
    refine So.gn (b := false) rfl rfl rfl (Nat.le_of_ble_eq_true rfl) (Nat.le_of_ble_eq_true rfl) ?_
    refine So.gn (b := false) rfl rfl rfl (Nat.le_of_ble_eq_true rfl) (Nat.le_of_ble_eq_true rfl) ?_
    refine So.gn (b := false) rfl rfl rfl (Nat.le_of_ble_eq_true rfl) (Nat.le_of_ble_eq_true rfl) ?_
    refine So.n (Nat.le_of_ble_eq_true rfl) (A.v rfl (V.pkFalse (u := .p (.v (.bool false))) rfl rfl ?_))
    refine So.n (Nat.le_of_ble_eq_true rfl) (A.v rfl (V.mv (v := .p (.v (.bool false))) rfl ?_))
    refine So.gn (b := false) rfl rfl rfl (Nat.le_of_ble_eq_true rfl) (Nat.le_of_ble_eq_true rfl) ?_
    refine So.gn (b := false) rfl rfl rfl (Nat.le_of_ble_eq_true rfl) (Nat.le_of_ble_eq_true rfl) ?_
    refine So.gn (b := false) rfl rfl rfl (Nat.le_of_ble_eq_true rfl) (Nat.le_of_ble_eq_true rfl) ?_
    refine So.n (Nat.le_of_ble_eq_true rfl) (A.v rfl (V.pkFalse (u := .p (.v (.bool false))) rfl rfl ?_))
    refine So.n (Nat.le_of_ble_eq_true rfl) (A.v rfl (V.mv (v := .p (.v (.bool false))) rfl ?_))
    refine So.gn (b := false) rfl rfl rfl (Nat.le_of_ble_eq_true rfl) (Nat.le_of_ble_eq_true rfl) ?_
    refine So.gn (b := false) rfl rfl rfl (Nat.le_of_ble_eq_true rfl) (Nat.le_of_ble_eq_true rfl) ?_
    refine So.gn (b := false) rfl rfl rfl (Nat.le_of_ble_eq_true rfl) (Nat.le_of_ble_eq_true rfl) ?_
    refine So.n (Nat.le_of_ble_eq_true rfl) (A.v rfl (V.pkFalse (u := .p (.v (.bool false))) rfl rfl ?_))
    refine So.n (Nat.le_of_ble_eq_true rfl) (A.v rfl (V.as (v := .p (.v (.bool false))) rfl ?_))
    refine So.e ?_
    show HT _ _ _ _ _
    refine HT.ret ?_
    exact ret_ok (sg []) h rfl rfl rfl trivial ⟨trivial, trivial⟩ rfl ⟨⟨⟨le_bool (by first | with_reducible rfl | exact (decide_eq_false (by unfold whereP; omega)).symm | exact decide_eq_decide.2 (by unfold whereP; omega)), trivial⟩, trivial⟩, trivial⟩
def ftagSp : Sp := ⟨[], mkE (α := (List UInt8)) (fun b => [.p (.bs (b))]) (fun b => []) (fun b => True) (fun b => [.p (.v (.bool (decide (tagP b))))]) (fun b => [])⟩
def S_ftag : FuncId → Option Sp := fun _ => none
theorem S_ftag_ok : ∀ f s, S_ftag f = some s → FOK Tryd.prog gl f s := fun f s h => by cases h
set_option maxHeartbeats 1000000 in
set_option maxRecDepth 1000 in
theorem ftag_ok : FOK Tryd.prog gl 44 ftagSp := by
  refine FOK.ofE (tyOf_ok Tryd.prog) (slots := [2]) (nt := 11) Tryd.func44 rfl rfl rfl rfl (by decide) 1 (fun _ => rfl) (by decide) (fun _ => ⟨trivial, trivial⟩) ?_
  rintro b kk hlen hpre h
  have hl0 : (b).length ≤ 9223372036854775807 := hlen.1
  replace hpre : True := hpre
  show HT (cx Tryd.prog 11 (tyOf Tryd.prog) gl []) _ [(0, .p (.bs (b)))] [] _
  refine HT.seq ?_
  refine HT.region S_ftag_ok ?_
  refine So.n (Nat.le_of_ble_eq_true rfl) (A.v rfl (V.as (v := .p (.v (.bool false))) rfl ?_))
  refine So.e ?_
  show HT _ _ _ _ _
  refine HT.seq ?_
  refine HT.region S_ftag_ok ?_
  refine So.n (Nat.le_of_ble_eq_true rfl) (A.v rfl (V.mv (v := .p (.bs _)) rfl ?_))
  refine So.n (Nat.le_of_ble_eq_true rfl) (A.v rfl (V.len ty22 (v := .p (.bs _)) rfl rfl ?_))
  refine So.n (Nat.le_of_ble_eq_true rfl) (A.v rfl (V.bin (a := (.v (.int .i64 _))) (b := (.v (.int .i64 (0)))) (r := .v (.bool _)) rfl rfl rfl trivial ?_))
  refine So.n (Nat.le_of_ble_eq_true rfl) (A.v rfl (V.mv (v := .p (.v (.bool _))) rfl ?_))
  refine So.gd rfl rfl (Nat.le_of_ble_eq_true rfl) (Nat.le_of_ble_eq_true rfl) (fun h1 => ?_) (fun h1 => ?_)
  · have h1 := of_decide_eq_false h1
    refine A.v rfl (V.mv (v := .p (.bs _)) rfl ?_)
    refine So.gy rfl rfl (Nat.le_of_ble_eq_true rfl) (Nat.le_of_ble_eq_true rfl) ?_
    refine A.v rfl (V.len ty22 (v := .p (.bs _)) rfl rfl ?_)
    refine So.gy rfl rfl (Nat.le_of_ble_eq_true rfl) (Nat.le_of_ble_eq_true rfl) ?_
    refine A.v rfl (V.bin (a := (.v (.int .i64 _))) (b := (.v (.int .i64 (32)))) (r := .v (.bool _)) rfl rfl rfl trivial ?_)
    refine So.n (Nat.le_of_ble_eq_true rfl) (A.v rfl (V.pkFalse (u := .p (.v (.bool _))) rfl rfl ?_))
    refine So.n (Nat.le_of_ble_eq_true rfl) (A.v rfl (V.as (v := .p (.v (.bool _))) rfl ?_))
    refine So.e ?_
    show HT _ _ _ _ _
    refine HT.ret ?_
    exact ret_ok (sg []) h rfl rfl rfl trivial ⟨trivial, trivial⟩ rfl ⟨⟨⟨le_bool (by first | with_reducible rfl | exact (decide_eq_true (by unfold tagP; omega)).symm | exact decide_eq_decide.2 (by unfold tagP; omega)), trivial⟩, trivial⟩, trivial⟩
  · have h1 := of_decide_eq_true h1
    refine So.gn (b := true) rfl rfl rfl (Nat.le_of_ble_eq_true rfl) (Nat.le_of_ble_eq_true rfl) ?_
    refine So.gn (b := true) rfl rfl rfl (Nat.le_of_ble_eq_true rfl) (Nat.le_of_ble_eq_true rfl) ?_
    refine So.n (Nat.le_of_ble_eq_true rfl) (A.v rfl (V.pkTrue (u := .p (.v (.bool true))) rfl rfl ?_))
    refine So.n (Nat.le_of_ble_eq_true rfl) (A.v rfl (V.as (v := .p (.v (.bool true))) rfl ?_))
    refine So.e ?_
    show HT _ _ _ _ _
    refine HT.ret ?_
    exact ret_ok (sg []) h rfl rfl rfl trivial ⟨trivial, trivial⟩ rfl ⟨⟨⟨le_bool (by first | with_reducible rfl | exact (decide_eq_true (by unfold tagP; omega)).symm | exact decide_eq_decide.2 (by unfold tagP; omega)), trivial⟩, trivial⟩, trivial⟩
def rwhereSp : Sp := ⟨[], mkE (α := (List UInt8) × Int × Int) (fun (g, ep, fr) => [.p (.bs (g)), .p (.v (.int .i64 (ep))), .p (.v (.int .i64 (fr)))]) (fun (g, ep, fr) => []) (fun (g, ep, fr) => True) (fun (g, ep, fr) => [.p (.v (.bool (decide (whereP g ep fr))))]) (fun (g, ep, fr) => [])⟩
def S_rwhere : FuncId → Option Sp := fun _ => none
end Go.Vh

set_option linter.unusedVariables false
set_option linter.unusedSimpArgs false
namespace Go.Vh
open Go Go.Vc Go.Proofs Go.Vw
def frightSp : Sp := ⟨[], mkE (α := (List UInt8) × Int × Int × Int × (List UInt8)) (fun (g, ep, fr, kd, bd) => [.agg 5 (fun j => ([.bs g, .v (.int .i64 ep), .v (.int .i64 fr), .v (.int .i64 kd), .bs bd] : List PV).getD j (.v undef))]) (fun (g, ep, fr, kd, bd) => []) (fun (g, ep, fr, kd, bd) => True) (fun (g, ep, fr, kd, bd) => [.p (.v (.bool (decide (rightP g ep fr kd bd))))]) (fun (g, ep, fr, kd, bd) => [])⟩
def S_fright : FuncId → Option Sp := fun f => if f = 27 then some fofSp else if f = 28 then some prightSp else none
theorem S_fright_ok : ∀ f s, S_fright f = some s → FOK Tryd.prog gl f s := fun f s h => by
  unfold S_fright at h
  split at h
  · rename_i e; cases h; subst e; exact fof_ok
  split at h
  · rename_i e; cases h; subst e; exact pright_ok
  cases h
set_option maxHeartbeats 1000000 in
set_option maxRecDepth 1000 in
theorem fright_ok : FOK Tryd.prog gl 12 frightSp := by
  refine FOK.ofE (tyOf_ok Tryd.prog) (slots := [2]) (nt := 22) Tryd.func12 rfl rfl rfl rfl (by decide) 1 (fun ⟨_, _, _, _, _⟩ => rfl) (by decide) (fun ⟨_, _, _, _, _⟩ => ⟨trivial, trivial⟩) ?_
  rintro ⟨g, ep, fr, kd, bd⟩ kk hlen hpre h
  replace hpre : True := hpre
  show HT (cx Tryd.prog 22 (tyOf Tryd.prog) gl []) _ [(0, .agg 5 (fun j => ([.bs g, .v (.int .i64 ep), .v (.int .i64 fr), .v (.int .i64 kd), .bs bd] : List PV).getD j (.v undef)))] [] _
  refine HT.seq ?_
  refine HT.region S_fright_ok ?_
  refine So.n (Nat.le_of_ble_eq_true rfl) (A.boxAg 1 1 (n := 5) rfl (by intro j hj; first | rfl | trivial | (match j, hj with | 0, _ => (first | trivial | rfl) | 1, _ => (first | trivial | rfl) | 2, _ => (first | trivial | rfl) | 3, _ => (first | trivial | rfl) | 4, _ => (first | trivial | rfl)) | (split <;> first | rfl | trivial | (split <;> first | rfl | trivial))) rfl trivial ?_)
  refine So.n (Nat.le_of_ble_eq_true rfl) (A.v rfl (V.as (v := .p (.v (.bool false))) rfl ?_))
  refine So.e ?_
  show HT _ _ _ _ _
  refine HT.seq ?_
  refine HT.region S_fright_ok ?_
  refine So.n (Nat.le_of_ble_eq_true rfl) (A.v rfl (V.ldPtrA ty24 rfl rfl rfl rfl (by first | exact Nat.le_of_ble_eq_true rfl | (first | rfl | omega | (simp; done) | (simp; omega))) ?_))
  refine So.n (Nat.le_of_ble_eq_true rfl) (A.call0 [.agg 5 _] 2 rfl rfl rfl rfl ⟨trivial, trivial⟩ trivial (g, ep, fr, kd, bd) ⟨le_agg (fun j hj => by match j, hj with | 0, _ => rfl | 1, _ => rfl | 2, _ => rfl | 3, _ => rfl | 4, _ => rfl), trivial⟩ trivial (by trivial) (Φ := fun _ => True) (fun _ _ => trivial) (.inl rfl) (v := .agg 3 _) rfl (O' := _) rfl (fun h1 => ?_))
  refine So.n (Nat.le_of_ble_eq_true rfl) (A.call0 [.agg 3 _] 2 rfl rfl rfl rfl ⟨trivial, trivial⟩ trivial (g, ep, fr) ⟨.refl _, trivial⟩ trivial (by trivial) (Φ := fun _ => True) (fun _ _ => trivial) (.inl rfl) (v := .p (.v (.bool _))) rfl (O' := _) rfl (fun h2 => ?_))
  refine So.n (Nat.le_of_ble_eq_true rfl) (A.v rfl (V.mv (v := .p (.v (.bool _))) rfl ?_))
  refine So.gd rfl rfl (Nat.le_of_ble_eq_true rfl) (Nat.le_of_ble_eq_true rfl) (fun h3 => ?_) (fun h3 => ?_)
  · have h3 := of_decide_eq_true h3
    refine A.v rfl (V.faPtr ty24 rfl ty3 (Nat.le_of_ble_eq_true rfl) rfl rfl (by first | exact Nat.le_of_ble_eq_true rfl | first | rfl | omega | (simp; done) | (simp; omega)) ?_)
    refine So.gy rfl rfl (Nat.le_of_ble_eq_true rfl) (Nat.le_of_ble_eq_true rfl) ?_
    refine A.v rfl (V.ldPtr ty3 rfl rfl rfl (by first | exact Nat.le_of_ble_eq_true rfl | (first | rfl | omega | (simp; done) | (simp; omega))) (v := .p (.v (.int .i64 _))) rfl ?_)
    refine So.gy rfl rfl (Nat.le_of_ble_eq_true rfl) (Nat.le_of_ble_eq_true rfl) ?_
    refine A.v rfl (V.bin (a := (.v (.int .i64 _))) (b := (.v (.int .i64 (1)))) (r := .v (.bool _)) rfl rfl rfl trivial ?_)
    refine So.n (Nat.le_of_ble_eq_true rfl) (A.v rfl (V.pkTrue (u := .p (.v (.bool _))) rfl rfl ?_))
    refine So.n (Nat.le_of_ble_eq_true rfl) (A.v rfl (V.mv (v := .p (.v (.bool _))) rfl ?_))
    refine So.gd rfl rfl (Nat.le_of_ble_eq_true rfl) (Nat.le_of_ble_eq_true rfl) (fun h4 => ?_) (fun h4 => ?_)
    · have h4 := of_decide_eq_true h4
      refine A.v rfl (V.faPtr ty24 rfl ty3 (Nat.le_of_ble_eq_true rfl) rfl rfl (by first | exact Nat.le_of_ble_eq_true rfl | first | rfl | omega | (simp; done) | (simp; omega)) ?_)
      refine So.gy rfl rfl (Nat.le_of_ble_eq_true rfl) (Nat.le_of_ble_eq_true rfl) ?_
      refine A.v rfl (V.ldPtr ty3 rfl rfl rfl (by first | exact Nat.le_of_ble_eq_true rfl | (first | rfl | omega | (simp; done) | (simp; omega))) (v := .p (.v (.int .i64 _))) rfl ?_)
      refine So.gy rfl rfl (Nat.le_of_ble_eq_true rfl) (Nat.le_of_ble_eq_true rfl) ?_
      refine A.v rfl (V.bin (a := (.v (.int .i64 _))) (b := (.v (.int .i64 (5)))) (r := .v (.bool _)) rfl rfl rfl trivial ?_)
      refine So.n (Nat.le_of_ble_eq_true rfl) (A.v rfl (V.pkTrue (u := .p (.v (.bool _))) rfl rfl ?_))
      refine So.n (Nat.le_of_ble_eq_true rfl) (A.v rfl (V.mv (v := .p (.v (.bool _))) rfl ?_))
      refine So.gd rfl rfl (Nat.le_of_ble_eq_true rfl) (Nat.le_of_ble_eq_true rfl) (fun h5 => ?_) (fun h5 => ?_)
      · have h5 := of_decide_eq_true h5
        refine A.v rfl (V.faPtr ty24 rfl ty22 (Nat.le_of_ble_eq_true rfl) rfl rfl (by first | exact Nat.le_of_ble_eq_true rfl | first | rfl | omega | (simp; done) | (simp; omega)) ?_)
        refine So.gy rfl rfl (Nat.le_of_ble_eq_true rfl) (Nat.le_of_ble_eq_true rfl) ?_
        refine A.v rfl (V.ldPtr ty22 rfl rfl rfl (by first | exact Nat.le_of_ble_eq_true rfl | (first | rfl | omega | (simp; done) | (simp; omega))) (v := .p (.bs _)) rfl ?_)
        refine So.gy rfl rfl (Nat.le_of_ble_eq_true rfl) (Nat.le_of_ble_eq_true rfl) ?_
        refine A.v rfl (V.len ty22 (v := .p (.bs _)) rfl rfl ?_)
        refine So.gy rfl rfl (Nat.le_of_ble_eq_true rfl) (Nat.le_of_ble_eq_true rfl) ?_
        refine A.v rfl (V.bin (a := (.v (.int .i64 _))) (b := (.v (.int .i64 (30000)))) (r := .v (.bool _)) rfl rfl rfl trivial ?_)
        refine So.n (Nat.le_of_ble_eq_true rfl) (A.v rfl (V.pkTrue (u := .p (.v (.bool _))) rfl rfl ?_))
        refine So.n (Nat.le_of_ble_eq_true rfl) (A.v rfl (V.as (v := .p (.v (.bool _))) rfl ?_))
        refine So.e ?_
        show HT _ _ _ _ _
        refine HT.ret ?_
        exact ret_ok (sg []) h rfl rfl rfl trivial ⟨trivial, trivial⟩ rfl ⟨⟨⟨le_bool (by first | with_reducible rfl | exact (decide_eq_false (by unfold rightP; first | omega | (rintro ⟨q, _⟩; exact absurd q (by assumption)))).symm | exact decide_eq_decide.2 (by unfold rightP; first | omega | (have q := ‹whereP g ep fr›; exact ⟨fun h9 => ⟨q, by omega⟩, fun h9 => by omega⟩))), trivial⟩, trivial⟩, trivial⟩
      · have h5 := of_decide_eq_false h5
        refine So.gn (b := false) rfl rfl rfl (Nat.le_of_ble_eq_true rfl) (Nat.le_of_ble_eq_true rfl) ?_
        refine So.gn (b := false) rfl rfl rfl (Nat.le_of_ble_eq_true rfl) (Nat.le_of_ble_eq_true rfl) ?_
        refine So.gn (b := false) rfl rfl rfl (Nat.le_of_ble_eq_true rfl) (Nat.le_of_ble_eq_true rfl) ?_
        refine So.n (Nat.le_of_ble_eq_true rfl) (A.v rfl (V.pkFalse (u := .p (.v (.bool false))) rfl rfl ?_))
        refine So.n (Nat.le_of_ble_eq_true rfl) (A.v rfl (V.as (v := .p (.v (.bool false))) rfl ?_))
        refine So.e ?_
        show HT _ _ _ _ _
        refine HT.ret ?_
        exact ret_ok (sg []) h rfl rfl rfl trivial ⟨trivial, trivial⟩ rfl ⟨⟨⟨le_bool (by first | with_reducible rfl | exact (decide_eq_false (by unfold rightP; first | omega | (rintro ⟨q, _⟩; exact absurd q (by assumption)))).symm | exact decide_eq_decide.2 (by unfold rightP; first | omega | (have q := ‹whereP g ep fr›; exact ⟨fun h9 => ⟨q, by omega⟩, fun h9 => by omega⟩))), trivial⟩, trivial⟩, trivial⟩
    · have h4 := of_decide_eq_false h4
      refine So.gn (b := false) rfl rfl rfl (Nat.le_of_ble_eq_true rfl) (Nat.le_of_ble_eq_true rfl) ?_
      refine So.gn (b := false) rfl rfl rfl (Nat.le_of_ble_eq_true rfl) (Nat.le_of_ble_eq_true rfl) ?_
      refine So.n (Nat.le_of_ble_eq_true rfl) (A.v rfl (V.pkFalse (u := .p (.v (.bool false))) rfl rfl ?_))
      refine So.n (Nat.le_of_ble_eq_true rfl) (A.v rfl (V.mv (v := .p (.v (.bool false))) rfl ?_))
      refine So.gn (b := false) rfl rfl rfl (Nat.le_of_ble_eq_true rfl) (Nat.le_of_ble_eq_true rfl) ?_
      refine So.gn (b := false) rfl rfl rfl (Nat.le_of_ble_eq_true rfl) (Nat.le_of_ble_eq_true rfl) ?_
      refine So.gn (b := false) rfl rfl rfl (Nat.le_of_ble_eq_true rfl) (Nat.le_of_ble_eq_true rfl) ?_
      refine So.gn (b := false) rfl rfl rfl (Nat.le_of_ble_eq_true rfl) (Nat.le_of_ble_eq_true rfl) ?_
      refine So.n (Nat.le_of_ble_eq_true rfl) (A.v rfl (V.pkFalse (u := .p (.v (.bool false))) rfl rfl ?_))
      refine So.n (Nat.le_of_ble_eq_true rfl) (A.v rfl (V.as (v := .p (.v (.bool false))) rfl ?_))
      refine So.e ?_
      show HT _ _ _ _ _
      refine HT.ret ?_
      exact ret_ok (sg []) h rfl rfl rfl trivial ⟨trivial, trivial⟩ rfl ⟨⟨⟨le_bool (by first | with_reducible rfl | exact (decide_eq_false (by unfold rightP; first | omega | (rintro ⟨q, _⟩; exact absurd q (by assumption)))).symm | exact decide_eq_decide.2 (by unfold rightP; first | omega | (have q := ‹whereP g ep fr›; exact ⟨fun h9 => ⟨q, by omega⟩, fun h9 => by omega⟩))), trivial⟩, trivial⟩, trivial⟩
  · have h3 := of_decide_eq_false h3
    refine So.gn (b := false) rfl rfl rfl (Nat.le_of_ble_eq_true rfl) (Nat.le_of_ble_eq_true rfl) ?_
    refine So.gn (b := false) rfl rfl rfl (Nat.le_of_ble_eq_true rfl) (Nat.le_of_ble_eq_true rfl) ?_
    refine So.n (Nat.le_of_ble_eq_true rfl) (A.v rfl (V.pkFalse (u := .p (.v (.bool false))) rfl rfl ?_))
    refine So.n (Nat.le_of_ble_eq_true rfl) (A.v rfl (V.mv (v := .p (.v (.bool false))) rfl ?_))
    refine So.gn (b := false) rfl rfl rfl (Nat.le_of_ble_eq_true rfl) (Nat.le_of_ble_eq_true rfl) ?_
    refine So.gn (b := false) rfl rfl rfl (Nat.le_of_ble_eq_true rfl) (Nat.le_of_ble_eq_true rfl) ?_
    refine So.gn (b := false) rfl rfl rfl (Nat.le_of_ble_eq_true rfl) (Nat.le_of_ble_eq_true rfl) ?_
    refine So.n (Nat.le_of_ble_eq_true rfl) (A.v rfl (V.pkFalse (u := .p (.v (.bool false))) rfl rfl ?_))
    refine So.n (Nat.le_of_ble_eq_true rfl) (A.v rfl (V.mv (v := .p (.v (.bool false))) rfl ?_))
    refine So.gn (b := false) rfl rfl rfl (Nat.le_of_ble_eq_true rfl) (Nat.le_of_ble_eq_true rfl) ?_
    refine So.gn (b := false) rfl rfl rfl (Nat.le_of_ble_eq_true rfl) (Nat.le_of_ble_eq_true rfl) ?_
    refine So.gn (b := false) rfl rfl rfl (Nat.le_of_ble_eq_true rfl) (Nat.le_of_ble_eq_true rfl) ?_
    refine So.gn (b := false) rfl rfl rfl (Nat.le_of_ble_eq_true rfl) (Nat.le_of_ble_eq_true rfl) ?_
    refine So.n (Nat.le_of_ble_eq_true rfl) (A.v rfl (V.pkFalse (u := .p (.v (.bool false))) rfl rfl ?_))
    refine So.n (Nat.le_of_ble_eq_true rfl) (A.v rfl (V.as (v := .p (.v (.bool false))) rfl ?_))
    refine So.e ?_
    show HT _ _ _ _ _
    refine HT.ret ?_
    exact ret_ok (sg []) h rfl rfl rfl trivial ⟨trivial, trivial⟩ rfl ⟨⟨⟨le_bool (by first | with_reducible rfl | exact (decide_eq_false (by unfold rightP; first | omega | (rintro ⟨q, _⟩; exact absurd q (by assumption)))).symm | exact decide_eq_decide.2 (by unfold rightP; first | omega | (have q := ‹whereP g ep fr›; exact ⟨fun h9 => ⟨q, by omega⟩, fun h9 => by omega⟩))), trivial⟩, trivial⟩, trivial⟩
def fsealSp : Sp := ⟨[], mkE (α := (List UInt8) × Int × Int × Int × (List UInt8)) (fun (g, ep, fr, gn, cl) => [.agg 5 (fun j => ([.bs g, .v (.int .i64 ep), .v (.int .i64 fr), .v (.int .i64 gn), .bs cl] : List PV).getD j (.v undef))]) (fun (g, ep, fr, gn, cl) => []) (fun (g, ep, fr, gn, cl) => True) (fun (g, ep, fr, gn, cl) => [.p (.v (.bool (decide (sealP g ep fr gn cl))))]) (fun (g, ep, fr, gn, cl) => [])⟩
def S_fseal : FuncId → Option Sp := fun f => if f = 39 then some fwhereSp else if f = 28 then some prightSp else none
theorem S_fseal_ok : ∀ f s, S_fseal f = some s → FOK Tryd.prog gl f s := fun f s h => by
  unfold S_fseal at h
  split at h
  · rename_i e; cases h; subst e; exact fwhere_ok
  split at h
  · rename_i e; cases h; subst e; exact pright_ok
  cases h
set_option maxHeartbeats 1000000 in
set_option maxRecDepth 1000 in
theorem fseal_ok : FOK Tryd.prog gl 29 fsealSp := by
  refine FOK.ofE (tyOf_ok Tryd.prog) (slots := [2]) (nt := 22) Tryd.func29 rfl rfl rfl rfl (by decide) 1 (fun ⟨_, _, _, _, _⟩ => rfl) (by decide) (fun ⟨_, _, _, _, _⟩ => ⟨trivial, trivial⟩) ?_
  rintro ⟨g, ep, fr, gn, cl⟩ kk hlen hpre h
  replace hpre : True := hpre
  show HT (cx Tryd.prog 22 (tyOf Tryd.prog) gl []) _ [(0, .agg 5 (fun j => ([.bs g, .v (.int .i64 ep), .v (.int .i64 fr), .v (.int .i64 gn), .bs cl] : List PV).getD j (.v undef)))] [] _
  refine HT.seq ?_
  refine HT.region S_fseal_ok ?_
  refine So.n (Nat.le_of_ble_eq_true rfl) (A.boxAg 1 1 (n := 5) rfl (by intro j hj; first | rfl | trivial | (match j, hj with | 0, _ => (first | trivial | rfl) | 1, _ => (first | trivial | rfl) | 2, _ => (first | trivial | rfl) | 3, _ => (first | trivial | rfl) | 4, _ => (first | trivial | rfl)) | (split <;> first | rfl | trivial | (split <;> first | rfl | trivial))) rfl trivial ?_)
  refine So.n (Nat.le_of_ble_eq_true rfl) (A.v rfl (V.as (v := .p (.v (.bool false))) rfl ?_))
  refine So.e ?_
  show HT _ _ _ _ _
  refine HT.seq ?_
  refine HT.region S_fseal_ok ?_
  refine So.n (Nat.le_of_ble_eq_true rfl) (A.v rfl (V.ldPtrA ty35 rfl rfl rfl rfl (by first | exact Nat.le_of_ble_eq_true rfl | (first | rfl | omega | (simp; done) | (simp; omega))) ?_))
  refine So.n (Nat.le_of_ble_eq_true rfl) (A.call0 [.agg 5 _] 2 rfl rfl rfl rfl ⟨trivial, trivial⟩ trivial (g, ep, fr, gn, cl) ⟨le_agg (fun j hj => by match j, hj with | 0, _ => rfl | 1, _ => rfl | 2, _ => rfl | 3, _ => rfl | 4, _ => rfl), trivial⟩ trivial (by trivial) (Φ := fun _ => True) (fun _ _ => trivial) (.inl rfl) (v := .agg 3 _) rfl (O' := _) rfl (fun h1 => ?_))
  refine So.n (Nat.le_of_ble_eq_true rfl) (A.call0 [.agg 3 _] 2 rfl rfl rfl rfl ⟨trivial, trivial⟩ trivial (g, ep, fr) ⟨.refl _, trivial⟩ trivial (by trivial) (Φ := fun _ => True) (fun _ _ => trivial) (.inl rfl) (v := .p (.v (.bool _))) rfl (O' := _) rfl (fun h2 => ?_))
  refine So.n (Nat.le_of_ble_eq_true rfl) (A.v rfl (V.mv (v := .p (.v (.bool _))) rfl ?_))
  refine So.gd rfl rfl (Nat.le_of_ble_eq_true rfl) (Nat.le_of_ble_eq_true rfl) (fun h3 => ?_) (fun h3 => ?_)
  · have h3 := of_decide_eq_true h3
    refine A.v rfl (V.faPtr ty35 rfl ty2 (Nat.le_of_ble_eq_true rfl) rfl rfl (by first | exact Nat.le_of_ble_eq_true rfl | first | rfl | omega | (simp; done) | (simp; omega)) ?_)
    refine So.gy rfl rfl (Nat.le_of_ble_eq_true rfl) (Nat.le_of_ble_eq_true rfl) ?_
    refine A.v rfl (V.ldPtr ty2 rfl rfl rfl (by first | exact Nat.le_of_ble_eq_true rfl | (first | rfl | omega | (simp; done) | (simp; omega))) (v := .p (.v (.int .i64 _))) rfl ?_)
    refine So.gy rfl rfl (Nat.le_of_ble_eq_true rfl) (Nat.le_of_ble_eq_true rfl) ?_
    refine A.v rfl (V.bin (a := (.v (.int .i64 _))) (b := (.v (.int .i64 (0)))) (r := .v (.bool _)) rfl rfl rfl trivial ?_)
    refine So.n (Nat.le_of_ble_eq_true rfl) (A.v rfl (V.pkTrue (u := .p (.v (.bool _))) rfl rfl ?_))
    refine So.n (Nat.le_of_ble_eq_true rfl) (A.v rfl (V.mv (v := .p (.v (.bool _))) rfl ?_))
    refine So.gd rfl rfl (Nat.le_of_ble_eq_true rfl) (Nat.le_of_ble_eq_true rfl) (fun h4 => ?_) (fun h4 => ?_)
    · have h4 := of_decide_eq_true h4
      refine A.v rfl (V.faPtr ty35 rfl ty2 (Nat.le_of_ble_eq_true rfl) rfl rfl (by first | exact Nat.le_of_ble_eq_true rfl | first | rfl | omega | (simp; done) | (simp; omega)) ?_)
      refine So.gy rfl rfl (Nat.le_of_ble_eq_true rfl) (Nat.le_of_ble_eq_true rfl) ?_
      refine A.v rfl (V.ldPtr ty2 rfl rfl rfl (by first | exact Nat.le_of_ble_eq_true rfl | (first | rfl | omega | (simp; done) | (simp; omega))) (v := .p (.v (.int .i64 _))) rfl ?_)
      refine So.gy rfl rfl (Nat.le_of_ble_eq_true rfl) (Nat.le_of_ble_eq_true rfl) ?_
      refine A.v rfl (V.bin (a := (.v (.int .i64 _))) (b := (.v (.int .i64 (1073741824)))) (r := .v (.bool _)) rfl rfl rfl trivial ?_)
      refine So.n (Nat.le_of_ble_eq_true rfl) (A.v rfl (V.pkTrue (u := .p (.v (.bool _))) rfl rfl ?_))
      refine So.n (Nat.le_of_ble_eq_true rfl) (A.v rfl (V.mv (v := .p (.v (.bool _))) rfl ?_))
      refine So.gd rfl rfl (Nat.le_of_ble_eq_true rfl) (Nat.le_of_ble_eq_true rfl) (fun h5 => ?_) (fun h5 => ?_)
      · have h5 := of_decide_eq_true h5
        refine A.v rfl (V.faPtr ty35 rfl ty22 (Nat.le_of_ble_eq_true rfl) rfl rfl (by first | exact Nat.le_of_ble_eq_true rfl | first | rfl | omega | (simp; done) | (simp; omega)) ?_)
        refine So.gy rfl rfl (Nat.le_of_ble_eq_true rfl) (Nat.le_of_ble_eq_true rfl) ?_
        refine A.v rfl (V.ldPtr ty22 rfl rfl rfl (by first | exact Nat.le_of_ble_eq_true rfl | (first | rfl | omega | (simp; done) | (simp; omega))) (v := .p (.bs _)) rfl ?_)
        refine So.gy rfl rfl (Nat.le_of_ble_eq_true rfl) (Nat.le_of_ble_eq_true rfl) ?_
        refine A.v rfl (V.len ty22 (v := .p (.bs _)) rfl rfl ?_)
        refine So.gy rfl rfl (Nat.le_of_ble_eq_true rfl) (Nat.le_of_ble_eq_true rfl) ?_
        refine A.v rfl (V.bin (a := (.v (.int .i64 _))) (b := (.v (.int .i64 (32800)))) (r := .v (.bool _)) rfl rfl rfl trivial ?_)
        refine So.n (Nat.le_of_ble_eq_true rfl) (A.v rfl (V.pkTrue (u := .p (.v (.bool _))) rfl rfl ?_))
        refine So.n (Nat.le_of_ble_eq_true rfl) (A.v rfl (V.as (v := .p (.v (.bool _))) rfl ?_))
        refine So.e ?_
        show HT _ _ _ _ _
        refine HT.ret ?_
        exact ret_ok (sg []) h rfl rfl rfl trivial ⟨trivial, trivial⟩ rfl ⟨⟨⟨le_bool (by first | with_reducible rfl | exact (decide_eq_false (by unfold sealP; first | omega | (rintro ⟨q, _⟩; exact absurd q (by assumption)))).symm | exact decide_eq_decide.2 (by unfold sealP; first | omega | (have q := ‹whereP g ep fr›; exact ⟨fun h9 => ⟨q, by omega⟩, fun h9 => by omega⟩))), trivial⟩, trivial⟩, trivial⟩
      · have h5 := of_decide_eq_false h5
        refine So.gn (b := false) rfl rfl rfl (Nat.le_of_ble_eq_true rfl) (Nat.le_of_ble_eq_true rfl) ?_
        refine So.gn (b := false) rfl rfl rfl (Nat.le_of_ble_eq_true rfl) (Nat.le_of_ble_eq_true rfl) ?_
        refine So.gn (b := false) rfl rfl rfl (Nat.le_of_ble_eq_true rfl) (Nat.le_of_ble_eq_true rfl) ?_
        refine So.n (Nat.le_of_ble_eq_true rfl) (A.v rfl (V.pkFalse (u := .p (.v (.bool false))) rfl rfl ?_))
        refine So.n (Nat.le_of_ble_eq_true rfl) (A.v rfl (V.as (v := .p (.v (.bool false))) rfl ?_))
        refine So.e ?_
        show HT _ _ _ _ _
        refine HT.ret ?_
        exact ret_ok (sg []) h rfl rfl rfl trivial ⟨trivial, trivial⟩ rfl ⟨⟨⟨le_bool (by first | with_reducible rfl | exact (decide_eq_false (by unfold sealP; first | omega | (rintro ⟨q, _⟩; exact absurd q (by assumption)))).symm | exact decide_eq_decide.2 (by unfold sealP; first | omega | (have q := ‹whereP g ep fr›; exact ⟨fun h9 => ⟨q, by omega⟩, fun h9 => by omega⟩))), trivial⟩, trivial⟩, trivial⟩
    · have h4 := of_decide_eq_false h4
      refine So.gn (b := false) rfl rfl rfl (Nat.le_of_ble_eq_true rfl) (Nat.le_of_ble_eq_true rfl) ?_
      refine So.gn (b := false) rfl rfl rfl (Nat.le_of_ble_eq_true rfl) (Nat.le_of_ble_eq_true rfl) ?_
      refine So.n (Nat.le_of_ble_eq_true rfl) (A.v rfl (V.pkFalse (u := .p (.v (.bool false))) rfl rfl ?_))
      refine So.n (Nat.le_of_ble_eq_true rfl) (A.v rfl (V.mv (v := .p (.v (.bool false))) rfl ?_))
      refine So.gn (b := false) rfl rfl rfl (Nat.le_of_ble_eq_true rfl) (Nat.le_of_ble_eq_true rfl) ?_
      refine So.gn (b := false) rfl rfl rfl (Nat.le_of_ble_eq_true rfl) (Nat.le_of_ble_eq_true rfl) ?_
      refine So.gn (b := false) rfl rfl rfl (Nat.le_of_ble_eq_true rfl) (Nat.le_of_ble_eq_true rfl) ?_
      refine So.gn (b := false) rfl rfl rfl (Nat.le_of_ble_eq_true rfl) (Nat.le_of_ble_eq_true rfl) ?_
      refine So.n (Nat.le_of_ble_eq_true rfl) (A.v rfl (V.pkFalse (u := .p (.v (.bool false))) rfl rfl ?_))
      refine So.n (Nat.le_of_ble_eq_true rfl) (A.v rfl (V.as (v := .p (.v (.bool false))) rfl ?_))
      refine So.e ?_
      show HT _ _ _ _ _
      refine HT.ret ?_
      exact ret_ok (sg []) h rfl rfl rfl trivial ⟨trivial, trivial⟩ rfl ⟨⟨⟨le_bool (by first | with_reducible rfl | exact (decide_eq_false (by unfold sealP; first | omega | (rintro ⟨q, _⟩; exact absurd q (by assumption)))).symm | exact decide_eq_decide.2 (by unfold sealP; first | omega | (have q := ‹whereP g ep fr›; exact ⟨fun h9 => ⟨q, by omega⟩, fun h9 => by omega⟩))), trivial⟩, trivial⟩, trivial⟩
  · have h3 := of_decide_eq_false h3
    refine So.gn (b := false) rfl rfl rfl (Nat.le_of_ble_eq_true rfl) (Nat.le_of_ble_eq_true rfl) ?_
    refine So.gn (b := false) rfl rfl rfl (Nat.le_of_ble_eq_true rfl) (Nat.le_of_ble_eq_true rfl) ?_
    refine So.n (Nat.le_of_ble_eq_true rfl) (A.v rfl (V.pkFalse (u := .p (.v (.bool false))) rfl rfl ?_))
    refine So.n (Nat.le_of_ble_eq_true rfl) (A.v rfl (V.mv (v := .p (.v (.bool false))) rfl ?_))
    refine So.gn (b := false) rfl rfl rfl (Nat.le_of_ble_eq_true rfl) (Nat.le_of_ble_eq_true rfl) ?_
    refine So.gn (b := false) rfl rfl rfl (Nat.le_of_ble_eq_true rfl) (Nat.le_of_ble_eq_true rfl) ?_
    refine So.gn (b := false) rfl rfl rfl (Nat.le_of_ble_eq_true rfl) (Nat.le_of_ble_eq_true rfl) ?_
    refine So.n (Nat.le_of_ble_eq_true rfl) (A.v rfl (V.pkFalse (u := .p (.v (.bool false))) rfl rfl ?_))
    refine So.n (Nat.le_of_ble_eq_true rfl) (A.v rfl (V.mv (v := .p (.v (.bool false))) rfl ?_))
    refine So.gn (b := false) rfl rfl rfl (Nat.le_of_ble_eq_true rfl) (Nat.le_of_ble_eq_true rfl) ?_
    refine So.gn (b := false) rfl rfl rfl (Nat.le_of_ble_eq_true rfl) (Nat.le_of_ble_eq_true rfl) ?_
    refine So.gn (b := false) rfl rfl rfl (Nat.le_of_ble_eq_true rfl) (Nat.le_of_ble_eq_true rfl) ?_
    refine So.gn (b := false) rfl rfl rfl (Nat.le_of_ble_eq_true rfl) (Nat.le_of_ble_eq_true rfl) ?_
    refine So.n (Nat.le_of_ble_eq_true rfl) (A.v rfl (V.pkFalse (u := .p (.v (.bool false))) rfl rfl ?_))
    refine So.n (Nat.le_of_ble_eq_true rfl) (A.v rfl (V.as (v := .p (.v (.bool false))) rfl ?_))
    refine So.e ?_
    show HT _ _ _ _ _
    refine HT.ret ?_
    exact ret_ok (sg []) h rfl rfl rfl trivial ⟨trivial, trivial⟩ rfl ⟨⟨⟨le_bool (by first | with_reducible rfl | exact (decide_eq_false (by unfold sealP; first | omega | (rintro ⟨q, _⟩; exact absurd q (by assumption)))).symm | exact decide_eq_decide.2 (by unfold sealP; first | omega | (have q := ‹whereP g ep fr›; exact ⟨fun h9 => ⟨q, by omega⟩, fun h9 => by omega⟩))), trivial⟩, trivial⟩, trivial⟩
def rrightSp : Sp := ⟨[], mkE (α := (List UInt8) × Int × Int × Int × (List UInt8)) (fun (g, ep, fr, kd, bd) => [.agg 5 (fun j => ([.bs g, .v (.int .i64 ep), .v (.int .i64 fr), .v (.int .i64 kd), .bs bd] : List PV).getD j (.v undef))]) (fun (g, ep, fr, kd, bd) => []) (fun (g, ep, fr, kd, bd) => True) (fun (g, ep, fr, kd, bd) => [.p (.v (.bool (decide (rightP g ep fr kd bd))))]) (fun (g, ep, fr, kd, bd) => [])⟩
def S_rright : FuncId → Option Sp := fun f => if f = 46 then some rwhereSp else none
def rsealSp : Sp := ⟨[], mkE (α := (List UInt8) × Int × Int × Int × (List UInt8)) (fun (g, ep, fr, gn, cl) => [.agg 5 (fun j => ([.bs g, .v (.int .i64 ep), .v (.int .i64 fr), .v (.int .i64 gn), .bs cl] : List PV).getD j (.v undef))]) (fun (g, ep, fr, gn, cl) => []) (fun (g, ep, fr, gn, cl) => True) (fun (g, ep, fr, gn, cl) => [.p (.v (.bool (decide (sealP g ep fr gn cl))))]) (fun (g, ep, fr, gn, cl) => [])⟩
def S_rseal : FuncId → Option Sp := fun f => if f = 46 then some rwhereSp else none
end Go.Vh
