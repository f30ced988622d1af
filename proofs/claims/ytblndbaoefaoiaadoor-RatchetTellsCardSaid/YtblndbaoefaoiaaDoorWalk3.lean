/- What is proved: each function of the seat's program does what its contract says, wherever it is called; no condition. -/
import Derived.Test.YtblndbaoefaoiaaDoorWalk0
import Derived.Test.YtblndbaoefaoiaaDoorWalk2
import Derived.Test.YtblndbaoefaoiaaDoorPure0
import Derived.Test.YtblndbaoefaoiaaDoorFrame2
import Derived.Test.YtblndbaoefaoiaaDoorWalk1
set_option linter.unusedVariables false
set_option linter.unusedSimpArgs false
namespace Go.Vh
open Go Go.Vc Go.Proofs Go.Vw
def dnextoSp : Sp := ⟨[], mkE (α := Int × (List UInt8) × KL) (fun (g, s, K) => [.agg 3 (fun j => ([.v (.int .i64 g), .bs s, .sl (K).length 2 (kR K)] : List PV).getD j (.v undef))]) (fun (g, s, K) => []) (fun (g, s, K) => rightR g s K ∧ g < 1073741824) (fun (g, s, K) => [.ag 3 (fun j => ([.p (.v (.int .i64 (g + 1))), .p (.bs (nxtF g s)), .own 5 0 (K.length)] : List BV).getD j .dead), .p (.v (.int .i64 g)), .p (.bs (keyF g s)), .p (.v (.int .i64 0))]) (fun (g, s, K) => [(5, ⟨35, 2, K.length * 2, true, .rows (kR K)⟩)])⟩
def S_dnexto : FuncId → Option Sp := fun f => if f = 17 then some drightSp else if f = 33 then some rnumSp else if f = 32 then some rlabelSp else none
theorem S_dnexto_ok : ∀ f s, S_dnexto f = some s → FOK Tryd.prog gl f s := fun f s h => by
 unfold S_dnexto at h
 split at h
 ·rename_i e; cases h; subst e; exact dright_ok
 split at h
 ·rename_i e; cases h; subst e; exact rnum_ok
 split at h
 ·rename_i e; cases h; subst e; exact rlabel_ok
 cases h
theorem S_dnexto_det : ∀ f s, S_dnexto f = some s → SpDet s.sp := fun f s h => by
 unfold S_dnexto at h
 split at h
 ·cases h; exact mkE_det _ _ _ _ _
 split at h
 ·cases h; exact mkE_det _ _ _ _ _
 split at h
 ·cases h; exact mkE_det _ _ _ _ _
 cases h
set_option maxHeartbeats 1000000 in
set_option maxRecDepth 20000 in
theorem dnexto_ok : FOK Tryd.prog gl 19 dnextoSp := by
 refine FOK.ofEC (tyOf_ok Tryd.prog) (rvs := [.cell 2 26, .tmp 3, .tmp 4, .tmp 5]) (nt := 42) Tryd.func19 rfl rfl rfl rfl (by decide) 1 (fun ⟨_, _, _⟩ => rfl) (by decide) (fun ⟨_, _, _⟩ => ⟨trivial, trivial⟩) ?_
 rintro ⟨g, s, K⟩ kk hlen hpre h
 replace hpre : rightR g s K ∧ g < 1073741824 := hpre
 show HT (cx Tryd.prog 42 (tyOf Tryd.prog) gl []) _ [(0, .agg 3 (fun j => ([.v (.int .i64 g), .bs s, .sl (K).length 2 (kR K)] : List PV).getD j (.v undef)))] [] _
 have hrt := hpre.1
 obtain ⟨hq1, hq2, hq3, hq4, hq5⟩ := id hrt
 refine HT.seq (HT.region S_dnexto_ok (So.n (lk rfl) (A.boxAg 1 1 (n := 3) rfl (by intro j hj; (match j, hj with | 0, _ => (trivial) | 1, _ => (trivial) | 2, _ => (trivial))) rfl trivial (So.n (lk rfl) (A.alloc 2 1 ty26 rfl trivial (f := fun j => ([.v (.int .i64 0), .v (.slice none 0 0), .v (.slice none 0 0)] : List PV).getD j (.v undef)) (fun j hj => by match j, hj with | 0, _ => rfl | 1, _ => rfl | 2, _ => rfl) (So.q rfl rfl (V.as (v := .p (.v (.int .i64 0))) rfl (So.q rfl rfl (V.as (v := .p (.v (.slice none 0 0))) rfl (So.q rfl rfl (V.as (v := .p (.v (.int .i64 0))) rfl (So.e (HT.seq (HT.region S_dnexto_ok ?_))))))))))))))
 refine So.q rfl rfl (V.ldPtrA ty26 rfl rfl rfl rfl (lk rfl) ?_)
 refine So.n (lk rfl) (A.call0 [.agg 3 _] 3 rfl rfl rfl rfl ⟨trivial, trivial⟩ trivial (g, s, K) ⟨le_agg (fun j hj => by match j, hj with | 0, _ => rfl | 1, _ => rfl | 2, _ => rfl), trivial⟩ trivial (by omega) (Φ := fun _ => True) (fun _ _ => trivial) (.inl rfl) (v := .p (.v (.bool _))) rfl (O' := _) rfl (fun h1 => ?_))
 refine So.q rfl rfl (V.as (v := .p (.v (.bool _))) rfl (So.e (HT.seq (HT.seq (HT.region S_dnexto_ok (So.q rfl rfl (V.mv (v := .p (.v (.bool _))) rfl (So.q rfl rfl (V.not rfl (So.e ?_))))))))))
 show HT _ _ _ _ _
 refine R.cond rfl rfl (fun h2 => ?_) (fun h2 => ?_)
 ·have h2 := of_decide_eq_false (bnT h2)
  refine HT.seq ?_
  exact absurd hpre.1 (by assumption)
 ·have h2 := of_decide_eq_true (bnF h2)
  refine HT.skip (HT.seq (HT.seq (HT.region S_dnexto_ok (So.q rfl rfl (V.faPtr ty26 rfl ty2 (lk rfl) rfl rfl (lk rfl) (So.q rfl rfl (V.ldPtr ty2 rfl rfl rfl (lk rfl) (v := .p (.v (.int .i64 _))) rfl (So.q rfl rfl (V.bin (a := .v (.int .i64 _)) (b := .v (.int .i64 1073741824)) (r := .v (.bool _)) rfl rfl rfl trivial (So.e ?_))))))))))
  show HT _ _ _ _ _
  refine R.cond rfl rfl (fun h3 => ?_) (fun h3 => ?_)
  ·have h3 := of_decide_eq_true h3
   refine HT.seq ?_
   exfalso; omega
  ·have h3 := of_decide_eq_false h3
   refine HT.skip (HT.seq (HT.region S_dnexto_ok (So.q rfl rfl (V.faPtr ty26 rfl ty2 (lk rfl) rfl rfl (lk rfl) (So.q rfl rfl (V.ldPtr ty2 rfl rfl rfl (lk rfl) (v := .p (.v (.int .i64 _))) rfl ?_))))))
   refine So.n (lk rfl) (A.call0F S_dnexto_ok [.p (.v (.int .i64 _)), .p (.v (.int .i64 _))] 3 rfl rfl rfl rfl ⟨trivial, trivial, trivial⟩ trivial (_, _) ⟨.refl _, .refl _, trivial⟩ trivial (by trivial) (Φ := fun (n, k) => (numF n k).length ≤ 8) (fun _ _ => numF_len _ _) (.inl rfl) (t := 4) (off := 0) rfl (O' := (4, ⟨5, 1, _, true, .bs _⟩) :: _) rfl rfl rfl (y := .p (.bs _)) rfl rfl (fun h4 => ?_))
   try dsimp only at h4
   refine So.q rfl rfl (V.as (v := .p (.bs _)) rfl (So.e (HT.seq (HT.region S_dnexto_ok (So.q rfl rfl (V.faPtr ty26 rfl ty22 (lk rfl) rfl rfl (lk rfl) (So.q rfl rfl (V.ldPtr ty22 rfl rfl rfl (lk rfl) (v := .p (.bs _)) rfl (So.q rfl rfl (V.mv (v := .p (.bs _)) rfl ?_))))))))))
   refine So.n (lk rfl) (A.call0F S_dnexto_ok [.p (.bs _), .p (.str _), .p (.bs _), .p (.v (.int .i64 _))] 3 rfl rfl rfl rfl ⟨trivial, trivial, trivial, trivial, trivial⟩ trivial (s, nKey, numF g 4, 32) ⟨.refl _, .refl _, le_bs (by exact take_full _), .refl _, trivial⟩ trivial (by omega) (Φ := fun _ => True) (fun _ _ => trivial) (.inl rfl) (t := 5) (off := 0) rfl (O' := (5, ⟨5, 1, _, true, .bs _⟩) :: _) rfl rfl rfl (y := .p (.bs _)) rfl rfl (fun h5 => ?_))
   refine So.q rfl rfl (V.as (v := .p (.bs _)) rfl (So.e (HT.seq ?_)))
   refine HT.planTS S_dnexto_ok S_dnexto_det mixed (.stage [0, 1, 2, 3, 4, 5, 6, 8, 9] (.br 7 [0, 1, 2, 3, 4, 5, 6, 8, 9] (.stage [0, 1, 2, 3, 4, 5, 6, 8, 9] (.br 10 [0, 1, 2] (.stage [0, 1, 2] (.br 11 [] (.stage [] (.br 12 [] (.stage [] (.br 13 [] (.leaf []) .no)) .no)) (.br 12 [0, 1, 2] (.stage [0, 1, 2] (.br 11 [] (.stage [] (.br 13 [] (.leaf []) .no)) .no)) .no))) (.br 12 [0, 1, 2, 3, 4, 5, 6, 8, 9] (.stage [0, 1, 2, 3, 4, 5, 6, 8, 9] (.br 10 [0, 1, 2] (.stage [0, 1, 2] (.br 11 [] (.stage [] (.br 13 [] (.leaf []) .no)) .no)) .no)) .no))) (.br 12 [0, 1, 2, 3, 4, 5, 6, 8, 9] (.stage [0, 1, 2, 3, 4, 5, 6, 8, 9] (.br 7 [0, 1, 2, 3, 4, 5, 6, 8, 9] (.stage [0, 1, 2, 3, 4, 5, 6, 8, 9] (.br 10 [0, 1, 2] (.stage [0, 1, 2] (.br 11 [] (.stage [] (.br 13 [] (.leaf []) .no)) .no)) .no)) .no)) .no))) (by kernel_rfl) ?_
   refine Pt.st ?_
   refine Si.n rfl (lk rfl) (V.faPtr ty26 rfl ty2 (lk rfl) rfl rfl (lk rfl) (Si.n rfl (lk rfl) (V.ldPtr ty2 rfl rfl rfl (lk rfl) (v := .p (.v (.int .i64 _))) rfl (Si.n rfl (lk rfl) (V.addI rfl rfl (by omega) (Si.n rfl (lk rfl) (V.faPtr ty26 rfl ty22 (lk rfl) rfl rfl (lk rfl) (Si.n rfl (lk rfl) (V.ldPtr ty22 rfl rfl rfl (lk rfl) (v := .p (.bs _)) rfl (Si.n rfl (lk rfl) (V.mv (v := .p (.bs _)) rfl ?_)))))))))))
   refine Si.n rfl (lk rfl) (V.call [.p (.bs _), .p (.str _), .p (.bs _), .p (.v (.int .i64 _))] 3 rfl rfl rfl rfl ⟨trivial, trivial, trivial, trivial, trivial⟩ trivial (s, nNext, numF g 4, 32) ⟨.refl _, .refl _, le_bs (by exact take_full _), .refl _, trivial⟩ trivial (by omega) (Φ := fun _ => True) (fun _ _ => trivial) (.inl ⟨trivial, trivial, trivial, trivial, trivial⟩) (v := .p (.bs _)) rfl (fun h6 => ?_))
   refine Si.n rfl (lk rfl) (V.faPtr ty26 rfl ty24 (lk rfl) rfl rfl (lk rfl) (Si.n rfl (lk rfl) (V.ldPtr ty24 rfl rfl rfl (lk rfl) (v := .p (.sl _ 2 _)) rfl (Si.e ?_))))
   refine ⟨flEq_nil, ?_⟩
   refine Pt.bk (fun ff => ?_) ?_
   ·refine Lo.n rfl (lk rfl) (A.bsl 3 ty24 ty35 rfl (lk rfl) (lk rfl) (fun h => Bool.noConfusion (show false = true from h)) rfl rfl trivial trivial rfl (N := 0) rfl (c := .rows _) rfl ?_)
    refine ⟨_, fun ff => ff, ap0d, rfl, FG.id, ?_⟩
    show planT _ _ _ _ [(0, .ptr 1 0), (1, .p (.v (.int .i64 _))), (2, .p (.v (.int .i64 _))), (3, .ptr 1 1), (4, .p (.bs _)), (5, .p (.bs _)), (6, .p (.bs _)), (8, .ptr 1 2), (9, .p (.sl _ 2 _))] _ _ _
    refine Pt.st ?_
    refine Si.n rfl (lk rfl) (V.faPtr ty26 rfl ty2 (lk rfl) rfl rfl (lk rfl) (Si.n rfl (lk rfl) (V.ldPtr ty2 rfl rfl rfl (lk rfl) (v := .p (.v (.int .i64 _))) rfl (Si.n rfl (lk rfl) (V.addI rfl rfl (by omega) (Si.n rfl (lk rfl) (V.faPtr ty26 rfl ty22 (lk rfl) rfl rfl (lk rfl) (Si.n rfl (lk rfl) (V.ldPtr ty22 rfl rfl rfl (lk rfl) (v := .p (.bs _)) rfl (Si.n rfl (lk rfl) (V.mv (v := .p (.bs _)) rfl ?_)))))))))))
    refine Si.n rfl (lk rfl) (V.call [.p (.bs _), .p (.str _), .p (.bs _), .p (.v (.int .i64 _))] 4 rfl rfl rfl rfl ⟨trivial, trivial, trivial, trivial, trivial⟩ trivial (s, nNext, numF g 4, 32) ⟨.refl _, .refl _, le_bs (by exact take_full _), .refl _, trivial⟩ trivial (by omega) (Φ := fun _ => True) (fun _ _ => trivial) (.inl ⟨trivial, trivial, trivial, trivial, trivial⟩) (v := .p (.bs _)) rfl (fun h7 => ?_))
    refine Si.n rfl (lk rfl) (V.faPtr ty26 rfl ty24 (lk rfl) rfl rfl (lk rfl) (Si.n rfl (lk rfl) (V.ldPtr ty24 rfl rfl rfl (lk rfl) (v := .p (.sl _ 2 _)) rfl (Si.e ?_))))
    refine ⟨(flEq_cons rfl (flEq_cons rfl (flEq_cons rfl (flEq_cons rfl (flEq_cons rfl (flEq_cons rfl (flEq_cons rfl (flEq_cons rfl (flEq_cons rfl flEq_nil))))))))), ?_⟩
    refine Pt.bk (fun ff => ?_) ?_
    ·refine Lo.n rfl (lk rfl) (A.apRows ty24 ty35 rfl rfl rfl (lk rfl) (lk rfl) rfl rfl (u := .p (.sl _ 2 _)) rfl rfl (by exact fun j _ => kR_oneP K j) rfl (by (simp; omega)) rfl rfl rfl ?_)
     refine ⟨_, fun ff => Fr.kill 3 ff, ap1d, rfl, (FG.kill 3 (flP_cons rfl (flP_cons rfl (flP_cons rfl flP_nil)))), ?_⟩
     show planT _ _ _ _ [(0, .ptr 1 0), (1, .p (.v (.int .i64 _))), (2, .p (.v (.int .i64 _)))] _ _ _
     refine Pt.st ?_
     refine Si.n rfl (lk rfl) (V.faPtr ty26 rfl ty2 (lk rfl) rfl rfl (lk rfl) (Si.n rfl (lk rfl) (V.ldPtr ty2 rfl rfl rfl (lk rfl) (v := .p (.v (.int .i64 _))) rfl (Si.n rfl (lk rfl) (V.addI rfl rfl (by omega) (Si.e ?_))))))
     refine ⟨(flEq_cons rfl (flEq_cons rfl (flEq_cons rfl flEq_nil))), ?_⟩
     refine Pt.b0 ?_ ?_
     ·refine Lo.n rfl (lk rfl) (A.bldG ty26 rfl ⟨by exact rfl, by exact trivial, by exact trivial, trivial⟩ rfl rfl ?_)
      refine Pt.st ?_
      refine Si.e ?_
      refine ⟨flEq_nil, ?_⟩
      refine Pt.b0 ?_ ?_
      ·refine Lo.n rfl (lk rfl) (A.alloc 4 1 ty26 rfl trivial (f := fun j => ([.v (.int .i64 0), .v (.slice none 0 0), .v (.slice none 0 0)] : List PV).getD j (.v undef)) (fun j hj => by match j, hj with | 0, _ => rfl | 1, _ => rfl | 2, _ => rfl) ?_)
       refine Pt.st ?_
       refine Si.e ?_
       refine ⟨flEq_nil, ?_⟩
       refine Pt.b0 ?_ ?_
       ·refine Lo.s rfl (A.stoG [.p (.v (.int .i64 _)), .p (.bs _), .own 3 0 _] ty26 rfl rfl (by decide) (by intro j hj; match j, hj with | 0, _ => (exact rfl) | 1, _ => (exact trivial) | 2, _ => (exact trivial)) rfl rfl (by intro j hj; match j, hj with | 0, _ => rfl | 1, _ => rfl | 2, _ => rfl) rfl ?_)
        refine Pt.e ?_
        refine Si.e ?_
        refine ⟨flEq_nil, ?_⟩
        show HT _ _ _ _ _
        refine HT.seq ?_
        refine HT.planS S_dnexto_ok S_dnexto_det mixed [1, 2, 3, 5, 6, 7] [⟨[0, 1, 2, 3], 4, [1, 2, 3]⟩] (by kernel_rfl) ?_
        refine Pl.lk ?_
        refine Si.n rfl (lk rfl) (V.ldPtrG ty26 rfl rfl rfl rfl (by (simp; done)) rfl (Si.n rfl (lk rfl) (V.faPtr ty26 rfl ty2 (lk rfl) rfl rfl (lk rfl) (Si.n rfl (lk rfl) (V.ldPtr ty2 rfl rfl rfl (lk rfl) (v := .p (.v (.int .i64 _))) rfl (Si.n rfl (lk rfl) (V.mv (v := .p (.bs _)) rfl (Si.e ?_))))))))
        refine ⟨flEq_nil, fun ff => ?_⟩
        refine Lo.s rfl (A.stoG [.p (.v (.int .i64 _)), .p (.bs _), .own 3 0 _] ty26 rfl rfl (by decide) (by intro j hj; match j, hj with | 0, _ => (exact rfl) | 1, _ => (exact trivial) | 2, _ => (exact trivial)) rfl rfl (by intro j hj; match j, hj with | 0, _ => rfl | 1, _ => rfl | 2, _ => rfl) rfl ?_)
        refine ⟨_, fun ff => ff, ap0, rfl, FG.id, ?_⟩
        show planA _ _ _ _ _ [(1, .ptr 1 0), (2, .p (.v (.int .i64 _))), (3, .p (.bs _))] _ _ _
        refine Pl.e ?_
        refine Si.n rfl (lk rfl) (V.faPtr ty26 rfl ty2 (lk rfl) rfl rfl (lk rfl) (Si.n rfl (lk rfl) (V.ldPtr ty2 rfl rfl rfl (lk rfl) (v := .p (.v (.int .i64 _))) rfl (Si.n rfl (lk rfl) (V.mv (v := .p (.bs _)) rfl (Si.n rfl (lk rfl) (V.as (v := .p (.v (.int .i64 _))) rfl (Si.n rfl (lk rfl) (V.as (v := .p (.bs _)) rfl (Si.n rfl (lk rfl) (V.as (v := .p (.v (.int .i64 0))) rfl (Si.e ?_))))))))))))
        refine ⟨(flEq_cons rfl (flEq_cons rfl (flEq_cons rfl flEq_nil))), ?_⟩
        show HT _ _ _ _ _
        refine HT.ret ?_
        exact retC_ok (sg [(5, 3)]) [(2, .ptr 2 0), (3, .p (.v (.int .i64 g))), (4, .p (.bs (keyF g s))), (5, .p (.v (.int .i64 0)))] [(2, ⟨26, 1, 3, true, .cells [.p (.v (.int .i64 (g + 1))), .p (.bs (nxtF g s)), .own 3 0 (K.length)]⟩), (3, ⟨35, 2, K.length * 2, true, .rows (kR K)⟩)] h ⟨⟨⟨.refl _, rfl⟩, ⟨le_int (by rfl), trivial⟩, ⟨le_bs (by exact take_full _), trivial⟩, ⟨le_int (by rfl), trivial⟩, trivial⟩, ⟨⟨_, rfl, .inl (by (simp only [take_full, Nat.zero_add]; rfl)), ⟨trivial, trivial, rfl, trivial⟩⟩, ⟨_, rfl, .inr (ob_rows (by ((try dsimp only); (omega))) (by ((try dsimp only); ((intro j hj; exact kept_ap K j))))), trivial⟩, trivial⟩⟩ ⟨rvA_cellG ty26 rfl rfl rfl rfl (Nat.le_refl _) (le_ag (fun j hj => by match j, hj with | 0, _ => rfl | 1, _ => rfl | 2, _ => rfl)), .refl _, .refl _, .refl _, trivial⟩ ⟨rfl, trivial⟩ rfl ⟨trivial, trivial⟩ ⟨(fun j hj => by match j, hj with | 0, _ => exact trivial | 1, _ => exact trivial | 2, _ => exact rfl), trivial, trivial, trivial, trivial⟩ rfl
       ·exact Pt.no
      ·exact Pt.no
     ·refine Pt.bk (fun ff => ?_) ?_
      ·refine Lo.n rfl (lk rfl) (A.alloc 4 1 ty26 rfl trivial (f := fun j => ([.v (.int .i64 0), .v (.slice none 0 0), .v (.slice none 0 0)] : List PV).getD j (.v undef)) (fun j hj => by match j, hj with | 0, _ => rfl | 1, _ => rfl | 2, _ => rfl) ?_)
       refine ⟨_, fun ff => ff, ap0d, rfl, FG.id, ?_⟩
       show planT _ _ _ _ [(0, .ptr 1 0), (1, .p (.v (.int .i64 _))), (2, .p (.v (.int .i64 _)))] _ _ _
       refine Pt.st ?_
       refine Si.n rfl (lk rfl) (V.faPtr ty26 rfl ty2 (lk rfl) rfl rfl (lk rfl) (Si.n rfl (lk rfl) (V.ldPtr ty2 rfl rfl rfl (lk rfl) (v := .p (.v (.int .i64 _))) rfl (Si.n rfl (lk rfl) (V.addI rfl rfl (by omega) (Si.e ?_))))))
       refine ⟨(flEq_cons rfl (flEq_cons rfl (flEq_cons rfl flEq_nil))), ?_⟩
       refine Pt.b0 ?_ ?_
       ·refine Lo.n rfl (lk rfl) (A.bldG ty26 rfl ⟨by exact rfl, by exact trivial, by exact trivial, trivial⟩ rfl rfl ?_)
        refine Pt.st ?_
        refine Si.e ?_
        refine ⟨flEq_nil, ?_⟩
        refine Pt.b0 ?_ ?_
        ·refine Lo.s rfl (A.stoG [.p (.v (.int .i64 _)), .p (.bs _), .own 3 0 _] ty26 rfl rfl (by decide) (by intro j hj; match j, hj with | 0, _ => (exact rfl) | 1, _ => (exact trivial) | 2, _ => (exact trivial)) rfl rfl (by intro j hj; match j, hj with | 0, _ => rfl | 1, _ => rfl | 2, _ => rfl) rfl ?_)
         refine Pt.e ?_
         refine Si.e ?_
         refine ⟨flEq_nil, ?_⟩
         show HT _ _ _ _ _
         refine HT.seq ?_
         refine HT.planS S_dnexto_ok S_dnexto_det mixed [1, 2, 3, 5, 6, 7] [⟨[0, 1, 2, 3], 4, [1, 2, 3]⟩] (by kernel_rfl) ?_
         refine Pl.lk ?_
         refine Si.n rfl (lk rfl) (V.ldPtrG ty26 rfl rfl rfl rfl (by (simp; done)) rfl (Si.n rfl (lk rfl) (V.faPtr ty26 rfl ty2 (lk rfl) rfl rfl (lk rfl) (Si.n rfl (lk rfl) (V.ldPtr ty2 rfl rfl rfl (lk rfl) (v := .p (.v (.int .i64 _))) rfl (Si.n rfl (lk rfl) (V.mv (v := .p (.bs _)) rfl (Si.e ?_))))))))
         refine ⟨flEq_nil, fun ff => ?_⟩
         refine Lo.s rfl (A.stoG [.p (.v (.int .i64 _)), .p (.bs _), .own 3 0 _] ty26 rfl rfl (by decide) (by intro j hj; match j, hj with | 0, _ => (exact rfl) | 1, _ => (exact trivial) | 2, _ => (exact trivial)) rfl rfl (by intro j hj; match j, hj with | 0, _ => rfl | 1, _ => rfl | 2, _ => rfl) rfl ?_)
         refine ⟨_, fun ff => ff, ap0, rfl, FG.id, ?_⟩
         show planA _ _ _ _ _ [(1, .ptr 1 0), (2, .p (.v (.int .i64 _))), (3, .p (.bs _))] _ _ _
         refine Pl.e ?_
         refine Si.n rfl (lk rfl) (V.faPtr ty26 rfl ty2 (lk rfl) rfl rfl (lk rfl) (Si.n rfl (lk rfl) (V.ldPtr ty2 rfl rfl rfl (lk rfl) (v := .p (.v (.int .i64 _))) rfl (Si.n rfl (lk rfl) (V.mv (v := .p (.bs _)) rfl (Si.n rfl (lk rfl) (V.as (v := .p (.v (.int .i64 _))) rfl (Si.n rfl (lk rfl) (V.as (v := .p (.bs _)) rfl (Si.n rfl (lk rfl) (V.as (v := .p (.v (.int .i64 0))) rfl (Si.e ?_))))))))))))
         refine ⟨(flEq_cons rfl (flEq_cons rfl (flEq_cons rfl flEq_nil))), ?_⟩
         show HT _ _ _ _ _
         refine HT.ret ?_
         exact retC_ok (sg [(5, 3)]) [(2, .ptr 2 0), (3, .p (.v (.int .i64 g))), (4, .p (.bs (keyF g s))), (5, .p (.v (.int .i64 0)))] [(2, ⟨26, 1, 3, true, .cells [.p (.v (.int .i64 (g + 1))), .p (.bs (nxtF g s)), .own 3 0 (K.length)]⟩), (3, ⟨35, 2, K.length * 2, true, .rows (kR K)⟩)] h ⟨⟨⟨.refl _, rfl⟩, ⟨le_int (by rfl), trivial⟩, ⟨le_bs (by exact take_full _), trivial⟩, ⟨le_int (by rfl), trivial⟩, trivial⟩, ⟨⟨_, rfl, .inl (by (simp only [take_full, Nat.zero_add]; rfl)), ⟨trivial, trivial, rfl, trivial⟩⟩, ⟨_, rfl, .inr (ob_rows (by ((try dsimp only); (omega))) (by ((try dsimp only); ((intro j hj; exact kept_ap K j))))), trivial⟩, trivial⟩⟩ ⟨rvA_cellG ty26 rfl rfl rfl rfl (Nat.le_refl _) (le_ag (fun j hj => by match j, hj with | 0, _ => rfl | 1, _ => rfl | 2, _ => rfl)), .refl _, .refl _, .refl _, trivial⟩ ⟨rfl, trivial⟩ rfl ⟨trivial, trivial⟩ ⟨(fun j hj => by match j, hj with | 0, _ => exact trivial | 1, _ => exact trivial | 2, _ => exact rfl), trivial, trivial, trivial, trivial⟩ rfl
        ·exact Pt.no
       ·exact Pt.no
      ·exact Pt.no
    ·refine Pt.bk (fun ff => ?_) ?_
     ·refine Lo.n rfl (lk rfl) (A.alloc 4 1 ty26 rfl trivial (f := fun j => ([.v (.int .i64 0), .v (.slice none 0 0), .v (.slice none 0 0)] : List PV).getD j (.v undef)) (fun j hj => by match j, hj with | 0, _ => rfl | 1, _ => rfl | 2, _ => rfl) ?_)
      refine ⟨_, fun ff => ff, ap0d, rfl, FG.id, ?_⟩
      show planT _ _ _ _ [(0, .ptr 1 0), (1, .p (.v (.int .i64 _))), (2, .p (.v (.int .i64 _))), (3, .ptr 1 1), (4, .p (.bs _)), (5, .p (.bs _)), (6, .p (.bs _)), (8, .ptr 1 2), (9, .p (.sl _ 2 _))] _ _ _
      refine Pt.st ?_
      refine Si.n rfl (lk rfl) (V.faPtr ty26 rfl ty2 (lk rfl) rfl rfl (lk rfl) (Si.n rfl (lk rfl) (V.ldPtr ty2 rfl rfl rfl (lk rfl) (v := .p (.v (.int .i64 _))) rfl (Si.n rfl (lk rfl) (V.addI rfl rfl (by omega) (Si.n rfl (lk rfl) (V.faPtr ty26 rfl ty22 (lk rfl) rfl rfl (lk rfl) (Si.n rfl (lk rfl) (V.ldPtr ty22 rfl rfl rfl (lk rfl) (v := .p (.bs _)) rfl (Si.n rfl (lk rfl) (V.mv (v := .p (.bs _)) rfl ?_)))))))))))
      refine Si.n rfl (lk rfl) (V.call [.p (.bs _), .p (.str _), .p (.bs _), .p (.v (.int .i64 _))] 5 rfl rfl rfl rfl ⟨trivial, trivial, trivial, trivial, trivial⟩ trivial (s, nNext, numF g 4, 32) ⟨.refl _, .refl _, le_bs (by exact take_full _), .refl _, trivial⟩ trivial (by omega) (Φ := fun _ => True) (fun _ _ => trivial) (.inl ⟨trivial, trivial, trivial, trivial, trivial⟩) (v := .p (.bs _)) rfl (fun h8 => ?_))
      refine Si.n rfl (lk rfl) (V.faPtr ty26 rfl ty24 (lk rfl) rfl rfl (lk rfl) (Si.n rfl (lk rfl) (V.ldPtr ty24 rfl rfl rfl (lk rfl) (v := .p (.sl _ 2 _)) rfl (Si.e ?_))))
      refine ⟨(flEq_cons rfl (flEq_cons rfl (flEq_cons rfl (flEq_cons rfl (flEq_cons rfl (flEq_cons rfl (flEq_cons rfl (flEq_cons rfl (flEq_cons rfl flEq_nil))))))))), ?_⟩
      refine Pt.bk (fun ff => ?_) ?_
      ·refine Lo.n rfl (lk rfl) (A.apRows ty24 ty35 rfl rfl rfl (lk rfl) (lk rfl) rfl rfl (u := .p (.sl _ 2 _)) rfl rfl (by exact fun j _ => kR_oneP K j) rfl (by (simp; omega)) rfl rfl rfl ?_)
       refine ⟨_, fun ff => Fr.kill 3 ff, ap1d, rfl, (FG.kill 3 (flP_cons rfl (flP_cons rfl (flP_cons rfl flP_nil)))), ?_⟩
       show planT _ _ _ _ [(0, .ptr 1 0), (1, .p (.v (.int .i64 _))), (2, .p (.v (.int .i64 _)))] _ _ _
       refine Pt.st ?_
       refine Si.n rfl (lk rfl) (V.faPtr ty26 rfl ty2 (lk rfl) rfl rfl (lk rfl) (Si.n rfl (lk rfl) (V.ldPtr ty2 rfl rfl rfl (lk rfl) (v := .p (.v (.int .i64 _))) rfl (Si.n rfl (lk rfl) (V.addI rfl rfl (by omega) (Si.e ?_))))))
       refine ⟨(flEq_cons rfl (flEq_cons rfl (flEq_cons rfl flEq_nil))), ?_⟩
       refine Pt.b0 ?_ ?_
       ·refine Lo.n rfl (lk rfl) (A.bldG ty26 rfl ⟨by exact rfl, by exact trivial, by exact trivial, trivial⟩ rfl rfl ?_)
        refine Pt.st ?_
        refine Si.e ?_
        refine ⟨flEq_nil, ?_⟩
        refine Pt.b0 ?_ ?_
        ·refine Lo.s rfl (A.stoG [.p (.v (.int .i64 _)), .p (.bs _), .own 3 0 _] ty26 rfl rfl (by decide) (by intro j hj; match j, hj with | 0, _ => (exact rfl) | 1, _ => (exact trivial) | 2, _ => (exact trivial)) rfl rfl (by intro j hj; match j, hj with | 0, _ => rfl | 1, _ => rfl | 2, _ => rfl) rfl ?_)
         refine Pt.e ?_
         refine Si.e ?_
         refine ⟨flEq_nil, ?_⟩
         show HT _ _ _ _ _
         refine HT.seq ?_
         refine HT.planS S_dnexto_ok S_dnexto_det mixed [1, 2, 3, 5, 6, 7] [⟨[0, 1, 2, 3], 4, [1, 2, 3]⟩] (by kernel_rfl) ?_
         refine Pl.lk ?_
         refine Si.n rfl (lk rfl) (V.ldPtrG ty26 rfl rfl rfl rfl (by (simp; done)) rfl (Si.n rfl (lk rfl) (V.faPtr ty26 rfl ty2 (lk rfl) rfl rfl (lk rfl) (Si.n rfl (lk rfl) (V.ldPtr ty2 rfl rfl rfl (lk rfl) (v := .p (.v (.int .i64 _))) rfl (Si.n rfl (lk rfl) (V.mv (v := .p (.bs _)) rfl (Si.e ?_))))))))
         refine ⟨flEq_nil, fun ff => ?_⟩
         refine Lo.s rfl (A.stoG [.p (.v (.int .i64 _)), .p (.bs _), .own 3 0 _] ty26 rfl rfl (by decide) (by intro j hj; match j, hj with | 0, _ => (exact rfl) | 1, _ => (exact trivial) | 2, _ => (exact trivial)) rfl rfl (by intro j hj; match j, hj with | 0, _ => rfl | 1, _ => rfl | 2, _ => rfl) rfl ?_)
         refine ⟨_, fun ff => ff, ap0, rfl, FG.id, ?_⟩
         show planA _ _ _ _ _ [(1, .ptr 1 0), (2, .p (.v (.int .i64 _))), (3, .p (.bs _))] _ _ _
         refine Pl.e ?_
         refine Si.n rfl (lk rfl) (V.faPtr ty26 rfl ty2 (lk rfl) rfl rfl (lk rfl) (Si.n rfl (lk rfl) (V.ldPtr ty2 rfl rfl rfl (lk rfl) (v := .p (.v (.int .i64 _))) rfl (Si.n rfl (lk rfl) (V.mv (v := .p (.bs _)) rfl (Si.n rfl (lk rfl) (V.as (v := .p (.v (.int .i64 _))) rfl (Si.n rfl (lk rfl) (V.as (v := .p (.bs _)) rfl (Si.n rfl (lk rfl) (V.as (v := .p (.v (.int .i64 0))) rfl (Si.e ?_))))))))))))
         refine ⟨(flEq_cons rfl (flEq_cons rfl (flEq_cons rfl flEq_nil))), ?_⟩
         show HT _ _ _ _ _
         refine HT.ret ?_
         exact retC_ok (sg [(5, 3)]) [(2, .ptr 2 0), (3, .p (.v (.int .i64 g))), (4, .p (.bs (keyF g s))), (5, .p (.v (.int .i64 0)))] [(2, ⟨26, 1, 3, true, .cells [.p (.v (.int .i64 (g + 1))), .p (.bs (nxtF g s)), .own 3 0 (K.length)]⟩), (3, ⟨35, 2, K.length * 2, true, .rows (kR K)⟩)] h ⟨⟨⟨.refl _, rfl⟩, ⟨le_int (by rfl), trivial⟩, ⟨le_bs (by exact take_full _), trivial⟩, ⟨le_int (by rfl), trivial⟩, trivial⟩, ⟨⟨_, rfl, .inl (by (simp only [take_full, Nat.zero_add]; rfl)), ⟨trivial, trivial, rfl, trivial⟩⟩, ⟨_, rfl, .inr (ob_rows (by ((try dsimp only); (omega))) (by ((try dsimp only); ((intro j hj; exact kept_ap K j))))), trivial⟩, trivial⟩⟩ ⟨rvA_cellG ty26 rfl rfl rfl rfl (Nat.le_refl _) (le_ag (fun j hj => by match j, hj with | 0, _ => rfl | 1, _ => rfl | 2, _ => rfl)), .refl _, .refl _, .refl _, trivial⟩ ⟨rfl, trivial⟩ rfl ⟨trivial, trivial⟩ ⟨(fun j hj => by match j, hj with | 0, _ => exact trivial | 1, _ => exact trivial | 2, _ => exact rfl), trivial, trivial, trivial, trivial⟩ rfl
        ·exact Pt.no
       ·exact Pt.no
      ·exact Pt.no
     ·exact Pt.no
   ·refine Pt.bk (fun ff => ?_) ?_
    ·refine Lo.n rfl (lk rfl) (A.alloc 3 1 ty26 rfl trivial (f := fun j => ([.v (.int .i64 0), .v (.slice none 0 0), .v (.slice none 0 0)] : List PV).getD j (.v undef)) (fun j hj => by match j, hj with | 0, _ => rfl | 1, _ => rfl | 2, _ => rfl) ?_)
     refine ⟨_, fun ff => ff, ap0d, rfl, FG.id, ?_⟩
     show planT _ _ _ _ [(0, .ptr 1 0), (1, .p (.v (.int .i64 _))), (2, .p (.v (.int .i64 _))), (3, .ptr 1 1), (4, .p (.bs _)), (5, .p (.bs _)), (6, .p (.bs _)), (8, .ptr 1 2), (9, .p (.sl _ 2 _))] _ _ _
     refine Pt.st ?_
     refine Si.n rfl (lk rfl) (V.faPtr ty26 rfl ty2 (lk rfl) rfl rfl (lk rfl) (Si.n rfl (lk rfl) (V.ldPtr ty2 rfl rfl rfl (lk rfl) (v := .p (.v (.int .i64 _))) rfl (Si.n rfl (lk rfl) (V.addI rfl rfl (by omega) (Si.n rfl (lk rfl) (V.faPtr ty26 rfl ty22 (lk rfl) rfl rfl (lk rfl) (Si.n rfl (lk rfl) (V.ldPtr ty22 rfl rfl rfl (lk rfl) (v := .p (.bs _)) rfl (Si.n rfl (lk rfl) (V.mv (v := .p (.bs _)) rfl ?_)))))))))))
     refine Si.n rfl (lk rfl) (V.call [.p (.bs _), .p (.str _), .p (.bs _), .p (.v (.int .i64 _))] 4 rfl rfl rfl rfl ⟨trivial, trivial, trivial, trivial, trivial⟩ trivial (s, nNext, numF g 4, 32) ⟨.refl _, .refl _, le_bs (by exact take_full _), .refl _, trivial⟩ trivial (by omega) (Φ := fun _ => True) (fun _ _ => trivial) (.inl ⟨trivial, trivial, trivial, trivial, trivial⟩) (v := .p (.bs _)) rfl (fun h9 => ?_))
     refine Si.n rfl (lk rfl) (V.faPtr ty26 rfl ty24 (lk rfl) rfl rfl (lk rfl) (Si.n rfl (lk rfl) (V.ldPtr ty24 rfl rfl rfl (lk rfl) (v := .p (.sl _ 2 _)) rfl (Si.e ?_))))
     refine ⟨(flEq_cons rfl (flEq_cons rfl (flEq_cons rfl (flEq_cons rfl (flEq_cons rfl (flEq_cons rfl (flEq_cons rfl (flEq_cons rfl (flEq_cons rfl flEq_nil))))))))), ?_⟩
     refine Pt.bk (fun ff => ?_) ?_
     ·refine Lo.n rfl (lk rfl) (A.bsl 4 ty24 ty35 rfl (lk rfl) (lk rfl) (fun h => Bool.noConfusion (show false = true from h)) rfl rfl trivial trivial rfl (N := 0) rfl (c := .rows _) rfl ?_)
      refine ⟨_, fun ff => ff, ap0d, rfl, FG.id, ?_⟩
      show planT _ _ _ _ [(0, .ptr 1 0), (1, .p (.v (.int .i64 _))), (2, .p (.v (.int .i64 _))), (3, .ptr 1 1), (4, .p (.bs _)), (5, .p (.bs _)), (6, .p (.bs _)), (8, .ptr 1 2), (9, .p (.sl _ 2 _))] _ _ _
      refine Pt.st ?_
      refine Si.n rfl (lk rfl) (V.faPtr ty26 rfl ty2 (lk rfl) rfl rfl (lk rfl) (Si.n rfl (lk rfl) (V.ldPtr ty2 rfl rfl rfl (lk rfl) (v := .p (.v (.int .i64 _))) rfl (Si.n rfl (lk rfl) (V.addI rfl rfl (by omega) (Si.n rfl (lk rfl) (V.faPtr ty26 rfl ty22 (lk rfl) rfl rfl (lk rfl) (Si.n rfl (lk rfl) (V.ldPtr ty22 rfl rfl rfl (lk rfl) (v := .p (.bs _)) rfl (Si.n rfl (lk rfl) (V.mv (v := .p (.bs _)) rfl ?_)))))))))))
      refine Si.n rfl (lk rfl) (V.call [.p (.bs _), .p (.str _), .p (.bs _), .p (.v (.int .i64 _))] 5 rfl rfl rfl rfl ⟨trivial, trivial, trivial, trivial, trivial⟩ trivial (s, nNext, numF g 4, 32) ⟨.refl _, .refl _, le_bs (by exact take_full _), .refl _, trivial⟩ trivial (by omega) (Φ := fun _ => True) (fun _ _ => trivial) (.inl ⟨trivial, trivial, trivial, trivial, trivial⟩) (v := .p (.bs _)) rfl (fun h10 => ?_))
      refine Si.n rfl (lk rfl) (V.faPtr ty26 rfl ty24 (lk rfl) rfl rfl (lk rfl) (Si.n rfl (lk rfl) (V.ldPtr ty24 rfl rfl rfl (lk rfl) (v := .p (.sl _ 2 _)) rfl (Si.e ?_))))
      refine ⟨(flEq_cons rfl (flEq_cons rfl (flEq_cons rfl (flEq_cons rfl (flEq_cons rfl (flEq_cons rfl (flEq_cons rfl (flEq_cons rfl (flEq_cons rfl flEq_nil))))))))), ?_⟩
      refine Pt.bk (fun ff => ?_) ?_
      ·refine Lo.n rfl (lk rfl) (A.apRows ty24 ty35 rfl rfl rfl (lk rfl) (lk rfl) rfl rfl (u := .p (.sl _ 2 _)) rfl rfl (by exact fun j _ => kR_oneP K j) rfl (by (simp; omega)) rfl rfl rfl ?_)
       refine ⟨_, fun ff => Fr.kill 4 ff, ap1d, rfl, (FG.kill 4 (flP_cons rfl (flP_cons rfl (flP_cons rfl flP_nil)))), ?_⟩
       show planT _ _ _ _ [(0, .ptr 1 0), (1, .p (.v (.int .i64 _))), (2, .p (.v (.int .i64 _)))] _ _ _
       refine Pt.st ?_
       refine Si.n rfl (lk rfl) (V.faPtr ty26 rfl ty2 (lk rfl) rfl rfl (lk rfl) (Si.n rfl (lk rfl) (V.ldPtr ty2 rfl rfl rfl (lk rfl) (v := .p (.v (.int .i64 _))) rfl (Si.n rfl (lk rfl) (V.addI rfl rfl (by omega) (Si.e ?_))))))
       refine ⟨(flEq_cons rfl (flEq_cons rfl (flEq_cons rfl flEq_nil))), ?_⟩
       refine Pt.b0 ?_ ?_
       ·refine Lo.n rfl (lk rfl) (A.bldG ty26 rfl ⟨by exact rfl, by exact trivial, by exact trivial, trivial⟩ rfl rfl ?_)
        refine Pt.st ?_
        refine Si.e ?_
        refine ⟨flEq_nil, ?_⟩
        refine Pt.b0 ?_ ?_
        ·refine Lo.s rfl (A.stoG [.p (.v (.int .i64 _)), .p (.bs _), .own 4 0 _] ty26 rfl rfl (by decide) (by intro j hj; match j, hj with | 0, _ => (exact rfl) | 1, _ => (exact trivial) | 2, _ => (exact trivial)) rfl rfl (by intro j hj; match j, hj with | 0, _ => rfl | 1, _ => rfl | 2, _ => rfl) rfl ?_)
         refine Pt.e ?_
         refine Si.e ?_
         refine ⟨flEq_nil, ?_⟩
         show HT _ _ _ _ _
         refine HT.seq ?_
         refine HT.planS S_dnexto_ok S_dnexto_det mixed [1, 2, 3, 5, 6, 7] [⟨[0, 1, 2, 3], 4, [1, 2, 3]⟩] (by kernel_rfl) ?_
         refine Pl.lk ?_
         refine Si.n rfl (lk rfl) (V.ldPtrG ty26 rfl rfl rfl rfl (by (simp; done)) rfl (Si.n rfl (lk rfl) (V.faPtr ty26 rfl ty2 (lk rfl) rfl rfl (lk rfl) (Si.n rfl (lk rfl) (V.ldPtr ty2 rfl rfl rfl (lk rfl) (v := .p (.v (.int .i64 _))) rfl (Si.n rfl (lk rfl) (V.mv (v := .p (.bs _)) rfl (Si.e ?_))))))))
         refine ⟨flEq_nil, fun ff => ?_⟩
         refine Lo.s rfl (A.stoG [.p (.v (.int .i64 _)), .p (.bs _), .own 4 0 _] ty26 rfl rfl (by decide) (by intro j hj; match j, hj with | 0, _ => (exact rfl) | 1, _ => (exact trivial) | 2, _ => (exact trivial)) rfl rfl (by intro j hj; match j, hj with | 0, _ => rfl | 1, _ => rfl | 2, _ => rfl) rfl ?_)
         refine ⟨_, fun ff => ff, ap0, rfl, FG.id, ?_⟩
         show planA _ _ _ _ _ [(1, .ptr 1 0), (2, .p (.v (.int .i64 _))), (3, .p (.bs _))] _ _ _
         refine Pl.e ?_
         refine Si.n rfl (lk rfl) (V.faPtr ty26 rfl ty2 (lk rfl) rfl rfl (lk rfl) (Si.n rfl (lk rfl) (V.ldPtr ty2 rfl rfl rfl (lk rfl) (v := .p (.v (.int .i64 _))) rfl (Si.n rfl (lk rfl) (V.mv (v := .p (.bs _)) rfl (Si.n rfl (lk rfl) (V.as (v := .p (.v (.int .i64 _))) rfl (Si.n rfl (lk rfl) (V.as (v := .p (.bs _)) rfl (Si.n rfl (lk rfl) (V.as (v := .p (.v (.int .i64 0))) rfl (Si.e ?_))))))))))))
         refine ⟨(flEq_cons rfl (flEq_cons rfl (flEq_cons rfl flEq_nil))), ?_⟩
         show HT _ _ _ _ _
         refine HT.ret ?_
         exact retC_ok (sg [(5, 4)]) [(2, .ptr 2 0), (3, .p (.v (.int .i64 g))), (4, .p (.bs (keyF g s))), (5, .p (.v (.int .i64 0)))] [(2, ⟨26, 1, 3, true, .cells [.p (.v (.int .i64 (g + 1))), .p (.bs (nxtF g s)), .own 4 0 (K.length)]⟩), (4, ⟨35, 2, K.length * 2, true, .rows (kR K)⟩)] h ⟨⟨⟨.refl _, rfl⟩, ⟨le_int (by rfl), trivial⟩, ⟨le_bs (by exact take_full _), trivial⟩, ⟨le_int (by rfl), trivial⟩, trivial⟩, ⟨⟨_, rfl, .inl (by (simp only [take_full, Nat.zero_add]; rfl)), ⟨trivial, trivial, rfl, trivial⟩⟩, ⟨_, rfl, .inr (ob_rows (by ((try dsimp only); (omega))) (by ((try dsimp only); ((intro j hj; exact kept_ap K j))))), trivial⟩, trivial⟩⟩ ⟨rvA_cellG ty26 rfl rfl rfl rfl (Nat.le_refl _) (le_ag (fun j hj => by match j, hj with | 0, _ => rfl | 1, _ => rfl | 2, _ => rfl)), .refl _, .refl _, .refl _, trivial⟩ ⟨rfl, trivial⟩ rfl ⟨trivial, trivial⟩ ⟨(fun j hj => by match j, hj with | 0, _ => exact trivial | 1, _ => exact trivial | 2, _ => exact rfl), trivial, trivial, trivial, trivial⟩ rfl
        ·exact Pt.no
       ·exact Pt.no
      ·exact Pt.no
     ·exact Pt.no
    ·exact Pt.no
def dtakeSp : Sp := ⟨[], mkE (α := Int × (List UInt8) × KL × Int) (fun (g, s, K, gen) => [.agg 3 (fun j => ([.v (.int .i64 g), .bs s, .sl (K).length 2 (kR K)] : List PV).getD j (.v undef)), .p (.v (.int .i64 gen))]) (fun (g, s, K, gen) => []) (fun (g, s, K, gen) => K.length ≤ 1000000 ∧ gen ≤ 9223372036854775807) (fun (g, s, K, gen) => [.agg 3 (fun j => ([.v (.int .i64 ((takeF g s K gen).g)), .bs ((takeF g s K gen).s), .sl ((takeF g s K gen).K).length 2 (kR ((takeF g s K gen).K))] : List PV).getD j (.v undef)), .p (.bs ((takeF g s K gen).b)), .p (.v (.int .i64 ((takeF g s K gen).e)))]) (fun (g, s, K, gen) => [])⟩
def S_dtake : FuncId → Option Sp := fun f => if f = 17 then some drightSp else if f = 19 then some dnextoSp else none
theorem S_dtake_ok : ∀ f s, S_dtake f = some s → FOK Tryd.prog gl f s := fun f s h => by
 unfold S_dtake at h
 split at h
 ·rename_i e; cases h; subst e; exact dright_ok
 split at h
 ·rename_i e; cases h; subst e; exact dnexto_ok
 cases h
theorem S_dtake_det : ∀ f s, S_dtake f = some s → SpDet s.sp := fun f s h => by
 unfold S_dtake at h
 split at h
 ·cases h; exact mkE_det _ _ _ _ _
 split at h
 ·cases h; exact mkE_det _ _ _ _ _
 cases h
set_option maxHeartbeats 1000000 in
set_option maxRecDepth 20000 in
theorem dtake_ok : FOK Tryd.prog gl 20 dtakeSp := by
 refine FOK.ofEC (tyOf_ok Tryd.prog) (rvs := [.cell 4 26, .tmp 5, .tmp 6]) (nt := 114) Tryd.func20 rfl rfl rfl rfl (by decide) 2 (fun ⟨_, _, _, _⟩ => rfl) (by decide) (fun ⟨_, _, _, _⟩ => ⟨trivial, trivial, trivial⟩) ?_
 rintro ⟨g, s, K, gen⟩ kk hlen hpre h
 replace hpre : K.length ≤ 1000000 ∧ gen ≤ 9223372036854775807 := hpre
 show HT (cx Tryd.prog 114 (tyOf Tryd.prog) gl []) _ [(0, .agg 3 (fun j => ([.v (.int .i64 g), .bs s, .sl (K).length 2 (kR K)] : List PV).getD j (.v undef))), (1, .p (.v (.int .i64 gen)))] [] _
 refine HT.seq (HT.region S_dtake_ok (So.n (lk rfl) (A.boxAg 1 1 (n := 3) rfl (by intro j hj; (match j, hj with | 0, _ => (trivial) | 1, _ => (trivial) | 2, _ => (trivial))) rfl trivial (So.n (lk rfl) (A.alloc 2 1 ty26 rfl trivial (f := fun j => ([.v (.int .i64 0), .v (.slice none 0 0), .v (.slice none 0 0)] : List PV).getD j (.v undef)) (fun j hj => by match j, hj with | 0, _ => rfl | 1, _ => rfl | 2, _ => rfl) (So.q rfl rfl (V.as (v := .p (.v (.slice none 0 0))) rfl (So.q rfl rfl (V.as (v := .p (.v (.int .i64 0))) rfl (So.e (HT.seq (HT.region S_dtake_ok (So.q rfl rfl (V.ldPtrA ty26 rfl rfl rfl rfl (lk rfl) ?_))))))))))))))
 refine So.n (lk rfl) (A.call0 [.agg 3 _] 3 rfl rfl rfl rfl ⟨trivial, trivial⟩ trivial (g, s, K) ⟨le_agg (fun j hj => by match j, hj with | 0, _ => rfl | 1, _ => rfl | 2, _ => rfl), trivial⟩ trivial (by omega) (Φ := fun _ => True) (fun _ _ => trivial) (.inl rfl) (v := .p (.v (.bool _))) rfl (O' := _) rfl (fun h1 => ?_))
 refine So.q rfl rfl (V.as (v := .p (.v (.bool _))) rfl (So.e (HT.seq (HT.seq (HT.region S_dtake_ok (So.q rfl rfl (V.mv (v := .p (.v (.bool _))) rfl (So.q rfl rfl (V.not rfl (So.e ?_))))))))))
 show HT _ _ _ _ _
 refine R.cond rfl rfl (fun h2 => ?_) (fun h2 => ?_)
 ·have h2 := of_decide_eq_false (bnT h2)
  refine HT.seq (HT.region S_dtake_ok (So.n (lk rfl) (A.bldS ty26 rfl rfl trivial rfl (f := fun j => ([.v (.int .i64 0), .v (.slice none 0 0), .v (.slice none 0 0)] : List PV).getD j (.v undef)) (by exact allP_spec (P := fun j => _ = _) ⟨⟨⟨trivial, rfl⟩, rfl⟩, rfl⟩) (So.s (A.stoAg ty26 rfl (n := 3) rfl (by decide) (by intro j hj; (match j, hj with | 0, _ => (trivial) | 1, _ => (trivial) | 2, _ => (trivial))) rfl rfl rfl (So.q rfl rfl (V.as (v := .p (.v (.slice none 0 0))) rfl (So.q rfl rfl (V.as (v := .p (.v (.int .i64 1))) rfl (So.e ?_))))))))))
  show HT _ _ _ _ _
  refine HT.ret ?_
  have hR := tk_1 (g := g) (s := s) (K := K) (gen := gen) (by assumption)
  have hG := congrArg TK.g hR
  have hS := congrArg TK.s hR
  have hK := congrArg TK.K hR
  have hB := congrArg TK.b hR
  have hE := congrArg TK.e hR
  dsimp only at hG hS hK hB hE
  exact retC_ok (sg []) [(4, .ptr 2 0), (5, .p (.bs ((takeF g s K gen).b))), (6, .p (.v (.int .i64 ((takeF g s K gen).e))))] [(2, ⟨26, 1, 3, true, .rows (fun j => ([.v (.int .i64 ((takeF g s K gen).g)), .bs ((takeF g s K gen).s), .sl ((takeF g s K gen).K).length 2 (kR ((takeF g s K gen).K))] : List PV).getD j (.v undef))⟩)] h ⟨⟨⟨.refl _, rfl⟩, ⟨le_nil (by omega), trivial⟩, ⟨le_int (by omega), trivial⟩, trivial⟩, ⟨⟨_, rfl, .inr (ob_rowsL (by intro j hj; match j, hj with | 0, _ => (exact le_int (by omega)) | 1, _ => (exact le_nil hS) | 2, _ => (exact le_nilSl (congrArg List.length hK)))), trivial⟩, trivial⟩⟩ ⟨rvA_cell ty26 rfl rfl rfl rfl (Nat.le_refl _) (le_agg (fun j _ => by (dsimp only; rw [Nat.zero_add]))), .refl _, .refl _, trivial⟩ trivial rfl trivial ⟨trivial, trivial, trivial, trivial⟩ rfl
 ·have h2 := of_decide_eq_true (bnF h2)
  refine HT.skip (HT.seq (HT.seq (HT.region S_dtake_ok ?_)))
  have hrt : rightR g s K := by assumption
  obtain ⟨hq1, hq2, hq3, hq4, hq5⟩ := id hrt
  have hige := idx_ge (gen := gen) hq1
  refine So.q rfl rfl (V.mv (v := .p (.v (.int .i64 _))) rfl (So.q rfl rfl (V.faPtr ty26 rfl ty2 (lk rfl) rfl rfl (lk rfl) (So.q rfl rfl (V.ldPtr ty2 rfl rfl rfl (lk rfl) (v := .p (.v (.int .i64 _))) rfl (So.q rfl rfl (V.bin (a := .v (.int .i64 _)) (b := .v (.int .i64 _)) (r := .v (.bool _)) rfl rfl rfl trivial (So.e ?_))))))))
  show HT _ _ _ _ _
  refine R.cond rfl rfl (fun h3 => ?_) (fun h3 => ?_)
  ·have h3 := of_decide_eq_true h3
   refine HT.seq (HT.seq (HT.region S_dtake_ok (So.q rfl rfl (V.as (v := .p (.v (.int .i64 0))) rfl (So.e (HT.block ?_))))))
   refine R.loop (σ := Nat) (fun n => [(8, .p (.v (.int .i64 ((n : Int)))))]) (fun n => []) [1, 2, 4] [1, 2] (fun n => n ≤ K.length ∧ ∀ j, j < n → kG K j ≠ gen) (fun n => K.length - n) (0) (fr0 := [(1, .p (.v (.int .i64 _))), (2, .ptr 1 0), (4, .ptr 2 0)]) (O0 := [(1, ⟨_, _, _, _, .rows _⟩), (2, ⟨_, _, _, _, .rows _⟩)]) rfl rfl (by exact ⟨Nat.zero_le _, fun j hj => absurd hj (Nat.not_lt_zero j)⟩) ⟨⟨⟨le_int (by rfl), trivial⟩, ⟨.refl _, trivial⟩, ⟨.refl _, rfl⟩, ⟨.refl _, rfl⟩, trivial⟩, ⟨⟨_, rfl, .inl rfl, trivial⟩, ⟨_, rfl, .inl rfl, trivial⟩, trivial⟩⟩ (fun n hP0 => ?_)
   refine HT.seq (HT.seq (HT.region S_dtake_ok (So.q rfl rfl (V.mv (v := .p (.v (.int .i64 ((_ : Nat) : Int)))) rfl (So.q rfl rfl (V.faPtr ty26 rfl ty24 (lk rfl) rfl rfl (lk rfl) (So.q rfl rfl (V.ldPtr ty24 rfl rfl rfl (lk rfl) (v := .p (.sl _ 2 _)) rfl (So.q rfl rfl (V.len ty24 (v := .p (.sl _ 2 _)) rfl rfl (So.q rfl rfl (V.bin (a := (.v (.int .i64 ((_ : Nat) : Int)))) (b := .v (.int .i64 _)) (r := .v (.bool _)) rfl rfl rfl trivial (So.e ?_)))))))))))))
   show HT _ _ _ _ _
   refine R.cond rfl rfl (fun h4 => ?_) (fun h4 => ?_)
   ·have h4 := of_decide_eq_true h4
    refine HT.skip (HT.seq (HT.block (HT.seq (HT.region S_dtake_ok (So.q rfl rfl (V.faPtr ty26 rfl ty24 (lk rfl) rfl rfl (lk rfl) (So.q rfl rfl (V.ldPtr ty24 rfl rfl rfl (lk rfl) (v := .p (.sl _ 2 _)) rfl (So.q rfl rfl (V.mv (v := .p (.v (.int .i64 ((_ : Nat) : Int)))) rfl (So.q rfl rfl (V.ixSlS ty24 ty35 (s := 2) rfl (by decide) rfl rfl (by omega) (Int.toNat_natCast _) (So.q rfl rfl (V.faRp ty35 rfl ty2 (lk rfl) rfl (by omega) ?_))))))))))))))
    refine So.q rfl rfl (V.ldRp ty2 rfl rfl (lk rfl) (v := .v (.int .i64 (kG K n))) (by exact kR_0 K n) (So.q rfl rfl (V.mv (v := .p (.v (.int .i64 _))) rfl (So.q rfl rfl (V.bin (a := .v (.int .i64 _)) (b := .v (.int .i64 _)) (r := .v (.bool _)) rfl rfl rfl trivial (So.e ?_))))))
    show HT _ _ _ _ _
    refine R.cond rfl rfl (fun h5 => ?_) (fun h5 => ?_)
    ·have h5 := of_decide_eq_true h5
     refine HT.seq (HT.region S_dtake_ok ?_)
     have hidx := idx_at hP0.2 (by omega) (by assumption)
     have hk32 := (hq1 n (by omega)).2.2
     have hidk : kB K (idxF K gen).toNat = kB K n := by rw [hidx]; rfl
     refine So.q rfl rfl (V.ldPtrA ty26 rfl rfl rfl rfl (lk rfl) (So.n (lk rfl) (A.alloc 3 1 ty26 rfl trivial (f := fun j => ([.v (.int .i64 0), .v (.slice none 0 0), .v (.slice none 0 0)] : List PV).getD j (.v undef)) (fun j hj => by match j, hj with | 0, _ => rfl | 1, _ => rfl | 2, _ => rfl) (So.s (A.stoAg ty26 rfl (n := 3) rfl (by decide) (by intro j hj; (match j, hj with | 0, _ => (trivial) | 1, _ => (trivial) | 2, _ => (trivial))) rfl rfl rfl (So.e (HT.seq ?_)))))))
     refine HT.planS S_dtake_ok S_dtake_det mixed [] [⟨[1, 2, 3, 4, 6, 7, 8, 9, 10], 0, [1, 2, 3, 4, 6, 7, 8, 9, 10]⟩, ⟨[1, 2, 3, 4, 6, 7, 8, 9, 10], 5, [6, 7, 8, 9, 10]⟩, ⟨[6, 7, 8, 9, 10], 11, []⟩, ⟨[12], 13, []⟩] (by kernel_rfl) ?_
     refine Pl.lk ?_
     refine Si.n rfl (lk rfl) (V.faPtr ty26 rfl ty24 (lk rfl) rfl rfl (lk rfl) (Si.n rfl (lk rfl) (V.ldPtr ty24 rfl rfl rfl (lk rfl) (v := .p (.sl _ 2 _)) rfl (Si.n rfl (lk rfl) (V.mv (v := .p (.v (.int .i64 ((_ : Nat) : Int)))) rfl (Si.n rfl (lk rfl) (V.cutSl ty24 ty35 rfl rfl rfl rfl (by omega) (.inl rfl) (Si.n rfl (lk rfl) (V.faPtr ty26 rfl ty24 (lk rfl) rfl rfl (lk rfl) (Si.n rfl (lk rfl) (V.ldPtr ty24 rfl rfl rfl (lk rfl) (v := .p (.sl _ 2 _)) rfl (Si.n rfl (lk rfl) (V.mv (v := .p (.v (.int .i64 ((_ : Nat) : Int)))) rfl (Si.n rfl (lk rfl) (V.addI rfl rfl (by omega) (Si.n rfl (lk rfl) (V.cutSl ty24 ty35 rfl rfl rfl rfl (by omega) (.inl rfl) (Si.e ?_))))))))))))))))))
     refine ⟨flEq_nil, fun ff => ?_⟩
     refine Lo.n rfl (lk rfl) (A.bsl 4 ty24 ty35 rfl (lk rfl) (lk rfl) (fun h => Bool.noConfusion (show false = true from h)) rfl rfl trivial trivial rfl (N := 0) rfl (c := .rows _) rfl ?_)
     refine ⟨_, fun ff => ff, ap0d, rfl, FG.id, ?_⟩
     show planA _ _ _ _ _ [(1, .ptr 1 2), (2, .p (.sl _ 2 _)), (3, .p (.v (.int .i64 ((_ : Nat) : Int)))), (4, .p (.sl _ 2 _)), (6, .ptr 1 2), (7, .p (.sl _ 2 _)), (8, .p (.v (.int .i64 ((_ : Nat) : Int)))), (9, .p (.v (.int .i64 _))), (10, .p (.sl _ 2 _))] _ _ _
     refine Pl.lk ?_
     refine Si.n rfl (lk rfl) (V.faPtr ty26 rfl ty24 (lk rfl) rfl rfl (lk rfl) (Si.n rfl (lk rfl) (V.ldPtr ty24 rfl rfl rfl (lk rfl) (v := .p (.sl _ 2 _)) rfl (Si.n rfl (lk rfl) (V.mv (v := .p (.v (.int .i64 ((_ : Nat) : Int)))) rfl (Si.n rfl (lk rfl) (V.cutSl ty24 ty35 rfl rfl rfl rfl (by omega) (.inl rfl) (Si.n rfl (lk rfl) (V.faPtr ty26 rfl ty24 (lk rfl) rfl rfl (lk rfl) (Si.n rfl (lk rfl) (V.ldPtr ty24 rfl rfl rfl (lk rfl) (v := .p (.sl _ 2 _)) rfl (Si.n rfl (lk rfl) (V.mv (v := .p (.v (.int .i64 ((_ : Nat) : Int)))) rfl (Si.n rfl (lk rfl) (V.addI rfl rfl (by omega) (Si.n rfl (lk rfl) (V.cutSl ty24 ty35 rfl rfl rfl rfl (by omega) (.inl rfl) (Si.e ?_))))))))))))))))))
     refine ⟨(flEq_cons rfl (flEq_cons rfl (flEq_cons rfl (flEq_cons rfl (flEq_cons rfl (flEq_cons rfl (flEq_cons rfl (flEq_cons rfl (flEq_cons rfl flEq_nil))))))))), fun ff => ?_⟩
     refine Lo.n rfl (lk rfl) (A.apRows ty24 ty35 rfl rfl rfl (lk rfl) (lk rfl) rfl rfl (u := .p (.sl _ 2 _)) rfl rfl (by exact fun j _ => kR_oneP K _) rfl (by (simp; omega)) rfl rfl rfl ?_)
     refine ⟨_, fun ff => Fr.kill 4 ff, ap1d, rfl, (FG.kill 4 (flP_cons rfl (flP_cons rfl (flP_cons rfl (flP_cons rfl (flP_cons rfl flP_nil)))))), ?_⟩
     show planA _ _ _ _ _ [(6, .ptr 1 2), (7, .p (.sl _ 2 _)), (8, .p (.v (.int .i64 ((_ : Nat) : Int)))), (9, .p (.v (.int .i64 _))), (10, .p (.sl _ 2 _))] _ _ _
     refine Pl.l0 ?_
     refine Si.n rfl (lk rfl) (V.faPtr ty26 rfl ty24 (lk rfl) rfl rfl (lk rfl) (Si.n rfl (lk rfl) (V.ldPtr ty24 rfl rfl rfl (lk rfl) (v := .p (.sl _ 2 _)) rfl (Si.n rfl (lk rfl) (V.mv (v := .p (.v (.int .i64 ((_ : Nat) : Int)))) rfl (Si.n rfl (lk rfl) (V.addI rfl rfl (by omega) (Si.n rfl (lk rfl) (V.cutSl ty24 ty35 rfl rfl rfl rfl (by omega) (.inl rfl) (Si.e ?_))))))))))
     refine ⟨(flEq_cons rfl (flEq_cons rfl (flEq_cons rfl (flEq_cons rfl (flEq_cons rfl flEq_nil))))), ?_⟩
     refine Lo.n rfl (lk rfl) (A.apRows ty24 ty35 rfl rfl rfl (lk rfl) (lk rfl) rfl rfl (u := .p (.sl _ 2 _)) rfl rfl (by exact fun j _ => kR_oneP K _) rfl (by (simp; omega)) rfl rfl rfl ?_)
     refine Pl.l0 ?_
     refine Si.n rfl (lk rfl) (V.faPtr ty26 rfl ty24 (lk rfl) rfl rfl (lk rfl) (Si.e ?_))
     refine ⟨flEq_nil, ?_⟩
     refine Lo.s rfl (A.stoF ty24 rfl rfl rfl rfl rfl rfl rfl (v := .p (.sl _ _ _)) rfl trivial rfl (lk rfl) rfl rfl ?_)
     refine Pl.e ?_
     refine Si.e ?_
     refine ⟨flEq_nil, ?_⟩
     show HT _ _ _ _ _
     refine HT.seq ?_
     refine HT.planS S_dtake_ok S_dtake_det mixed [10, 11] [⟨[0, 2, 3, 4, 5, 6, 7], 1, [0, 2, 3, 4, 5, 6, 7]⟩, ⟨[0, 2, 3, 4, 5, 6, 7], 8, [0]⟩, ⟨[0], 9, []⟩] (by kernel_rfl) ?_
     refine Pl.lk ?_
     refine Si.n rfl (lk rfl) (V.ldPtrA ty26 rfl rfl rfl rfl (lk rfl) (Si.n rfl (lk rfl) (V.faPtr ty26 rfl ty24 (lk rfl) rfl rfl (lk rfl) (Si.n rfl (lk rfl) (V.ldPtr ty24 rfl rfl rfl (lk rfl) (v := .p (.sl _ 2 _)) rfl (Si.n rfl (lk rfl) (V.mv (v := .p (.v (.int .i64 ((_ : Nat) : Int)))) rfl (Si.n rfl (lk rfl) (V.ixSlS ty24 ty35 (s := 2) rfl (by decide) rfl rfl (by omega) (Int.toNat_natCast _) (Si.n rfl (lk rfl) (V.faRp ty35 rfl ty22 (lk rfl) rfl (by omega) (Si.n rfl (lk rfl) (V.ldRp ty22 rfl rfl (lk rfl) (v := .bs (kB K n)) (by exact kR_1 K n) (Si.e ?_))))))))))))))
     refine ⟨flEq_nil, fun ff => ?_⟩
     refine Lo.n rfl (lk rfl) (A.bsl 4 ty22 ty5 rfl (lk rfl) (lk rfl) (fun _ => rfl) rfl rfl trivial trivial rfl (N := 0) rfl (c := .bs []) rfl ?_)
     refine ⟨_, fun ff => ff, ap0d, rfl, FG.id, ?_⟩
     show planA _ _ _ _ _ [(0, .agg 3 _), (2, .ptr 1 2), (3, .p (.sl _ 2 _)), (4, .p (.v (.int .i64 ((_ : Nat) : Int)))), (5, .rp _ _), (6, .rp _ _), (7, .p (.bs _))] _ _ _
     refine Pl.lk ?_
     refine Si.n rfl (lk rfl) (V.ldPtrA ty26 rfl rfl rfl rfl (lk rfl) (Si.n rfl (lk rfl) (V.faPtr ty26 rfl ty24 (lk rfl) rfl rfl (lk rfl) (Si.n rfl (lk rfl) (V.ldPtr ty24 rfl rfl rfl (lk rfl) (v := .p (.sl _ 2 _)) rfl (Si.n rfl (lk rfl) (V.mv (v := .p (.v (.int .i64 ((_ : Nat) : Int)))) rfl (Si.n rfl (lk rfl) (V.ixSlS ty24 ty35 (s := 2) rfl (by decide) rfl rfl (by omega) (Int.toNat_natCast _) (Si.n rfl (lk rfl) (V.faRp ty35 rfl ty22 (lk rfl) rfl (by omega) (Si.n rfl (lk rfl) (V.ldRp ty22 rfl rfl (lk rfl) (v := .bs (kB K n)) (by exact kR_1 K n) (Si.e ?_))))))))))))))
     refine ⟨(flEq_cons rfl (flEq_cons rfl (flEq_cons rfl (flEq_cons rfl (flEq_cons rfl (flEq_cons rfl (flEq_cons rfl flEq_nil))))))), fun ff => ?_⟩
     refine Lo.n rfl (lk rfl) (A.apOwn ty22 ty5 rfl rfl rfl rfl (u := .p (.bs _)) rfl rfl rfl rfl (by omega) rfl rfl rfl ?_)
     refine ⟨_, fun ff => Fr.kill 4 ff, ap1d, rfl, (FG.kill 4 (flP_cons rfl flP_nil)), ?_⟩
     show planA _ _ _ _ _ [(0, .agg 3 _)] _ _ _
     refine Pl.l0 ?_
     refine Si.n rfl (lk rfl) (V.ldPtrA ty26 rfl rfl rfl rfl (lk rfl) (Si.e ?_))
     refine ⟨(flEq_cons rfl flEq_nil), ?_⟩
     refine Lo.s rfl (A.stoAg ty26 rfl (n := 3) rfl (by decide) (by intro j hj; (match j, hj with | 0, _ => (trivial) | 1, _ => (trivial) | 2, _ => (trivial))) rfl rfl rfl ?_)
     refine Pl.e ?_
     refine Si.n rfl (lk rfl) (V.as (v := .own 4 0 _) rfl (Si.n rfl (lk rfl) (V.as (v := .p (.v (.int .i64 0))) rfl (Si.e ?_))))
     refine ⟨flEq_nil, ?_⟩
     show HT _ _ _ _ _
     refine HT.frzS 4 rfl rfl rfl ?_
     show HT _ _ _ _ _
     refine HT.ret ?_
     have hR := tk_2 (g := g) (s := s) (K := K) (gen := gen) (by assumption) (by omega)
     have hG := congrArg TK.g hR
     have hS := congrArg TK.s hR
     have hK := congrArg TK.K hR
     have hB := congrArg TK.b hR
     have hE := congrArg TK.e hR
     dsimp only at hG hS hK hB hE
     exact retC_ok (sg []) [(4, .ptr 2 0), (5, .p (.bs ((takeF g s K gen).b))), (6, .p (.v (.int .i64 ((takeF g s K gen).e))))] [(2, ⟨26, 1, 3, true, .rows (fun j => ([.v (.int .i64 ((takeF g s K gen).g)), .bs ((takeF g s K gen).s), .sl ((takeF g s K gen).K).length 2 (kR ((takeF g s K gen).K))] : List PV).getD j (.v undef))⟩)] h ⟨⟨⟨.refl _, rfl⟩, ⟨le_bs (by exact (tkz _).trans (hB.trans hidk).symm), trivial⟩, ⟨le_int (by omega), trivial⟩, trivial⟩, ⟨⟨_, rfl, .inr (ob_rowsL (by intro j hj; match j, hj with | 0, _ => (exact le_int (by omega)) | 1, _ => (exact le_bs hS.symm) | 2, _ => (exact le_kept hK (rm_len3 hidx (by omega)) (fun j => rm_rows3 hidx (by omega) j)))), trivial⟩, trivial⟩⟩ ⟨rvA_cell ty26 rfl rfl rfl rfl (Nat.le_refl _) (le_agg (fun j _ => by (dsimp only; rw [Nat.zero_add]))), .refl _, .refl _, trivial⟩ trivial rfl trivial ⟨trivial, trivial, trivial, trivial⟩ rfl
    ·have h5 := of_decide_eq_false h5
     refine HT.skip (HT.region S_dtake_ok (So.q rfl rfl (V.mv (v := .p (.v (.int .i64 ((_ : Nat) : Int)))) rfl (So.q rfl rfl (V.addI rfl rfl (by omega) (So.q rfl rfl (V.as (v := .p (.v (.int .i64 _))) rfl (So.e ?_))))))))
     refine ⟨n + 1, by exact ⟨by omega, none_s hP0.2 (by assumption)⟩, by omega, ⟨⟨⟨le_int (by rfl), trivial⟩, ⟨.refl _, trivial⟩, ⟨.refl _, rfl⟩, ⟨.refl _, rfl⟩, trivial⟩, ⟨⟨_, rfl, .inl rfl, trivial⟩, ⟨_, rfl, .inl rfl, trivial⟩, trivial⟩⟩⟩
   ·have h4 := of_decide_eq_false h4
    refine HT.exit ?_
    show HT _ _ _ _ _
    refine HT.seq (HT.region S_dtake_ok ?_)
    have hino := idx_none (gen := gen) (fun j hj => hP0.2 j (by omega))
    refine So.n (lk rfl) (A.bldS ty26 rfl rfl trivial rfl (f := fun j => ([.v (.int .i64 0), .v (.slice none 0 0), .v (.slice none 0 0)] : List PV).getD j (.v undef)) (by exact allP_spec (P := fun j => _ = _) ⟨⟨⟨trivial, rfl⟩, rfl⟩, rfl⟩) (So.s (A.stoAg ty26 rfl (n := 3) rfl (by decide) (by intro j hj; (match j, hj with | 0, _ => (trivial) | 1, _ => (trivial) | 2, _ => (trivial))) rfl rfl rfl (So.q rfl rfl (V.as (v := .p (.v (.slice none 0 0))) rfl (So.q rfl rfl (V.as (v := .p (.v (.int .i64 171))) rfl (So.e ?_))))))))
    show HT _ _ _ _ _
    refine HT.ret ?_
    have hR := tk_3 (g := g) (s := s) (K := K) (gen := gen) (by assumption) (by omega) (by omega)
    have hG := congrArg TK.g hR
    have hS := congrArg TK.s hR
    have hK := congrArg TK.K hR
    have hB := congrArg TK.b hR
    have hE := congrArg TK.e hR
    dsimp only at hG hS hK hB hE
    exact retC_ok (sg []) [(4, .ptr 2 0), (5, .p (.bs ((takeF g s K gen).b))), (6, .p (.v (.int .i64 ((takeF g s K gen).e))))] [(2, ⟨26, 1, 3, true, .rows (fun j => ([.v (.int .i64 ((takeF g s K gen).g)), .bs ((takeF g s K gen).s), .sl ((takeF g s K gen).K).length 2 (kR ((takeF g s K gen).K))] : List PV).getD j (.v undef))⟩)] h ⟨⟨⟨.refl _, rfl⟩, ⟨le_nil (by omega), trivial⟩, ⟨le_int (by omega), trivial⟩, trivial⟩, ⟨⟨_, rfl, .inr (ob_rowsL (by intro j hj; match j, hj with | 0, _ => (exact le_int (by omega)) | 1, _ => (exact le_nil hS) | 2, _ => (exact le_nilSl (congrArg List.length hK)))), trivial⟩, trivial⟩⟩ ⟨rvA_cell ty26 rfl rfl rfl rfl (Nat.le_refl _) (le_agg (fun j _ => by (dsimp only; rw [Nat.zero_add]))), .refl _, .refl _, trivial⟩ trivial rfl trivial ⟨trivial, trivial, trivial, trivial⟩ rfl
  ·have h3 := of_decide_eq_false h3
   refine HT.skip (HT.seq (HT.seq (HT.region S_dtake_ok (So.q rfl rfl (V.mv (v := .p (.v (.int .i64 _))) rfl (So.q rfl rfl (V.faPtr ty26 rfl ty2 (lk rfl) rfl rfl (lk rfl) (So.q rfl rfl (V.ldPtr ty2 rfl rfl rfl (lk rfl) (v := .p (.v (.int .i64 _))) rfl (So.q rfl rfl (V.subI rfl rfl (by omega) (So.q rfl rfl (V.bin (a := .v (.int .i64 _)) (b := .v (.int .i64 8)) (r := .v (.bool _)) rfl rfl rfl trivial (So.e ?_))))))))))))))
   show HT _ _ _ _ _
   refine R.cond rfl rfl (fun h6 => ?_) (fun h6 => ?_)
   ·have h6 := of_decide_eq_true h6
    refine HT.seq (HT.region S_dtake_ok (So.n (lk rfl) (A.bldS ty26 rfl rfl trivial rfl (f := fun j => ([.v (.int .i64 0), .v (.slice none 0 0), .v (.slice none 0 0)] : List PV).getD j (.v undef)) (by exact allP_spec (P := fun j => _ = _) ⟨⟨⟨trivial, rfl⟩, rfl⟩, rfl⟩) (So.s (A.stoAg ty26 rfl (n := 3) rfl (by decide) (by intro j hj; (match j, hj with | 0, _ => (trivial) | 1, _ => (trivial) | 2, _ => (trivial))) rfl rfl rfl (So.q rfl rfl (V.as (v := .p (.v (.slice none 0 0))) rfl (So.q rfl rfl (V.as (v := .p (.v (.int .i64 172))) rfl (So.e ?_))))))))))
    show HT _ _ _ _ _
    refine HT.ret ?_
    have hR := tk_4 (g := g) (s := s) (K := K) (gen := gen) (by assumption) (by omega) (by omega) (by omega)
    have hG := congrArg TK.g hR
    have hS := congrArg TK.s hR
    have hK := congrArg TK.K hR
    have hB := congrArg TK.b hR
    have hE := congrArg TK.e hR
    dsimp only at hG hS hK hB hE
    exact retC_ok (sg []) [(4, .ptr 2 0), (5, .p (.bs ((takeF g s K gen).b))), (6, .p (.v (.int .i64 ((takeF g s K gen).e))))] [(2, ⟨26, 1, 3, true, .rows (fun j => ([.v (.int .i64 ((takeF g s K gen).g)), .bs ((takeF g s K gen).s), .sl ((takeF g s K gen).K).length 2 (kR ((takeF g s K gen).K))] : List PV).getD j (.v undef))⟩)] h ⟨⟨⟨.refl _, rfl⟩, ⟨le_nil (by omega), trivial⟩, ⟨le_int (by omega), trivial⟩, trivial⟩, ⟨⟨_, rfl, .inr (ob_rowsL (by intro j hj; match j, hj with | 0, _ => (exact le_int (by omega)) | 1, _ => (exact le_nil hS) | 2, _ => (exact le_nilSl (congrArg List.length hK)))), trivial⟩, trivial⟩⟩ ⟨rvA_cell ty26 rfl rfl rfl rfl (Nat.le_refl _) (le_agg (fun j _ => by (dsimp only; rw [Nat.zero_add]))), .refl _, .refl _, trivial⟩ trivial rfl trivial ⟨trivial, trivial, trivial, trivial⟩ rfl
   ·have h6 := of_decide_eq_false h6
    refine HT.skip (HT.seq (HT.seq (HT.region S_dtake_ok (So.q rfl rfl (V.mv (v := .p (.v (.int .i64 _))) rfl (So.q rfl rfl (V.bin (a := .v (.int .i64 _)) (b := .v (.int .i64 1073741824)) (r := .v (.bool _)) rfl rfl rfl trivial (So.e ?_))))))))
    show HT _ _ _ _ _
    refine R.cond rfl rfl (fun h7 => ?_) (fun h7 => ?_)
    ·have h7 := of_decide_eq_true h7
     refine HT.seq (HT.region S_dtake_ok (So.n (lk rfl) (A.bldS ty26 rfl rfl trivial rfl (f := fun j => ([.v (.int .i64 0), .v (.slice none 0 0), .v (.slice none 0 0)] : List PV).getD j (.v undef)) (by exact allP_spec (P := fun j => _ = _) ⟨⟨⟨trivial, rfl⟩, rfl⟩, rfl⟩) (So.s (A.stoAg ty26 rfl (n := 3) rfl (by decide) (by intro j hj; (match j, hj with | 0, _ => (trivial) | 1, _ => (trivial) | 2, _ => (trivial))) rfl rfl rfl (So.q rfl rfl (V.as (v := .p (.v (.slice none 0 0))) rfl (So.q rfl rfl (V.as (v := .p (.v (.int .i64 2))) rfl (So.e ?_))))))))))
     show HT _ _ _ _ _
     refine HT.ret ?_
     have hR := tk_5 (g := g) (s := s) (K := K) (gen := gen) (by assumption) (by omega) (by omega) (by omega) (by omega)
     have hG := congrArg TK.g hR
     have hS := congrArg TK.s hR
     have hK := congrArg TK.K hR
     have hB := congrArg TK.b hR
     have hE := congrArg TK.e hR
     dsimp only at hG hS hK hB hE
     exact retC_ok (sg []) [(4, .ptr 2 0), (5, .p (.bs ((takeF g s K gen).b))), (6, .p (.v (.int .i64 ((takeF g s K gen).e))))] [(2, ⟨26, 1, 3, true, .rows (fun j => ([.v (.int .i64 ((takeF g s K gen).g)), .bs ((takeF g s K gen).s), .sl ((takeF g s K gen).K).length 2 (kR ((takeF g s K gen).K))] : List PV).getD j (.v undef))⟩)] h ⟨⟨⟨.refl _, rfl⟩, ⟨le_nil (by omega), trivial⟩, ⟨le_int (by omega), trivial⟩, trivial⟩, ⟨⟨_, rfl, .inr (ob_rowsL (by intro j hj; match j, hj with | 0, _ => (exact le_int (by omega)) | 1, _ => (exact le_nil hS) | 2, _ => (exact le_nilSl (congrArg List.length hK)))), trivial⟩, trivial⟩⟩ ⟨rvA_cell ty26 rfl rfl rfl rfl (Nat.le_refl _) (le_agg (fun j _ => by (dsimp only; rw [Nat.zero_add]))), .refl _, .refl _, trivial⟩ trivial rfl trivial ⟨trivial, trivial, trivial, trivial⟩ rfl
    ·have h7 := of_decide_eq_false h7
     refine HT.skip (HT.seq (HT.block ?_))
     refine R.loop (σ := Nat) (fun m => []) (fun m => [(1, ⟨26, 1, 3, true, .rows (fun j => ([.v (.int .i64 (g + ((m : Nat) : Int))), .bs (nxN g s m), .sl (kpN g s K m).length 2 (kR (kpN g s K m))] : List PV).getD j (.v undef))⟩)]) [1, 2, 4, 5, 6] [2] (fun m => g + (m : Int) ≤ gen) (fun m => (gen - g).toNat - m) (0) (fr0 := [(1, .p (.v (.int .i64 _))), (2, .ptr 1 0), (4, .ptr 2 0), (5, .p (.v (.slice none 0 0))), (6, .p (.v (.int .i64 _)))]) (O0 := [(2, ⟨_, _, _, _, .rows _⟩)]) rfl rfl (by omega) ⟨⟨⟨.refl _, trivial⟩, ⟨.refl _, rfl⟩, ⟨.refl _, rfl⟩, ⟨.refl _, trivial⟩, ⟨.refl _, trivial⟩, trivial⟩, ⟨⟨_, rfl, .inr (ob_rows (by rfl) (by ((try dsimp only); (intro j hj; match j, hj with | 0, _ => exact congrArg (fun x => PV.v (.int .i64 x)) (by omega) | 1, _ => rfl | 2, _ => rfl)))), trivial⟩, ⟨_, rfl, .inl rfl, trivial⟩, trivial⟩⟩ (fun m hP1 => ?_)
     refine HT.seq (HT.seq (HT.region S_dtake_ok (So.q rfl rfl (V.faPtr ty26 rfl ty2 (lk rfl) rfl rfl (lk rfl) (So.q rfl rfl (V.ldPtr ty2 rfl rfl rfl (lk rfl) (v := .p (.v (.int .i64 _))) rfl (So.q rfl rfl (V.mv (v := .p (.v (.int .i64 _))) rfl (So.q rfl rfl (V.bin (a := .v (.int .i64 _)) (b := .v (.int .i64 _)) (r := .v (.bool _)) rfl rfl rfl trivial (So.e ?_)))))))))))
     show HT _ _ _ _ _
     refine R.cond rfl rfl (fun h8 => ?_) (fun h8 => ?_)
     ·have h8 := of_decide_eq_true h8
      refine HT.skip (HT.block (HT.seq (HT.region S_dtake_ok ?_)))
      have hrm := right_km hrt m (by omega)
      obtain ⟨_, _, _, hnl, hkl⟩ := id hrm
      have hu1 := up_1 g s K m
      have hof := off_1 (g := g) (s := s) (K := K) m
      refine So.q rfl rfl (V.ldPtrA ty26 rfl rfl rfl rfl (lk rfl) ?_)
      refine So.n (lk rfl) (A.call0 [.agg 3 _] 3 rfl rfl rfl rfl ⟨trivial, trivial⟩ trivial (g + (m : Int), nxN g s m, (kpN g s K m)) ⟨le_agg (fun j hj => by match j, hj with | 0, _ => rfl | 1, _ => rfl | 2, _ => rfl), trivial⟩ trivial (by exact ⟨hrm, by omega⟩) (Φ := fun _ => True) (fun _ _ => trivial) (.inl rfl) (v := .tup 4 _) rfl (O' := (8, ⟨35, 2, _, true, .rows _⟩) :: _) rfl (fun h9 => ?_))
      refine So.q rfl rfl (V.mv (v := .tup 4 _) rfl (So.q rfl rfl (V.ext rfl (lk rfl) (v := .ag 3 _) rfl (So.q rfl rfl (V.ext rfl (lk rfl) (v := .p (.v (.int .i64 _))) rfl (So.q rfl rfl (V.ext rfl (lk rfl) (v := .p (.bs _)) rfl (So.q rfl rfl (V.ext rfl (lk rfl) (v := .p (.v (.int .i64 _))) rfl (So.n (lk rfl) (A.alloc 9 1 ty26 rfl trivial (f := fun j => ([.v (.int .i64 0), .v (.slice none 0 0), .v (.slice none 0 0)] : List PV).getD j (.v undef)) (fun j hj => by match j, hj with | 0, _ => rfl | 1, _ => rfl | 2, _ => rfl) (So.s (A.stoG [.p (.v (.int .i64 _)), .p (.bs _), .own 8 0 _] ty26 rfl rfl (by decide) (by intro j hj; match j, hj with | 0, _ => (exact rfl) | 1, _ => (exact trivial) | 2, _ => (exact trivial)) rfl rfl (by intro j hj; match j, hj with | 0, _ => rfl | 1, _ => rfl | 2, _ => rfl) rfl (So.q rfl rfl (V.as (v := .p (.v (.int .i64 _))) rfl (So.q rfl rfl (V.as (v := .p (.bs _)) rfl (So.q rfl rfl (V.as (v := .p (.v (.int .i64 _))) rfl ?_)))))))))))))))))))
      refine So.e (HT.seq (HT.region S_dtake_ok (So.q rfl rfl (V.faPtr ty26 rfl ty24 (lk rfl) rfl rfl (lk rfl) (So.q rfl rfl (V.ldPtr ty24 rfl rfl rfl (lk rfl) (v := .own 8 0 _) rfl (So.q rfl rfl (V.mv (v := .p (.v (.int .i64 _))) rfl (So.q rfl rfl (V.mv (v := .p (.bs _)) rfl (So.n (lk rfl) (A.bldS ty35 rfl rfl ⟨by exact rfl, by exact trivial, trivial⟩ rfl (f := fun j => ([.v (.int .i64 (g + (m : Int))), .bs (kyN g s m)] : List PV).getD j (.v undef)) (by exact allP_spec (P := fun j => _ = _) ⟨⟨trivial, rfl⟩, rfl⟩) (So.n (lk rfl) (A.bsl 10 ty24 ty35 rfl (lk rfl) (lk rfl) (fun h => Bool.noConfusion (show false = true from h)) rfl rfl trivial ⟨(fun j hj => by match j, hj with | 0, _ => (trivial) | 1, _ => (trivial)), trivial⟩ rfl (N := 2) rfl (c := .rows _) rfl (So.n (lk rfl) (A.apRows ty24 ty35 rfl rfl rfl (lk rfl) (lk rfl) rfl rfl (u := .own 10 0 _) rfl rfl (by intro j hj; match j, hj with | 0, _ => rfl | 1, _ => trivial) rfl (by (simp; omega)) rfl rfl rfl ?_))))))))))))))))
      refine So.q rfl rfl (V.faPtr ty26 rfl ty24 (lk rfl) rfl rfl (lk rfl) (So.s (A.stoF ty24 rfl rfl rfl rfl rfl rfl rfl (v := .p (.sl _ _ _)) rfl trivial rfl (lk rfl) rfl rfl (So.e (HT.seq (HT.seq (HT.region S_dtake_ok (So.q rfl rfl (V.faPtr ty26 rfl ty24 (lk rfl) rfl rfl (lk rfl) (So.q rfl rfl (V.ldPtr ty24 rfl rfl rfl (lk rfl) (v := .p (.sl _ _ _)) rfl (So.q rfl rfl (V.len ty24 (v := .p (.sl _ _ _)) rfl rfl (So.q rfl rfl (V.bin (a := .v (.int .i64 _)) (b := .v (.int .i64 16)) (r := .v (.bool _)) rfl rfl rfl trivial ?_)))))))))))))))
      refine So.e ?_
      show HT _ _ _ _ _
      refine R.cond rfl rfl (fun h10 => ?_) (fun h10 => ?_)
      ·have h10 := of_decide_eq_true h10
       refine HT.region S_dtake_ok (So.n (lk rfl) (A.bsl 11 ty24 ty35 rfl (lk rfl) (lk rfl) (fun h => Bool.noConfusion (show false = true from h)) rfl rfl trivial trivial rfl (N := 0) rfl (c := .rows _) rfl (So.q rfl rfl (V.faPtr ty26 rfl ty24 (lk rfl) rfl rfl (lk rfl) (So.q rfl rfl (V.ldPtr ty24 rfl rfl rfl (lk rfl) (v := .p (.sl _ _ _)) rfl (So.q rfl rfl (V.cutSl ty24 ty35 rfl rfl rfl rfl (by omega) (.inl rfl) (So.n (lk rfl) (A.apRows ty24 ty35 rfl rfl rfl (lk rfl) (lk rfl) rfl rfl (u := .p (.sl _ _ _)) rfl rfl (by exact fun j hj => kp_one2 _ _ _ _ _ hj) rfl (by (simp; omega)) rfl rfl rfl (So.q rfl rfl (V.faPtr ty26 rfl ty24 (lk rfl) rfl rfl (lk rfl) (So.s (A.stoF ty24 rfl rfl rfl rfl rfl rfl rfl (v := .p (.sl _ _ _)) rfl trivial rfl (lk rfl) rfl rfl (So.e (HT.region S_dtake_ok ?_))))))))))))))))
       refine So.q rfl rfl (V.ldPtrA ty26 rfl rfl rfl rfl (lk rfl) (So.s (A.stoAg ty26 rfl (n := 3) rfl (by decide) (by intro j hj; (match j, hj with | 0, _ => (trivial) | 1, _ => (trivial) | 2, _ => (trivial))) rfl rfl rfl (So.e ?_))))
       refine ⟨m + 1, by omega, by omega, ⟨⟨⟨.refl _, trivial⟩, ⟨.refl _, rfl⟩, ⟨.refl _, rfl⟩, ⟨.refl _, trivial⟩, ⟨.refl _, trivial⟩, trivial⟩, ⟨⟨_, rfl, .inr (ob_rowsL (by intro j hj; match j, hj with | 0, _ => exact le_int (by omega) | 1, _ => exact .refl _ | 2, _ => (exact kp_le1 (by omega)))), trivial⟩, ⟨_, rfl, .inl rfl, trivial⟩, trivial⟩⟩⟩
      ·have h10 := of_decide_eq_false h10
       refine HT.skip (HT.region S_dtake_ok (So.q rfl rfl (V.ldPtrA ty26 rfl rfl rfl rfl (lk rfl) (So.s (A.stoAg ty26 rfl (n := 3) rfl (by decide) (by intro j hj; (match j, hj with | 0, _ => (trivial) | 1, _ => (trivial) | 2, _ => (trivial))) rfl rfl rfl (So.e ?_))))))
       refine ⟨m + 1, by omega, by omega, ⟨⟨⟨.refl _, trivial⟩, ⟨.refl _, rfl⟩, ⟨.refl _, rfl⟩, ⟨.refl _, trivial⟩, ⟨.refl _, trivial⟩, trivial⟩, ⟨⟨_, rfl, .inr (ob_rowsL (by intro j hj; match j, hj with | 0, _ => exact le_int (by omega) | 1, _ => exact .refl _ | 2, _ => (exact kp_le2 (by omega)))), trivial⟩, ⟨_, rfl, .inl rfl, trivial⟩, trivial⟩⟩⟩
     ·have h8 := of_decide_eq_false h8
      refine HT.exit ?_
      show HT _ _ _ _ _
      refine HT.seq (HT.region S_dtake_ok ?_)
      have hrm := right_km hrt m (by omega)
      obtain ⟨_, _, _, hnl, hkl⟩ := id hrm
      refine So.q rfl rfl (V.ldPtrA ty26 rfl rfl rfl rfl (lk rfl) ?_)
      refine So.n (lk rfl) (A.call0X S_dtake_ok [.agg 3 _] 3 rfl rfl rfl rfl ⟨trivial, trivial⟩ trivial (g + (m : Int), nxN g s m, (kpN g s K m)) ⟨le_agg (fun j hj => by match j, hj with | 0, _ => rfl | 1, _ => rfl | 2, _ => rfl), trivial⟩ trivial (by exact ⟨hrm, by omega⟩) (Φ := fun _ => True) (fun _ _ => trivial) (.inl rfl) (t := 8) rfl (O' := (8, ⟨35, 2, _, true, .rows _⟩) :: _) rfl rfl rfl (y := .tup 4 _) rfl rfl (fun h11 => ?_))
      refine So.q rfl rfl (V.mv (v := .tup 4 _) rfl (So.q rfl rfl (V.ext rfl (lk rfl) (v := .ag 3 _) rfl (So.q rfl rfl (V.ext rfl (lk rfl) (v := .p (.v (.int .i64 _))) rfl (So.q rfl rfl (V.ext rfl (lk rfl) (v := .p (.bs _)) rfl (So.q rfl rfl (V.ext rfl (lk rfl) (v := .p (.v (.int .i64 _))) rfl (So.n (lk rfl) (A.alloc 3 1 ty26 rfl trivial (f := fun j => ([.v (.int .i64 0), .v (.slice none 0 0), .v (.slice none 0 0)] : List PV).getD j (.v undef)) (fun j hj => by match j, hj with | 0, _ => rfl | 1, _ => rfl | 2, _ => rfl) (So.s (A.stoG [.p (.v (.int .i64 _)), .p (.bs _), .p (.sl _ _ _)] ty26 rfl rfl (by decide) (by intro j hj; match j, hj with | 0, _ => (exact rfl) | 1, _ => (exact trivial) | 2, _ => (exact trivial)) rfl rfl (by intro j hj; match j, hj with | 0, _ => rfl | 1, _ => rfl | 2, _ => rfl) rfl (So.q rfl rfl (V.as (v := .p (.v (.int .i64 _))) rfl (So.q rfl rfl (V.as (v := .p (.bs _)) rfl (So.q rfl rfl (V.as (v := .p (.v (.int .i64 _))) rfl ?_)))))))))))))))))))
      refine So.e (HT.seq (HT.region S_dtake_ok (So.q rfl rfl (V.ldPtrA ty26 rfl rfl rfl rfl (lk rfl) (So.q rfl rfl (V.mv (v := .p (.bs _)) rfl (So.s (A.stoAg ty26 rfl (n := 3) rfl (by decide) (by intro j hj; (match j, hj with | 0, _ => (trivial) | 1, _ => (trivial) | 2, _ => (trivial))) rfl rfl rfl (So.q rfl rfl (V.as (v := .p (.bs _)) rfl (So.q rfl rfl (V.as (v := .p (.v (.int .i64 0))) rfl (So.e ?_)))))))))))))
      show HT _ _ _ _ _
      refine HT.ret ?_
      have hR := tk_6 (g := g) (s := s) (K := K) (gen := gen) (m := m) (by assumption) (by omega) (by omega) (by omega) (by omega) (by omega)
      have hG := congrArg TK.g hR
      have hS := congrArg TK.s hR
      have hK := congrArg TK.K hR
      have hB := congrArg TK.b hR
      have hE := congrArg TK.e hR
      dsimp only at hG hS hK hB hE
      exact retC_ok (sg []) [(4, .ptr 2 0), (5, .p (.bs ((takeF g s K gen).b))), (6, .p (.v (.int .i64 ((takeF g s K gen).e))))] [(2, ⟨26, 1, 3, true, .rows (fun j => ([.v (.int .i64 ((takeF g s K gen).g)), .bs ((takeF g s K gen).s), .sl ((takeF g s K gen).K).length 2 (kR ((takeF g s K gen).K))] : List PV).getD j (.v undef))⟩)] h ⟨⟨⟨.refl _, rfl⟩, ⟨le_bs (by exact hB.symm), trivial⟩, ⟨le_int (by omega), trivial⟩, trivial⟩, ⟨⟨_, rfl, .inr (ob_rowsL (by intro j hj; match j, hj with | 0, _ => (exact le_int (by omega)) | 1, _ => (exact le_bs hS.symm) | 2, _ => (exact le_kept hK rfl (fun j => congrArg (kR _) (Nat.zero_add j))))), trivial⟩, trivial⟩⟩ ⟨rvA_cell ty26 rfl rfl rfl rfl (Nat.le_refl _) (le_agg (fun j _ => by (dsimp only; rw [Nat.zero_add]))), .refl _, .refl _, trivial⟩ trivial rfl trivial ⟨trivial, trivial, trivial, trivial⟩ rfl
def dsameSp : Sp := ⟨[], mkE (α := Int × (List UInt8) × KL) (fun (g, s, K) => [.agg 3 (fun j => ([.v (.int .i64 g), .bs s, .sl (K).length 2 (kR K)] : List PV).getD j (.v undef)), .agg 3 (fun j => ([.v (.int .i64 g), .bs s, .sl (K).length 2 (kR K)] : List PV).getD j (.v undef))]) (fun (g, s, K) => []) (fun (g, s, K) => K.length ≤ 1000000) (fun (g, s, K) => [.p (.v (.bool true))]) (fun (g, s, K) => [])⟩
def S_dsame : FuncId → Option Sp := fun _ => none
theorem S_dsame_ok : ∀ f s, S_dsame f = some s → FOK Tryd.prog gl f s := fun f s h => by cases h
theorem S_dsame_det : ∀ f s, S_dsame f = some s → SpDet s.sp := fun f s h => by cases h
set_option maxHeartbeats 1000000 in
set_option maxRecDepth 20000 in
theorem dsame_ok : FOK Tryd.prog gl 15 dsameSp := by
 refine FOK.ofE (tyOf_ok Tryd.prog) (slots := [4]) (nt := 66) Tryd.func15 rfl rfl rfl rfl (by decide) 2 (fun ⟨_, _, _⟩ => rfl) (by decide) (fun ⟨_, _, _⟩ => ⟨trivial, trivial, trivial⟩) ?_
 rintro ⟨g, s, K⟩ kk hlen hpre h
 replace hpre : K.length ≤ 1000000 := hpre
 show HT (cx Tryd.prog 66 (tyOf Tryd.prog) gl []) _ [(0, .agg 3 (fun j => ([.v (.int .i64 g), .bs s, .sl (K).length 2 (kR K)] : List PV).getD j (.v undef))), (1, .agg 3 (fun j => ([.v (.int .i64 g), .bs s, .sl (K).length 2 (kR K)] : List PV).getD j (.v undef)))] [] _
 refine HT.seq (HT.region S_dsame_ok (So.n (lk rfl) (A.boxAg 1 1 (n := 3) rfl (by intro j hj; (match j, hj with | 0, _ => (trivial) | 1, _ => (trivial) | 2, _ => (trivial))) rfl trivial (So.n (lk rfl) (A.boxAg 2 1 (n := 3) rfl (by intro j hj; (match j, hj with | 0, _ => (trivial) | 1, _ => (trivial) | 2, _ => (trivial))) rfl trivial (So.q rfl rfl (V.as (v := .p (.v (.bool false))) rfl (So.e (HT.seq (HT.seq (HT.region S_dsame_ok (So.q rfl rfl (V.faPtr ty26 rfl ty2 (lk rfl) rfl rfl (lk rfl) ?_)))))))))))))
 refine So.q rfl rfl (V.ldPtr ty2 rfl rfl rfl (lk rfl) (v := .p (.v (.int .i64 _))) rfl (So.q rfl rfl (V.faPtr ty26 rfl ty2 (lk rfl) rfl rfl (lk rfl) (So.q rfl rfl (V.ldPtr ty2 rfl rfl rfl (lk rfl) (v := .p (.v (.int .i64 _))) rfl (So.q rfl rfl (V.bin (a := .v (.int .i64 _)) (b := .v (.int .i64 _)) (r := .v (.bool _)) rfl rfl rfl trivial (So.q rfl rfl (V.mv (v := .p (.v (.bool _))) rfl ?_)))))))))
 refine So.gd rfl rfl (lk rfl) (lk rfl) (fun h1 => ?_) (fun h1 => ?_)
 ·have h1 := of_decide_eq_true (bnF h1)
  refine A.v rfl (V.faPtr ty26 rfl ty22 (lk rfl) rfl rfl (lk rfl) (So.gy rfl rfl (lk rfl) (lk rfl) (A.v rfl (V.ldPtr ty22 rfl rfl rfl (lk rfl) (v := .p (.bs _)) rfl (So.gy rfl rfl (lk rfl) (lk rfl) (A.v rfl (V.cvBs ty9 rfl rfl (So.gy rfl rfl (lk rfl) (lk rfl) (A.v rfl (V.faPtr ty26 rfl ty22 (lk rfl) rfl rfl (lk rfl) (So.gy rfl rfl (lk rfl) (lk rfl) (A.v rfl (V.ldPtr ty22 rfl rfl rfl (lk rfl) (v := .p (.bs _)) rfl (So.gy rfl rfl (lk rfl) (lk rfl) ?_))))))))))))))
  refine A.v rfl (V.cvBs ty9 rfl rfl (So.gy rfl rfl (lk rfl) (lk rfl) (A.v rfl (V.bin (a := .str _) (b := .str _) (r := .v (.bool _)) rfl rfl rfl trivial (So.q rfl rfl (V.pkFalse (u := .p (.v (.bool _))) rfl rfl (So.q rfl rfl (V.mv (v := .p (.v (.bool _))) rfl ?_))))))))
  refine So.gd rfl rfl (lk rfl) (lk rfl) (fun h2 => ?_) (fun h2 => ?_)
  ·have h2 := of_decide_eq_true (bnF h2)
   refine A.v rfl (V.faPtr ty26 rfl ty24 (lk rfl) rfl rfl (lk rfl) (So.gy rfl rfl (lk rfl) (lk rfl) (A.v rfl (V.ldPtr ty24 rfl rfl rfl (lk rfl) (v := .p (.sl _ 2 _)) rfl (So.gy rfl rfl (lk rfl) (lk rfl) (A.v rfl (V.len ty24 (v := .p (.sl _ 2 _)) rfl rfl (So.gy rfl rfl (lk rfl) (lk rfl) (A.v rfl (V.faPtr ty26 rfl ty24 (lk rfl) rfl rfl (lk rfl) (So.gy rfl rfl (lk rfl) (lk rfl) (A.v rfl (V.ldPtr ty24 rfl rfl rfl (lk rfl) (v := .p (.sl _ 2 _)) rfl (So.gy rfl rfl (lk rfl) (lk rfl) ?_))))))))))))))
   refine A.v rfl (V.len ty24 (v := .p (.sl _ 2 _)) rfl rfl (So.gy rfl rfl (lk rfl) (lk rfl) (A.v rfl (V.bin (a := .v (.int .i64 _)) (b := .v (.int .i64 _)) (r := .v (.bool _)) rfl rfl rfl trivial (So.q rfl rfl (V.pkFalse (u := .p (.v (.bool _))) rfl rfl (So.e ?_)))))))
   show HT _ _ _ _ _
   refine R.cond rfl rfl (fun h3 => ?_) (fun h3 => ?_)
   ·have h3 := of_decide_eq_false (bnT h3)
    refine HT.seq ?_
    exfalso; omega
   ·have h3 := of_decide_eq_true (bnF h3)
    refine HT.skip (HT.seq (HT.seq (HT.region S_dsame_ok (So.q rfl rfl (V.as (v := .p (.v (.int .i64 0))) rfl (So.e (HT.block ?_)))))))
    refine R.loop (σ := Nat) (fun n => [(5, .p (.v (.int .i64 ((n : Int)))))]) (fun n => []) [2, 3] [1, 2] (fun n => n ≤ K.length) (fun n => K.length - n) (0) (fr0 := [(2, .ptr 1 0), (3, .ptr 2 0)]) (O0 := [(1, ⟨_, _, _, _, .rows _⟩), (2, ⟨_, _, _, _, .rows _⟩)]) rfl rfl (by omega) ⟨⟨⟨le_int (by rfl), trivial⟩, ⟨.refl _, rfl⟩, ⟨.refl _, rfl⟩, trivial⟩, ⟨⟨_, rfl, .inl rfl, trivial⟩, ⟨_, rfl, .inl rfl, trivial⟩, trivial⟩⟩ (fun n hP0 => ?_)
    refine HT.seq (HT.seq (HT.region S_dsame_ok (So.q rfl rfl (V.mv (v := .p (.v (.int .i64 ((_ : Nat) : Int)))) rfl (So.q rfl rfl (V.faPtr ty26 rfl ty24 (lk rfl) rfl rfl (lk rfl) (So.q rfl rfl (V.ldPtr ty24 rfl rfl rfl (lk rfl) (v := .p (.sl _ 2 _)) rfl (So.q rfl rfl (V.len ty24 (v := .p (.sl _ 2 _)) rfl rfl (So.q rfl rfl (V.bin (a := (.v (.int .i64 ((_ : Nat) : Int)))) (b := .v (.int .i64 _)) (r := .v (.bool _)) rfl rfl rfl trivial (So.e ?_)))))))))))))
    show HT _ _ _ _ _
    refine R.cond rfl rfl (fun h4 => ?_) (fun h4 => ?_)
    ·have h4 := of_decide_eq_true h4
     refine HT.skip (HT.seq (HT.block (HT.seq ?_)))
     refine HT.drawn S_dsame_ok S_dsame_det mixed (by kernel_rfl) ?_
     refine Sd.n (lk rfl) (V.faPtr ty26 rfl ty24 (lk rfl) rfl rfl (lk rfl) (Sd.n (lk rfl) (V.ldPtr ty24 rfl rfl rfl (lk rfl) (v := .p (.sl _ 2 _)) rfl (Sd.n (lk rfl) (V.mv (v := .p (.v (.int .i64 ((_ : Nat) : Int)))) rfl (Sd.n (lk rfl) (V.ixSlS ty24 ty35 (s := 2) rfl (by decide) rfl rfl (by omega) (Int.toNat_natCast _) (Sd.n (lk rfl) (V.faRp ty35 rfl ty2 (lk rfl) rfl (by omega) (Sd.n (lk rfl) (V.ldRp ty2 rfl rfl (lk rfl) (v := .v (.int .i64 (kG K n))) (by exact kR_0 K n) (Sd.n (lk rfl) (V.faPtr ty26 rfl ty24 (lk rfl) rfl rfl (lk rfl) (Sd.n (lk rfl) (V.ldPtr ty24 rfl rfl rfl (lk rfl) (v := .p (.sl _ 2 _)) rfl (Sd.n (lk rfl) (V.mv (v := .p (.v (.int .i64 ((_ : Nat) : Int)))) rfl (Sd.n (lk rfl) (V.ixSlS ty24 ty35 (s := 2) rfl (by decide) rfl rfl (by omega) (Int.toNat_natCast _) ?_)))))))))))))))))))
     refine Sd.n (lk rfl) (V.faRp ty35 rfl ty2 (lk rfl) rfl (by omega) (Sd.n (lk rfl) (V.ldRp ty2 rfl rfl (lk rfl) (v := .v (.int .i64 (kG K n))) (by exact kR_0 K n) (Sd.n (lk rfl) (V.bin (a := .v (.int .i64 _)) (b := .v (.int .i64 _)) (r := .v (.bool _)) rfl rfl rfl trivial (Sd.n (lk rfl) (V.mv (v := .p (.v (.bool _))) rfl ?_)))))))
     refine Sd.gd rfl rfl (lk rfl) (lk rfl) (fun h5 => ?_) (fun h5 => ?_)
     ·have h5 := of_decide_eq_true (bnF h5)
      refine V.faPtr ty26 rfl ty24 (lk rfl) rfl rfl (lk rfl) ?_
      refine Sd.gy rfl rfl (lk rfl) (lk rfl) ?_
      refine V.ldPtr ty24 rfl rfl rfl (lk rfl) (v := .p (.sl _ 2 _)) rfl ?_
      refine Sd.gy rfl rfl (lk rfl) (lk rfl) ?_
      refine V.mv (v := .p (.v (.int .i64 ((_ : Nat) : Int)))) rfl ?_
      refine Sd.gy rfl rfl (lk rfl) (lk rfl) ?_
      refine V.ixSlS ty24 ty35 (s := 2) rfl (by decide) rfl rfl (by omega) (Int.toNat_natCast _) ?_
      refine Sd.gy rfl rfl (lk rfl) (lk rfl) ?_
      refine V.faRp ty35 rfl ty22 (lk rfl) rfl (by omega) ?_
      refine Sd.gy rfl rfl (lk rfl) (lk rfl) ?_
      refine V.ldRp ty22 rfl rfl (lk rfl) (v := .bs (kB K n)) (by exact kR_1 K n) ?_
      refine Sd.gy rfl rfl (lk rfl) (lk rfl) ?_
      refine V.cvBs ty9 rfl rfl ?_
      refine Sd.gy rfl rfl (lk rfl) (lk rfl) ?_
      refine V.faPtr ty26 rfl ty24 (lk rfl) rfl rfl (lk rfl) ?_
      refine Sd.gy rfl rfl (lk rfl) (lk rfl) ?_
      refine V.ldPtr ty24 rfl rfl rfl (lk rfl) (v := .p (.sl _ 2 _)) rfl ?_
      refine Sd.gy rfl rfl (lk rfl) (lk rfl) ?_
      refine V.mv (v := .p (.v (.int .i64 ((_ : Nat) : Int)))) rfl ?_
      refine Sd.gy rfl rfl (lk rfl) (lk rfl) ?_
      refine V.ixSlS ty24 ty35 (s := 2) rfl (by decide) rfl rfl (by omega) (Int.toNat_natCast _) ?_
      refine Sd.gy rfl rfl (lk rfl) (lk rfl) ?_
      refine V.faRp ty35 rfl ty22 (lk rfl) rfl (by omega) ?_
      refine Sd.gy rfl rfl (lk rfl) (lk rfl) ?_
      refine V.ldRp ty22 rfl rfl (lk rfl) (v := .bs (kB K n)) (by exact kR_1 K n) ?_
      refine Sd.gy rfl rfl (lk rfl) (lk rfl) ?_
      refine V.cvBs ty9 rfl rfl ?_
      refine Sd.gy rfl rfl (lk rfl) (lk rfl) ?_
      refine V.bin (a := .str _) (b := .str _) (r := .v (.bool _)) rfl rfl rfl trivial ?_
      refine Sd.n (lk rfl) (V.pkFalse (u := .p (.v (.bool _))) rfl rfl (Sd.e ?_))
      show HT _ _ _ _ _
      refine R.cond rfl rfl (fun h6 => ?_) (fun h6 => ?_)
      ·have h6 := of_decide_eq_false (bnT h6)
       refine HT.seq ?_
       exfalso; exact absurd rfl (by assumption)
      ·have h6 := of_decide_eq_true (bnF h6)
       refine HT.skip (HT.region S_dsame_ok (So.q rfl rfl (V.mv (v := .p (.v (.int .i64 ((_ : Nat) : Int)))) rfl (So.q rfl rfl (V.addI rfl rfl (by omega) (So.q rfl rfl (V.as (v := .p (.v (.int .i64 _))) rfl (So.e ?_))))))))
       refine ⟨n + 1, by omega, by omega, ⟨⟨⟨le_int (by rfl), trivial⟩, ⟨.refl _, rfl⟩, ⟨.refl _, rfl⟩, trivial⟩, ⟨⟨_, rfl, .inl rfl, trivial⟩, ⟨_, rfl, .inl rfl, trivial⟩, trivial⟩⟩⟩
     ·have h5 := of_decide_eq_false (bnT h5)
      refine Sd.gn (b := true) rfl rfl rfl (lk rfl) (lk rfl) (Sd.gn (b := true) rfl rfl rfl (lk rfl) (lk rfl) (Sd.gn (b := true) rfl rfl rfl (lk rfl) (lk rfl) (Sd.gn (b := true) rfl rfl rfl (lk rfl) (lk rfl) (Sd.gn (b := true) rfl rfl rfl (lk rfl) (lk rfl) (Sd.gn (b := true) rfl rfl rfl (lk rfl) (lk rfl) (Sd.gn (b := true) rfl rfl rfl (lk rfl) (lk rfl) (Sd.gn (b := true) rfl rfl rfl (lk rfl) (lk rfl) (Sd.gn (b := true) rfl rfl rfl (lk rfl) (lk rfl) (Sd.gn (b := true) rfl rfl rfl (lk rfl) (lk rfl) ?_)))))))))
      refine Sd.gn (b := true) rfl rfl rfl (lk rfl) (lk rfl) (Sd.gn (b := true) rfl rfl rfl (lk rfl) (lk rfl) (Sd.gn (b := true) rfl rfl rfl (lk rfl) (lk rfl) (Sd.gn (b := true) rfl rfl rfl (lk rfl) (lk rfl) (Sd.n (lk rfl) (V.pkTrue (u := .p (.v (.bool true))) rfl rfl (Sd.e ?_))))))
      show HT _ _ _ _ _
      refine R.condT rfl ?_
      refine HT.seq ?_
      exfalso; omega
    ·have h4 := of_decide_eq_false h4
     refine HT.exit ?_
     show HT _ _ _ _ _
     refine HT.seq (HT.region S_dsame_ok (So.q rfl rfl (V.as (v := .p (.v (.bool true))) rfl (So.e ?_))))
     show HT _ _ _ _ _
     refine HT.ret ?_
     exact ret_ok (sg []) h rfl rfl rfl trivial ⟨trivial, trivial⟩ rfl ⟨⟨⟨le_bool (by first | rfl), trivial⟩, trivial⟩, trivial⟩
  ·have h2 := of_decide_eq_false (bnT h2)
   refine So.gn (b := true) rfl rfl rfl (lk rfl) (lk rfl) (So.gn (b := true) rfl rfl rfl (lk rfl) (lk rfl) (So.gn (b := true) rfl rfl rfl (lk rfl) (lk rfl) (So.gn (b := true) rfl rfl rfl (lk rfl) (lk rfl) (So.gn (b := true) rfl rfl rfl (lk rfl) (lk rfl) (So.gn (b := true) rfl rfl rfl (lk rfl) (lk rfl) (So.q rfl rfl (V.pkTrue (u := .p (.v (.bool true))) rfl rfl (So.e ?_))))))))
   show HT _ _ _ _ _
   refine R.condT rfl ?_
   refine HT.seq ?_
   exfalso; exact absurd rfl (by assumption)
 ·have h1 := of_decide_eq_false (bnT h1)
  refine So.gn (b := true) rfl rfl rfl (lk rfl) (lk rfl) (So.gn (b := true) rfl rfl rfl (lk rfl) (lk rfl) (So.gn (b := true) rfl rfl rfl (lk rfl) (lk rfl) (So.gn (b := true) rfl rfl rfl (lk rfl) (lk rfl) (So.gn (b := true) rfl rfl rfl (lk rfl) (lk rfl) (So.gn (b := true) rfl rfl rfl (lk rfl) (lk rfl) (So.q rfl rfl (V.pkTrue (u := .p (.v (.bool true))) rfl rfl (So.q rfl rfl (V.mv (v := .p (.v (.bool true))) rfl (So.gn (b := true) rfl rfl rfl (lk rfl) (lk rfl) (So.gn (b := true) rfl rfl rfl (lk rfl) (lk rfl) ?_)))))))))))
  refine So.gn (b := true) rfl rfl rfl (lk rfl) (lk rfl) (So.gn (b := true) rfl rfl rfl (lk rfl) (lk rfl) (So.gn (b := true) rfl rfl rfl (lk rfl) (lk rfl) (So.gn (b := true) rfl rfl rfl (lk rfl) (lk rfl) (So.gn (b := true) rfl rfl rfl (lk rfl) (lk rfl) (So.q rfl rfl (V.pkTrue (u := .p (.v (.bool true))) rfl rfl (So.e ?_)))))))
  show HT _ _ _ _ _
  refine R.condT rfl ?_
  refine HT.seq ?_
  exfalso; omega
def greatSp : Sp := ⟨[], mkE (α := Int × (List UInt8) × KL) (fun (g, s, K) => [.agg 3 (fun j => ([.v (.int .i64 g), .bs s, .sl (K).length 2 (kR K)] : List PV).getD j (.v undef))]) (fun (g, s, K) => []) (fun (g, s, K) => True) (fun (g, s, K) => [.p (.v (.bool (decide (1000 < (s.length : Int) ∨ 100 < (K.length : Int)))))]) (fun (g, s, K) => [])⟩
def S_great : FuncId → Option Sp := fun _ => none
theorem S_great_ok : ∀ f s, S_great f = some s → FOK Tryd.prog gl f s := fun f s h => by cases h
set_option maxHeartbeats 1000000 in
set_option maxRecDepth 20000 in
theorem great_ok : FOK Tryd.prog gl 13 greatSp := by
 refine FOK.ofE (tyOf_ok Tryd.prog) (slots := [2]) (nt := 13) Tryd.func13 rfl rfl rfl rfl (by decide) 1 (fun ⟨_, _, _⟩ => rfl) (by decide) (fun ⟨_, _, _⟩ => ⟨trivial, trivial⟩) ?_
 rintro ⟨g, s, K⟩ kk hlen hpre h
 replace hpre : True := hpre
 show HT (cx Tryd.prog 13 (tyOf Tryd.prog) gl []) _ [(0, .agg 3 (fun j => ([.v (.int .i64 g), .bs s, .sl (K).length 2 (kR K)] : List PV).getD j (.v undef)))] [] _
 refine HT.seq (HT.region S_great_ok (So.n (lk rfl) (A.boxAg 1 1 (n := 3) rfl (by intro j hj; (match j, hj with | 0, _ => (trivial) | 1, _ => (trivial) | 2, _ => (trivial))) rfl trivial (So.q rfl rfl (V.as (v := .p (.v (.bool false))) rfl (So.e (HT.seq (HT.region S_great_ok (So.q rfl rfl (V.faPtr ty26 rfl ty22 (lk rfl) rfl rfl (lk rfl) (So.q rfl rfl (V.ldPtr ty22 rfl rfl rfl (lk rfl) (v := .p (.bs _)) rfl (So.q rfl rfl (V.len ty22 (v := .p (.bs _)) rfl rfl ?_))))))))))))))
 refine So.q rfl rfl (V.bin (a := .v (.int .i64 _)) (b := .v (.int .i64 1000)) (r := .v (.bool _)) rfl rfl rfl trivial (So.q rfl rfl (V.mv (v := .p (.v (.bool _))) rfl ?_)))
 refine So.gd rfl rfl (lk rfl) (lk rfl) (fun h1 => ?_) (fun h1 => ?_)
 ·have h1 := of_decide_eq_false h1
  refine A.v rfl (V.faPtr ty26 rfl ty24 (lk rfl) rfl rfl (lk rfl) (So.gy rfl rfl (lk rfl) (lk rfl) (A.v rfl (V.ldPtr ty24 rfl rfl rfl (lk rfl) (v := .p (.sl _ 2 _)) rfl (So.gy rfl rfl (lk rfl) (lk rfl) (A.v rfl (V.len ty24 (v := .p (.sl _ 2 _)) rfl rfl (So.gy rfl rfl (lk rfl) (lk rfl) (A.v rfl (V.bin (a := .v (.int .i64 _)) (b := .v (.int .i64 100)) (r := .v (.bool _)) rfl rfl rfl trivial (So.q rfl rfl (V.pkFalse (u := .p (.v (.bool _))) rfl rfl (So.q rfl rfl (V.as (v := .p (.v (.bool _))) rfl (So.e ?_)))))))))))))))
  show HT _ _ _ _ _
  refine HT.ret ?_
  exact ret_ok (sg []) h rfl rfl rfl trivial ⟨trivial, trivial⟩ rfl ⟨⟨⟨le_bool (by (refine dcg ?_; omega)), trivial⟩, trivial⟩, trivial⟩
 ·have h1 := of_decide_eq_true h1
  refine So.gn (b := true) rfl rfl rfl (lk rfl) (lk rfl) (So.gn (b := true) rfl rfl rfl (lk rfl) (lk rfl) (So.gn (b := true) rfl rfl rfl (lk rfl) (lk rfl) (So.q rfl rfl (V.pkTrue (u := .p (.v (.bool true))) rfl rfl (So.q rfl rfl (V.as (v := .p (.v (.bool true))) rfl (So.e ?_)))))))
  show HT _ _ _ _ _
  refine HT.ret ?_
  exact ret_ok (sg []) h rfl rfl rfl trivial ⟨trivial, trivial⟩ rfl ⟨⟨⟨le_bool (by (exact (decide_eq_true (by omega)).symm)), trivial⟩, trivial⟩, trivial⟩
def lawTellsSp : Sp := ⟨[], mkE (α := (List UInt8) × Int × Int × Int × (List UInt8) × KL × Int) (fun (e, d, f, g, s, K, gen) => [.p (.bs e), .p (.v (.int .i64 d)), .p (.v (.int .i64 f)), .agg 3 (fun j => ([.v (.int .i64 g), .bs s, .sl (K).length 2 (kR K)] : List PV).getD j (.v undef)), .p (.v (.int .i64 gen))]) (fun (e, d, f, g, s, K, gen) => []) (fun (e, d, f, g, s, K, gen) => gen ≤ 9223372036854775807) (fun (e, d, f, g, s, K, gen) => [.p (.v (.bool true))]) (fun (e, d, f, g, s, K, gen) => [])⟩
def S_lawTells : FuncId → Option Sp := fun f => if f = 8 then some headSp else if f = 13 then some greatSp else if f = 9 then some rnewSp else if f = 12 then some rsecretSp else if f = 14 then some dsecretSp else if f = 16 then some dnewSp else if f = 15 then some dsameSp else if f = 10 then some rrightSp else if f = 17 then some drightSp else if f = 18 then some rnextSp else if f = 19 then some dnextSp else if f = 11 then some rtakeSp else if f = 20 then some dtakeSp else none
theorem S_lawTells_ok : ∀ f s, S_lawTells f = some s → FOK Tryd.prog gl f s := fun f s h => by
 unfold S_lawTells at h
 rcases ite_some h with ⟨rfl, rfl⟩ | h
 ·exact head_ok
 rcases ite_some h with ⟨rfl, rfl⟩ | h
 ·exact great_ok
 rcases ite_some h with ⟨rfl, rfl⟩ | h
 ·exact rnew_ok
 rcases ite_some h with ⟨rfl, rfl⟩ | h
 ·exact rsecret_ok
 rcases ite_some h with ⟨rfl, rfl⟩ | h
 ·exact dsecret_ok
 rcases ite_some h with ⟨rfl, rfl⟩ | h
 ·exact dnew_ok
 rcases ite_some h with ⟨rfl, rfl⟩ | h
 ·exact dsame_ok
 rcases ite_some h with ⟨rfl, rfl⟩ | h
 ·exact rright_ok
 rcases ite_some h with ⟨rfl, rfl⟩ | h
 ·exact dright_ok
 rcases ite_some h with ⟨rfl, rfl⟩ | h
 ·exact rnext_ok
 rcases ite_some h with ⟨rfl, rfl⟩ | h
 ·exact dnext_ok
 rcases ite_some h with ⟨rfl, rfl⟩ | h
 ·exact rtake_ok
 rcases ite_some h with ⟨rfl, rfl⟩ | h
 ·exact dtake_ok
 cases h
theorem S_lawTells_det : ∀ f s, S_lawTells f = some s → SpDet s.sp := fun f s h => by
 unfold S_lawTells at h
 rcases ite_some h with ⟨e, rfl⟩ | h
 ·exact mkE_det _ _ _ _ _
 rcases ite_some h with ⟨e, rfl⟩ | h
 ·exact mkE_det _ _ _ _ _
 rcases ite_some h with ⟨e, rfl⟩ | h
 ·exact mkE_det _ _ _ _ _
 rcases ite_some h with ⟨e, rfl⟩ | h
 ·exact mkE_det _ _ _ _ _
 rcases ite_some h with ⟨e, rfl⟩ | h
 ·exact mkE_det _ _ _ _ _
 rcases ite_some h with ⟨e, rfl⟩ | h
 ·exact mkE_det _ _ _ _ _
 rcases ite_some h with ⟨e, rfl⟩ | h
 ·exact mkE_det _ _ _ _ _
 rcases ite_some h with ⟨e, rfl⟩ | h
 ·exact mkE_det _ _ _ _ _
 rcases ite_some h with ⟨e, rfl⟩ | h
 ·exact mkE_det _ _ _ _ _
 rcases ite_some h with ⟨e, rfl⟩ | h
 ·exact mkE_det _ _ _ _ _
 rcases ite_some h with ⟨e, rfl⟩ | h
 ·exact mkE_det _ _ _ _ _
 rcases ite_some h with ⟨e, rfl⟩ | h
 ·exact mkE_det _ _ _ _ _
 rcases ite_some h with ⟨e, rfl⟩ | h
 ·exact mkE_det _ _ _ _ _
 cases h
set_option maxHeartbeats 1000000 in
set_option maxRecDepth 20000 in
theorem lawTells_ok : FOK Tryd.prog gl 6 lawTellsSp := by
 refine FOK.ofE (tyOf_ok Tryd.prog) (slots := [10]) (nt := 134) Tryd.func6 rfl rfl rfl rfl (by decide) 5 (fun ⟨_, _, _, _, _, _, _⟩ => rfl) (by decide) (fun ⟨_, _, _, _, _, _, _⟩ => ⟨trivial, trivial, trivial, trivial, trivial, trivial⟩) ?_
 rintro ⟨e, d, f, g, s, K, gen⟩ kk hlen hpre h
 have hl0 : (e).length ≤ 9223372036854775807 := hlen.1
 replace hpre : gen ≤ 9223372036854775807 := hpre
 show HT (cx Tryd.prog 134 (tyOf Tryd.prog) gl []) _ [(0, .p (.bs e)), (1, .p (.v (.int .i64 d))), (2, .p (.v (.int .i64 f))), (3, .agg 3 (fun j => ([.v (.int .i64 g), .bs s, .sl (K).length 2 (kR K)] : List PV).getD j (.v undef))), (4, .p (.v (.int .i64 gen)))] [] _
 have hnk := nx_kl g s K
 have htk := tk_kl g s K gen
 refine HT.seq (HT.region S_lawTells_ok (So.n (lk rfl) (A.boxAg 1 1 (n := 3) rfl (by intro j hj; (match j, hj with | 0, _ => (trivial) | 1, _ => (trivial) | 2, _ => (trivial))) rfl trivial (So.q rfl rfl (V.as (v := .p (.v (.bool false))) rfl (So.e (HT.seq (HT.region S_lawTells_ok ?_))))))))
 refine So.n (lk rfl) (A.call0 [] 2 rfl rfl rfl rfl trivial trivial () trivial trivial (by trivial) (Φ := fun _ => True) (fun _ _ => trivial) (.inl rfl) (v := .p (.v (.bool true))) rfl (O' := _) rfl (fun h1 => ?_))
 refine So.q rfl rfl (V.as (v := .p (.v (.bool true))) rfl (So.e (HT.seq (HT.seq (HT.region S_lawTells_ok (So.q rfl rfl (V.mv (v := .p (.bs _)) rfl (So.q rfl rfl (V.len ty22 (v := .p (.bs _)) rfl rfl (So.q rfl rfl (V.bin (a := .v (.int .i64 _)) (b := .v (.int .i64 1000)) (r := .v (.bool _)) rfl rfl rfl trivial (So.q rfl rfl (V.mv (v := .p (.v (.bool _))) rfl ?_)))))))))))))
 refine So.gd rfl rfl (lk rfl) (lk rfl) (fun h2 => ?_) (fun h2 => ?_)
 ·have h2 := of_decide_eq_false h2
  refine A.v rfl (V.ldPtrA ty26 rfl rfl rfl rfl (lk rfl) (So.gy rfl rfl (lk rfl) (lk rfl) ?_))
  refine A.call0 [.agg 3 _] 2 rfl rfl rfl rfl ⟨trivial, trivial⟩ trivial (g, s, K) ⟨le_agg (fun j hj => by match j, hj with | 0, _ => rfl | 1, _ => rfl | 2, _ => rfl), trivial⟩ trivial (by trivial) (Φ := fun _ => True) (fun _ _ => trivial) (.inl rfl) (v := .p (.v (.bool _))) rfl (O' := _) rfl (fun h3 => ?_)
  refine So.q rfl rfl (V.pkFalse (u := .p (.v (.bool _))) rfl rfl (So.e ?_))
  show HT _ _ _ _ _
  refine R.cond rfl rfl (fun h4 => ?_) (fun h4 => ?_)
  ·have h4 := of_decide_eq_true h4
   refine HT.seq (HT.region S_lawTells_ok (So.q rfl rfl (V.mv (v := .p (.v (.bool true))) rfl (So.q rfl rfl (V.as (v := .p (.v (.bool true))) rfl (So.e ?_))))))
   show HT _ _ _ _ _
   refine HT.ret ?_
   exact ret_ok (sg []) h rfl rfl rfl trivial ⟨trivial, trivial⟩ rfl ⟨⟨⟨le_bool (by with_reducible rfl), trivial⟩, trivial⟩, trivial⟩
  ·have h4 := of_decide_eq_false h4
   refine HT.skip (HT.seq (HT.region S_lawTells_ok (So.q rfl rfl (V.mv (v := .p (.bs _)) rfl ?_))))
   refine So.n (lk rfl) (A.call0 [.p (.bs _)] 2 rfl rfl rfl rfl ⟨trivial, trivial⟩ trivial _ ⟨.refl _, trivial⟩ trivial (by trivial) (Φ := fun _ => True) (fun _ _ => trivial) (.inl rfl) (v := .agg 3 _) rfl (O' := _) rfl (fun h5 => ?_))
   refine So.n (lk rfl) (A.alloc 2 1 ty26 rfl trivial (f := fun j => ([.v (.int .i64 0), .v (.slice none 0 0), .v (.slice none 0 0)] : List PV).getD j (.v undef)) (fun j hj => by match j, hj with | 0, _ => rfl | 1, _ => rfl | 2, _ => rfl) (So.s (A.stoAg ty26 rfl (n := 3) rfl (by decide) (by intro j hj; (match j, hj with | 0, _ => (trivial) | 1, _ => (trivial) | 2, _ => (trivial))) rfl rfl rfl (So.e (HT.seq ?_)))))
   refine HT.drawn S_lawTells_ok S_lawTells_det mixed (by kernel_rfl) ?_
   refine Sd.n (lk rfl) (V.mv (v := .p (.bs _)) rfl (Sd.n (lk rfl) (V.mv (v := .p (.v (.int .i64 _))) rfl (Sd.n (lk rfl) (V.mv (v := .p (.v (.int .i64 _))) rfl ?_)))))
   refine Sd.n (lk rfl) (V.call [.p (.bs _), .p (.v (.int .i64 _)), .p (.v (.int .i64 _))] 3 rfl rfl rfl rfl ⟨trivial, trivial, trivial, trivial⟩ trivial (_, _, _) ⟨.refl _, .refl _, .refl _, trivial⟩ trivial (by trivial) (Φ := fun _ => True) (fun _ _ => trivial) (.inl ⟨trivial, trivial, trivial, trivial⟩) (v := .p (.bs _)) rfl (fun h6 => ?_))
   refine Sd.n (lk rfl) (V.cvBs ty9 rfl rfl (Sd.n (lk rfl) (V.mv (v := .p (.bs _)) rfl (Sd.n (lk rfl) (V.mv (v := .p (.v (.int .i64 _))) rfl (Sd.n (lk rfl) (V.mv (v := .p (.v (.int .i64 _))) rfl ?_)))))))
   refine Sd.n (lk rfl) (V.call [.p (.bs _), .p (.v (.int .i64 _)), .p (.v (.int .i64 _))] 3 rfl rfl rfl rfl ⟨trivial, trivial, trivial, trivial⟩ trivial (_, _, _) ⟨.refl _, .refl _, .refl _, trivial⟩ trivial (by trivial) (Φ := fun _ => True) (fun _ _ => trivial) (.inl ⟨trivial, trivial, trivial, trivial⟩) (v := .p (.bs _)) rfl (fun h7 => ?_))
   refine Sd.n (lk rfl) (V.cvBs ty9 rfl rfl (Sd.n (lk rfl) (V.bin (a := .str _) (b := .str _) (r := .v (.bool _)) rfl rfl rfl trivial (Sd.n (lk rfl) (V.mv (v := .p (.v (.bool _))) rfl ?_)))))
   refine Sd.gd rfl rfl (lk rfl) (lk rfl) (fun h8 => ?_) (fun h8 => ?_)
   ·have h8 := of_decide_eq_true h8
    refine V.ldPtrA ty26 rfl rfl rfl rfl (lk rfl) ?_
    refine Sd.gy rfl rfl (lk rfl) (lk rfl) ?_
    refine V.mv (v := .p (.bs _)) rfl ?_
    refine Sd.gy rfl rfl (lk rfl) (lk rfl) ?_
    refine V.call [.p (.bs _)] 3 rfl rfl rfl rfl ⟨trivial, trivial⟩ trivial _ ⟨.refl _, trivial⟩ trivial (by trivial) (Φ := fun _ => True) (fun _ _ => trivial) (.inl ⟨trivial, trivial⟩) (v := .agg 3 _) rfl (fun h9 => ?_)
    refine Sd.gy rfl rfl (lk rfl) (lk rfl) ?_
    refine V.call [.agg 3 _, .agg 3 _] 3 rfl rfl rfl rfl ⟨trivial, trivial, trivial⟩ trivial (0, (if e.length = 32 then e else []), []) ⟨le_agg (fun j hj => by match j, hj with | 0, _ => rfl | 1, _ => (rfl) | 2, _ => rfl), le_agg (fun j hj => by match j, hj with | 0, _ => rfl | 1, _ => (rfl) | 2, _ => rfl), trivial⟩ trivial (by (simp; done)) (Φ := fun _ => True) (fun _ _ => trivial) (.inl ⟨trivial, trivial, trivial⟩) (v := .p (.v (.bool true))) rfl (fun h10 => ?_)
    refine Sd.n (lk rfl) (V.pkTrue (u := .p (.v (.bool true))) rfl rfl (Sd.n (lk rfl) (V.mv (v := .p (.v (.bool true))) rfl (Sd.gy rfl rfl (lk rfl) (lk rfl) ?_))))
    refine V.ldPtrA ty26 rfl rfl rfl rfl (lk rfl) ?_
    refine Sd.gy rfl rfl (lk rfl) (lk rfl) ?_
    refine V.call [.agg 3 _] 3 rfl rfl rfl rfl ⟨trivial, trivial⟩ trivial (g, s, K) ⟨le_agg (fun j hj => by match j, hj with | 0, _ => rfl | 1, _ => rfl | 2, _ => rfl), trivial⟩ trivial (by omega) (Φ := fun _ => True) (fun _ _ => trivial) (.inl ⟨trivial, trivial⟩) (v := .p (.v (.bool _))) rfl (fun h11 => ?_)
    refine Sd.gy rfl rfl (lk rfl) (lk rfl) ?_
    refine V.ldPtrA ty26 rfl rfl rfl rfl (lk rfl) ?_
    refine Sd.gy rfl rfl (lk rfl) (lk rfl) ?_
    refine V.call [.agg 3 _] 3 rfl rfl rfl rfl ⟨trivial, trivial⟩ trivial (g, s, K) ⟨le_agg (fun j hj => by match j, hj with | 0, _ => rfl | 1, _ => rfl | 2, _ => rfl), trivial⟩ trivial (by omega) (Φ := fun _ => True) (fun _ _ => trivial) (.inl ⟨trivial, trivial⟩) (v := .p (.v (.bool _))) rfl (fun h12 => ?_)
    refine Sd.gy rfl rfl (lk rfl) (lk rfl) ?_
    refine V.eqBool ty4 rfl rfl ?_
    refine Sd.n (lk rfl) (V.pkTrue (u := .p (.v (.bool _))) rfl rfl (Sd.n (lk rfl) (V.as (v := .p (.v (.bool _))) rfl (Sd.e (HT.seq (HT.region S_lawTells_ok (So.q rfl rfl (V.ldPtrA ty26 rfl rfl rfl rfl (lk rfl) ?_))))))))
    refine So.n (lk rfl) (A.call0 [.agg 3 _] 3 rfl rfl rfl rfl ⟨trivial, trivial⟩ trivial (g, s, K) ⟨le_agg (fun j hj => by match j, hj with | 0, _ => rfl | 1, _ => rfl | 2, _ => rfl), trivial⟩ trivial (by omega) (Φ := fun _ => True) (fun _ _ => trivial) (.inl rfl) (v := .tup 4 _) rfl (O' := _) rfl (fun h13 => ?_))
    refine So.q rfl rfl (V.mv (v := .tup 4 _) rfl (So.q rfl rfl (V.ext rfl (lk rfl) (v := .agg 3 _) rfl (So.q rfl rfl (V.ext rfl (lk rfl) (v := .p (.v (.int .i64 _))) rfl (So.q rfl rfl (V.ext rfl (lk rfl) (v := .p (.bs _)) rfl (So.q rfl rfl (V.ext rfl (lk rfl) (v := .p (.v (.int .i64 _))) rfl (So.n (lk rfl) (A.alloc 3 1 ty26 rfl trivial (f := fun j => ([.v (.int .i64 0), .v (.slice none 0 0), .v (.slice none 0 0)] : List PV).getD j (.v undef)) (fun j hj => by match j, hj with | 0, _ => rfl | 1, _ => rfl | 2, _ => rfl) (So.s (A.stoAg ty26 rfl (n := 3) rfl (by decide) (by intro j hj; (match j, hj with | 0, _ => (trivial) | 1, _ => (trivial) | 2, _ => (trivial))) rfl rfl rfl (So.q rfl rfl (V.as (v := .p (.v (.int .i64 _))) rfl (So.q rfl rfl (V.as (v := .p (.bs _)) rfl (So.q rfl rfl (V.as (v := .p (.v (.int .i64 _))) rfl ?_)))))))))))))))))))
    refine So.e (HT.seq (HT.region S_lawTells_ok (So.q rfl rfl (V.ldPtrA ty26 rfl rfl rfl rfl (lk rfl) ?_))))
    refine So.n (lk rfl) (A.call0 [.agg 3 _] 4 rfl rfl rfl rfl ⟨trivial, trivial⟩ trivial (g, s, K) ⟨le_agg (fun j hj => by match j, hj with | 0, _ => rfl | 1, _ => rfl | 2, _ => rfl), trivial⟩ trivial (by omega) (Φ := fun _ => True) (fun _ _ => trivial) (.inl rfl) (v := .tup 4 _) rfl (O' := _) rfl (fun h14 => ?_))
    refine So.q rfl rfl (V.mv (v := .tup 4 _) rfl (So.q rfl rfl (V.ext rfl (lk rfl) (v := .agg 3 _) rfl (So.q rfl rfl (V.ext rfl (lk rfl) (v := .p (.v (.int .i64 _))) rfl (So.q rfl rfl (V.ext rfl (lk rfl) (v := .p (.bs _)) rfl (So.q rfl rfl (V.ext rfl (lk rfl) (v := .p (.v (.int .i64 _))) rfl (So.n (lk rfl) (A.alloc 4 1 ty26 rfl trivial (f := fun j => ([.v (.int .i64 0), .v (.slice none 0 0), .v (.slice none 0 0)] : List PV).getD j (.v undef)) (fun j hj => by match j, hj with | 0, _ => rfl | 1, _ => rfl | 2, _ => rfl) (So.s (A.stoAg ty26 rfl (n := 3) rfl (by decide) (by intro j hj; (match j, hj with | 0, _ => (trivial) | 1, _ => (trivial) | 2, _ => (trivial))) rfl rfl rfl (So.q rfl rfl (V.as (v := .p (.v (.int .i64 _))) rfl (So.q rfl rfl (V.as (v := .p (.bs _)) rfl (So.q rfl rfl (V.as (v := .p (.v (.int .i64 _))) rfl ?_)))))))))))))))))))
    refine So.e (HT.seq (HT.region S_lawTells_ok (So.q rfl rfl (V.ldPtrA ty26 rfl rfl rfl rfl (lk rfl) (So.q rfl rfl (V.mv (v := .p (.v (.int .i64 _))) rfl ?_))))))
    refine So.n (lk rfl) (A.call0 [.agg 3 _, .p (.v (.int .i64 _))] 5 rfl rfl rfl rfl ⟨trivial, trivial, trivial⟩ trivial (g, s, K, gen) ⟨le_agg (fun j hj => by match j, hj with | 0, _ => rfl | 1, _ => (rfl) | 2, _ => rfl), .refl _, trivial⟩ trivial (by omega) (Φ := fun _ => True) (fun _ _ => trivial) (.inl rfl) (v := .tup 3 _) rfl (O' := _) rfl (fun h15 => ?_))
    refine So.q rfl rfl (V.mv (v := .tup 3 _) rfl (So.q rfl rfl (V.ext rfl (lk rfl) (v := .agg 3 _) rfl (So.q rfl rfl (V.ext rfl (lk rfl) (v := .p (.bs _)) rfl (So.q rfl rfl (V.ext rfl (lk rfl) (v := .p (.v (.int .i64 _))) rfl (So.n (lk rfl) (A.alloc 5 1 ty26 rfl trivial (f := fun j => ([.v (.int .i64 0), .v (.slice none 0 0), .v (.slice none 0 0)] : List PV).getD j (.v undef)) (fun j hj => by match j, hj with | 0, _ => rfl | 1, _ => rfl | 2, _ => rfl) (So.s (A.stoAg ty26 rfl (n := 3) rfl (by decide) (by intro j hj; (match j, hj with | 0, _ => (trivial) | 1, _ => (trivial) | 2, _ => (trivial))) rfl rfl rfl (So.q rfl rfl (V.as (v := .p (.bs _)) rfl (So.q rfl rfl (V.as (v := .p (.v (.int .i64 _))) rfl (So.e (HT.seq ?_)))))))))))))))))
    refine HT.region S_lawTells_ok (So.q rfl rfl (V.ldPtrA ty26 rfl rfl rfl rfl (lk rfl) (So.q rfl rfl (V.mv (v := .p (.v (.int .i64 _))) rfl ?_))))
    refine So.n (lk rfl) (A.call0 [.agg 3 _, .p (.v (.int .i64 _))] 6 rfl rfl rfl rfl ⟨trivial, trivial, trivial⟩ trivial (g, s, K, gen) ⟨le_agg (fun j hj => by match j, hj with | 0, _ => rfl | 1, _ => (rfl) | 2, _ => rfl), .refl _, trivial⟩ trivial (by omega) (Φ := fun _ => True) (fun _ _ => trivial) (.inl rfl) (v := .tup 3 _) rfl (O' := _) rfl (fun h16 => ?_))
    refine So.q rfl rfl (V.mv (v := .tup 3 _) rfl (So.q rfl rfl (V.ext rfl (lk rfl) (v := .agg 3 _) rfl (So.q rfl rfl (V.ext rfl (lk rfl) (v := .p (.bs _)) rfl (So.q rfl rfl (V.ext rfl (lk rfl) (v := .p (.v (.int .i64 _))) rfl (So.n (lk rfl) (A.alloc 6 1 ty26 rfl trivial (f := fun j => ([.v (.int .i64 0), .v (.slice none 0 0), .v (.slice none 0 0)] : List PV).getD j (.v undef)) (fun j hj => by match j, hj with | 0, _ => rfl | 1, _ => rfl | 2, _ => rfl) (So.s (A.stoAg ty26 rfl (n := 3) rfl (by decide) (by intro j hj; (match j, hj with | 0, _ => (trivial) | 1, _ => (trivial) | 2, _ => (trivial))) rfl rfl rfl (So.q rfl rfl (V.as (v := .p (.bs _)) rfl (So.q rfl rfl (V.as (v := .p (.v (.int .i64 _))) rfl (So.e (HT.seq ?_)))))))))))))))))
    refine HT.region S_lawTells_ok (So.q rfl rfl (V.mv (v := .p (.v (.bool true))) rfl (So.q rfl rfl (V.mv (v := .p (.v (.bool true))) rfl (So.gy rfl rfl (lk rfl) (lk rfl) (A.v rfl (V.mv (v := .p (.v (.bool _))) rfl (So.q rfl rfl (V.pkTrue (u := .p (.v (.bool _))) rfl rfl (So.q rfl rfl (V.mv (v := .p (.v (.bool _))) rfl ?_)))))))))))
    refine So.gd rfl rfl (lk rfl) (lk rfl) (fun h17 => ?_) (fun h17 => ?_)
    ·have h17 := eq_of_beq h17
     refine A.v rfl (V.ldPtrA ty26 rfl rfl rfl rfl (lk rfl) (So.gy rfl rfl (lk rfl) (lk rfl) (A.v rfl (V.ldPtrA ty26 rfl rfl rfl rfl (lk rfl) (So.gy rfl rfl (lk rfl) (lk rfl) ?_)))))
     refine A.call0 [.agg 3 _, .agg 3 _] 7 rfl rfl rfl rfl ⟨trivial, trivial, trivial⟩ trivial ((nxR g s K).g, (nxR g s K).s, (nxR g s K).K) ⟨le_agg (fun j hj => by match j, hj with | 0, _ => rfl | 1, _ => (rfl) | 2, _ => rfl), le_agg (fun j hj => by match j, hj with | 0, _ => rfl | 1, _ => (rfl) | 2, _ => rfl), trivial⟩ trivial (by omega) (Φ := fun _ => True) (fun _ _ => trivial) (.inl rfl) (v := .p (.v (.bool true))) rfl (O' := _) rfl (fun h18 => ?_)
     refine So.q rfl rfl (V.pkTrue (u := .p (.v (.bool true))) rfl rfl (So.q rfl rfl (V.mv (v := .p (.v (.bool true))) rfl (So.gy rfl rfl (lk rfl) (lk rfl) (A.v rfl (V.mv (v := .p (.v (.int .i64 _))) rfl (So.gy rfl rfl (lk rfl) (lk rfl) (A.v rfl (V.mv (v := .p (.v (.int .i64 _))) rfl (So.gy rfl rfl (lk rfl) (lk rfl) (A.v rfl (V.bin (a := .v (.int .i64 _)) (b := .v (.int .i64 _)) (r := .v (.bool _)) rfl rfl rfl trivial (So.q rfl rfl (V.pkTrue (u := .p (.v (.bool _))) rfl rfl (So.q rfl rfl (V.mv (v := .p (.v (.bool _))) rfl ?_))))))))))))))))
     refine So.gd rfl rfl (lk rfl) (lk rfl) (fun h19 => ?_) (fun h19 => ?_)
     ·have h19 := of_decide_eq_true h19
      refine A.v rfl (V.mv (v := .p (.bs _)) rfl (So.gy rfl rfl (lk rfl) (lk rfl) (A.v rfl (V.cvBs ty9 rfl rfl (So.gy rfl rfl (lk rfl) (lk rfl) (A.v rfl (V.mv (v := .p (.bs _)) rfl (So.gy rfl rfl (lk rfl) (lk rfl) (A.v rfl (V.cvBs ty9 rfl rfl (So.gy rfl rfl (lk rfl) (lk rfl) (A.v rfl (V.bin (a := .str _) (b := .str _) (r := .v (.bool _)) rfl rfl rfl trivial (So.q rfl rfl (V.pkTrue (u := .p (.v (.bool _))) rfl rfl ?_)))))))))))))))
      refine So.q rfl rfl (V.mv (v := .p (.v (.bool _))) rfl ?_)
      refine So.gd rfl rfl (lk rfl) (lk rfl) (fun h20 => ?_) (fun h20 => ?_)
      ·have h20 := of_decide_eq_true h20
       refine A.v rfl (V.mv (v := .p (.v (.int .i64 _))) rfl (So.gy rfl rfl (lk rfl) (lk rfl) (A.v rfl (V.mv (v := .p (.v (.int .i64 _))) rfl (So.gy rfl rfl (lk rfl) (lk rfl) (A.v rfl (V.bin (a := .v (.int .i64 _)) (b := .v (.int .i64 _)) (r := .v (.bool _)) rfl rfl rfl trivial (So.q rfl rfl (V.pkTrue (u := .p (.v (.bool _))) rfl rfl (So.q rfl rfl (V.mv (v := .p (.v (.bool _))) rfl ?_)))))))))))
       refine So.gd rfl rfl (lk rfl) (lk rfl) (fun h21 => ?_) (fun h21 => ?_)
       ·have h21 := of_decide_eq_true h21
        refine A.v rfl (V.ldPtrA ty26 rfl rfl rfl rfl (lk rfl) (So.gy rfl rfl (lk rfl) (lk rfl) (A.v rfl (V.ldPtrA ty26 rfl rfl rfl rfl (lk rfl) (So.gy rfl rfl (lk rfl) (lk rfl) ?_)))))
        refine A.call0 [.agg 3 _, .agg 3 _] 7 rfl rfl rfl rfl ⟨trivial, trivial, trivial⟩ trivial ((takeF g s K gen).g, (takeF g s K gen).s, (takeF g s K gen).K) ⟨le_agg (fun j hj => by match j, hj with | 0, _ => rfl | 1, _ => (rfl) | 2, _ => rfl), le_agg (fun j hj => by match j, hj with | 0, _ => rfl | 1, _ => (rfl) | 2, _ => rfl), trivial⟩ trivial (by omega) (Φ := fun _ => True) (fun _ _ => trivial) (.inl rfl) (v := .p (.v (.bool true))) rfl (O' := _) rfl (fun h22 => ?_)
        refine So.q rfl rfl (V.pkTrue (u := .p (.v (.bool true))) rfl rfl (So.q rfl rfl (V.mv (v := .p (.v (.bool true))) rfl (So.gy rfl rfl (lk rfl) (lk rfl) (A.v rfl (V.mv (v := .p (.bs _)) rfl (So.gy rfl rfl (lk rfl) (lk rfl) (A.v rfl (V.cvBs ty9 rfl rfl (So.gy rfl rfl (lk rfl) (lk rfl) (A.v rfl (V.mv (v := .p (.bs _)) rfl (So.gy rfl rfl (lk rfl) (lk rfl) (A.v rfl (V.cvBs ty9 rfl rfl ?_)))))))))))))))
        refine So.gy rfl rfl (lk rfl) (lk rfl) (A.v rfl (V.bin (a := .str _) (b := .str _) (r := .v (.bool _)) rfl rfl rfl trivial (So.q rfl rfl (V.pkTrue (u := .p (.v (.bool _))) rfl rfl (So.q rfl rfl (V.mv (v := .p (.v (.bool _))) rfl ?_))))))
        refine So.gd rfl rfl (lk rfl) (lk rfl) (fun h23 => ?_) (fun h23 => ?_)
        ·have h23 := of_decide_eq_true h23
         refine A.v rfl (V.mv (v := .p (.v (.int .i64 _))) rfl (So.gy rfl rfl (lk rfl) (lk rfl) (A.v rfl (V.mv (v := .p (.v (.int .i64 _))) rfl (So.gy rfl rfl (lk rfl) (lk rfl) (A.v rfl (V.bin (a := .v (.int .i64 _)) (b := .v (.int .i64 _)) (r := .v (.bool _)) rfl rfl rfl trivial (So.q rfl rfl (V.pkTrue (u := .p (.v (.bool _))) rfl rfl (So.q rfl rfl (V.as (v := .p (.v (.bool _))) rfl (So.e ?_))))))))))))
         show HT _ _ _ _ _
         refine HT.ret ?_
         exact ret_ok (sg []) h rfl rfl rfl trivial ⟨trivial, trivial⟩ rfl ⟨⟨⟨le_bool (by exact decide_eq_true rfl), trivial⟩, trivial⟩, trivial⟩
        ·have h23 := of_decide_eq_false h23
         exact absurd (by with_reducible rfl) h23
       ·have h21 := of_decide_eq_false h21
        exact absurd (by with_reducible rfl) h21
      ·have h20 := of_decide_eq_false h20
       exact absurd (by with_reducible rfl) h20
     ·have h19 := of_decide_eq_false h19
      exact absurd (by with_reducible rfl) h19
    ·exact absurd h17 (by (rw [beq_self_eq_true]; decide))
   ·have h8 := of_decide_eq_false h8
    exact absurd (by with_reducible rfl) h8
 ·have h2 := of_decide_eq_true h2
  refine So.gn (b := true) rfl rfl rfl (lk rfl) (lk rfl) (So.q rfl rfl (V.pkTrue (u := .p (.v (.bool true))) rfl rfl (So.e ?_)))
  show HT _ _ _ _ _
  refine R.condT rfl ?_
  refine HT.seq (HT.region S_lawTells_ok (So.q rfl rfl (V.mv (v := .p (.v (.bool true))) rfl (So.q rfl rfl (V.as (v := .p (.v (.bool true))) rfl (So.e ?_))))))
  show HT _ _ _ _ _
  refine HT.ret ?_
  exact ret_ok (sg []) h rfl rfl rfl trivial ⟨trivial, trivial⟩ rfl ⟨⟨⟨le_bool (by with_reducible rfl), trivial⟩, trivial⟩, trivial⟩
end Go.Vh
