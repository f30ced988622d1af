/- What is proved: each function of the seat's program does what its contract says, wherever it is called; no condition. -/
import Derived.Test.YtdpdgejnfhjomaaDoorWalk0
import Derived.Test.YtdpdgejnfhjomaaDoorPure0
set_option linter.unusedVariables false
set_option linter.unusedSimpArgs false
set_option maxHeartbeats 4000000
set_option maxRecDepth 40000
namespace Go.Vh
open Go Go.Vc Go.Proofs Go.Vw
def fgetSp : Sp := ⟨[], mkE (α := (List UInt8)) (fun b => [.p (.bs b)]) (fun b => []) (fun b => True) (fun b => [.agg 8 (fun j => ([.bs (gmG b), .v (.int .i64 (gmP b)), .v (.int .i64 (gmF b)), .v (.int .i64 (gmK b)), .bs (gmB b), .bs (gmS b), .bs (gmC b), .bs (gmM b)] : List PV).getD j (.v undef)), .p (.v (.int .i64 ((gmE b))))]) (fun b => [])⟩
def S_fget : FuncId -> Option Sp := fun f => if f = 35 then some rtext_4Sp else if f = 36 then some rplaceSp else if f = 37 then some frnumSp else if f = 38 then some rendSp else if f = 39 then some fmsgSp else none
theorem S_fget_ok : ∀ f s, S_fget f = some s -> FOK Tryd.prog gl f s := sI rtext_4_ok (sI rplace_ok (sI frnum_ok (sI rend_ok (sI fmsg_ok sN))))
theorem S_fget_det : ∀ f s, S_fget f = some s -> SpDet s.sp := dI (dI (dI (dI (dI dN))))
def S_fget_1 : FuncId -> Option Sp := fun f => if f = 35 then some rtext_bSp else none
theorem S_fget_1_ok : ∀ f s, S_fget_1 f = some s -> FOK Tryd.prog gl f s := sI rtext_b_ok sN
theorem fget_ok : FOK Tryd.prog gl 19 fgetSp := by
 refine FOK.ofEC (tyOf_ok Tryd.prog) (rvs := [.cell 2 49, .tmp 3]) (nt := 63) Tryd.func19 rfl rfl rfl rfl (by decide) 1 (fun _ => rfl) (by decide) (fun _ => ⟨trivial, trivial⟩) ?_
 rintro b kk hlen hpre h
 have hl0 : (b).length <= 9223372036854775807 := hlen.1
 replace hpre : True := hpre
 show HT (cx Tryd.prog 63 (tyOf Tryd.prog) gl []) _ [(0, .p (.bs b))] [] _
 refine HT.seq (HT.region S_fget_ok (So.n (lk rfl) (A.alloc 1 1 ty49 rfl trivial (f := fun j => ([.v (.slice none 0 0), .v (.int .i64 0), .v (.int .i64 0), .v (.int .i64 0), .v (.slice none 0 0), .v (.slice none 0 0), .v (.slice none 0 0), .v (.slice none 0 0)] : List PV).getD j (.v undef)) (fun j hj => by match j, hj with | 0, _ => rfl | 1, _ => rfl | 2, _ => rfl | 3, _ => rfl | 4, _ => rfl | 5, _ => rfl | 6, _ => rfl | 7, _ => rfl) (Sq (V.as (v := .p (.v (.int .i64 0))) rfl (So.e (HT.seq (HT.region S_fget_ok (So.n (lk rfl) (A.alloc 2 1 ty49 rfl trivial (f := fun j => ([.v (.slice none 0 0), .v (.int .i64 0), .v (.int .i64 0), .v (.int .i64 0), .v (.slice none 0 0), .v (.slice none 0 0), .v (.slice none 0 0), .v (.slice none 0 0)] : List PV).getD j (.v undef)) (fun j hj => by match j, hj with | 0, _ => rfl | 1, _ => rfl | 2, _ => rfl | 3, _ => rfl | 4, _ => rfl | 5, _ => rfl | 6, _ => rfl | 7, _ => rfl) (So.e (HT.seq (HT.region S_fget_ok (So.n (lk rfl) (A.bldS ty72 rfl rfl trivial rfl (f := fun j => ([.v (.slice none 0 0), .v (.int .i64 0), .v (.int .i64 0)] : List PV).getD j (.v undef)) (by exact allP_spec (P := fun j => _ = _) ⟨⟨⟨trivial, rfl⟩, rfl⟩, rfl⟩) (So.n (lk rfl) (A.boxAg 3 1 (n := 3) rfl (by intro j hj; (match j, hj with | 0, _ => (trivial) | 1, _ => (trivial) | 2, _ => (trivial))) rfl trivial (Sq (V.as (v := .ptr 3 0) rfl (So.e (HT.seq (HT.region S_fget_ok (Sq (V.mv (v := .p (.bs _)) rfl (So.n (lk rfl) (A.bldS ty72 rfl rfl ⟨by exact trivial, trivial⟩ rfl (f := fun j => ([.bs b, .v (.int .i64 0), .v (.int .i64 0)] : List PV).getD j (.v undef)) (by exact allP_spec (P := fun j => _ = _) ⟨⟨⟨trivial, rfl⟩, rfl⟩, rfl⟩) (So.n (lk rfl) (A.boxAg 4 1 (n := 3) rfl (by intro j hj; (match j, hj with | 0, _ => (trivial) | 1, _ => (trivial) | 2, _ => (trivial))) rfl trivial (Sq (V.as (v := .ptr 4 0) rfl (So.e (HT.seq ?_))))))))))))))))))))))))))))))))
 refine R.tell [] [(2, ⟨49, 1, 8, true, .rows (fun j => if j = 5 then .bs [] else if j = 6 then .bs [] else if j = 7 then .bs [] else (fun j => ([.bs [], .v (.int .i64 0), .v (.int .i64 0), .v (.int .i64 0), .bs [], .v undef, .v undef, .v undef] : List PV).getD j (.v undef)) j)⟩), (3, ⟨72, 1, 3, true, .rows (fun j => if j = 0 then .bs [] else (fun _ => .v (.int .i64 0)) j)⟩)] [2, 3, 4, 5, 6] [1, 4] (fr0 := [(2, .ptr 1 0), (3, .p (.v (.int .i64 _))), (4, .ptr 2 0), (5, .ptr 3 0), (6, .ptr 4 0)]) (O0 := [(1, ⟨_, _, _, _, .rows _⟩), (4, ⟨_, _, _, _, .rows _⟩)]) rfl rfl ⟨⟨⟨.refl _, rfl⟩, ⟨.refl _, trivial⟩, ⟨.refl _, rfl⟩, ⟨.refl _, rfl⟩, ⟨.refl _, rfl⟩, trivial⟩, ⟨⟨_, rfl, .inr (ob_rowsL (by intro j hj; match j, hj with | 0, _ => exact le_nil rfl | 1, _ => exact .refl _ | 2, _ => exact .refl _ | 3, _ => exact .refl _ | 4, _ => exact le_nil rfl | 5, _ => exact le_nil rfl | 6, _ => exact le_nil rfl | 7, _ => exact le_nil rfl)), trivial⟩, ⟨_, rfl, .inr (ob_rowsL (by intro j hj; match j, hj with | 0, _ => exact le_nil rfl | 1, _ => exact .refl _ | 2, _ => exact .refl _)), trivial⟩, ⟨_, rfl, .inl rfl, trivial⟩, ⟨_, rfl, .inl rfl, trivial⟩, trivial⟩⟩ ?_
 refine HT.region S_fget_ok (Sq (V.mv (v := .ptr 4 0) rfl (Sq (V.mv (v := .ptr 3 0) rfl (Sq (V.ncPtr rfl (Sq (V.fa ty72 rfl ty23 rfl rfl (Sq (V.fa ty49 rfl ty23 rfl rfl (Sq (V.fa ty49 rfl ty23 rfl rfl (Sq (V.fa ty49 rfl ty23 rfl rfl (So.n (lk rfl) (A.bsl 5 ty61 ty64 rfl (lk rfl) (lk rfl) (fun _ => rfl) rfl rfl trivial ⟨trivial, trivial, trivial, trivial, trivial⟩ rfl (N := 4) rfl (c := .cells [.ptr 3 0, .ptr 2 5, .ptr 2 6, .ptr 2 7]) rfl ?_))))))))))))))))
 refine So.n (lk rfl) (A.call [.ptr 1 _, .own 3 _ _] [(1, ⟨_, _, _, _, .rows _⟩), (2, ⟨_, _, _, _, .rows _⟩), (4, ⟨_, _, _, _, .rows _⟩), (3, ⟨_, _, _, _, .cells [.ptr 2 0, .ptr 4 5, .ptr 4 6, .ptr 4 7]⟩)] (sg [(1, 4), (3, 5), (2, 3), (4, 2)]) 6 rfl rfl rfl rfl ⟨rfl, rfl, rfl, rfl, trivial⟩ rfl ⟨trivial, trivial, trivial, ⟨rfl, rfl, rfl, rfl, trivial⟩, trivial⟩ ⟨rfl, rfl, trivial⟩ trivial rfl (b, 0, 0, fun _ => .v (.int .i64 0), fun j => ([.bs [], .v (.int .i64 0), .v (.int .i64 0), .v (.int .i64 0), .bs [], .v undef, .v undef, .v undef] : List PV).getD j (.v undef)) ⟨.refl _, .refl _, trivial⟩ ⟨⟨_, rfl, .inl rfl, trivial⟩, ⟨_, rfl, .inl rfl, trivial⟩, ⟨_, rfl, .inl rfl, trivial⟩, ⟨_, rfl, .inl rfl, ⟨rfl, rfl, rfl, rfl, trivial⟩⟩, trivial⟩ (by trivial) tT ⟨⟨_, _, rfl, rfl, rfl, Nat.le_refl _⟩, ⟨_, _, rfl, rfl, rfl, Nat.le_refl _⟩, ⟨_, _, rfl, rfl, rfl, Nat.le_refl _⟩, trivial⟩ (.inl rfl) rfl (v := .tup 0 _) rfl (O' := (4, ⟨_, _, _, _, .rows _⟩) :: (3, ⟨_, _, _, _, .rows _⟩) :: (2, ⟨_, _, _, _, .rows _⟩) :: _) rfl (fun h1 => ?_))
 refine So.e (HT.seq (HT.seq ?_))
 refine R.tell [] [(2, ⟨49, 1, 8, true, .rows (fun j => ([.bs [], .v (.int .i64 0), .v (.int .i64 0), .v (.int .i64 0), .bs [], .bs ((rd2 b 0 0).1), .bs ((rd3 b 0 0).1), .bs ((rd4 b 0 0).1)] : List PV).getD j (.v undef))⟩), (3, ⟨72, 1, 3, true, .rows (fun j => ([.bs ((rdT b 0 0).1), .v (.int .i64 0), .v (.int .i64 0)] : List PV).getD j (.v undef))⟩), (4, ⟨72, 1, 3, true, .rows (fun j => ([.bs b, .v (.int .i64 (rd4 b 0 0).2.1), .v (.int .i64 (rd4 b 0 0).2.2)] : List PV).getD j (.v undef))⟩)] [2, 3, 4, 5, 6] [1] (fr0 := [(2, .ptr 1 0), (3, .p (.v (.int .i64 _))), (4, .ptr 2 0), (5, .ptr 3 0), (6, .ptr 4 0)]) (O0 := [(1, ⟨_, _, _, _, .rows _⟩)]) rfl rfl ⟨⟨⟨.refl _, rfl⟩, ⟨.refl _, trivial⟩, ⟨.refl _, rfl⟩, ⟨.refl _, rfl⟩, ⟨.refl _, rfl⟩, trivial⟩, ⟨⟨_, rfl, .inr (ob_rowsL (by intro j hj; match j, hj with | 0, _ => exact .refl _ | 1, _ => exact .refl _ | 2, _ => exact .refl _ | 3, _ => exact .refl _ | 4, _ => exact .refl _ | 5, _ => exact .refl _ | 6, _ => exact .refl _ | 7, _ => exact .refl _)), trivial⟩, ⟨_, rfl, .inr (ob_rowsL (by intro j hj; match j, hj with | 0, _ => exact .refl _ | 1, _ => exact .refl _ | 2, _ => exact .refl _)), trivial⟩, ⟨_, rfl, .inr (ob_rowsL (by intro j hj; match j, hj with | 0, _ => exact .refl _ | 1, _ => exact .refl _ | 2, _ => exact .refl _)), trivial⟩, ⟨_, rfl, .inl rfl, trivial⟩, trivial⟩⟩ ?_
 refine HT.region S_fget_ok (Sq (V.mv (v := .ptr 4 0) rfl (Sq (V.ncPtr rfl (Sq (V.fa ty72 rfl ty27 rfl rfl (Sq (V.ld ty27 rfl rfl rfl (v := .p (.v (.int .i64 _))) rfl (Sq (V.bin (a := .v (.int .i64 _)) (b := .v (.int .i64 0)) (r := .v (.bool _)) rfl rfl rfl trivial (So.e ?_)))))))))))
 refine R.cond rfl rfl (fun h2 => ?_) (fun h2 => ?_)
 ·have h2 := of_decide_eq_false (bnT h2)
  refine HT.seq ?_
  refine HT.planS S_fget_ok S_fget_det mixed [1, 2, 3, 4, 6] [⟨[1, 2, 3, 4], 0, [1, 2, 3, 4]⟩, ⟨[1, 2, 3, 4], 5, [1, 2, 3, 4]⟩] (by kernel_rfl) ?_
  have hg : gmE b = (rd4 b 0 0).2.2 := gmE_1 (by assumption)
  have hg0 : ¬ gmE b = 0 := by rw [hg]; assumption
  refine Pl.lk ?_
  refine Sj rfl (V.mv (v := .ptr 4 0) rfl (Sj rfl (V.ncPtr rfl (Sj rfl (V.fa ty72 rfl ty27 rfl rfl (Sj rfl (V.ld ty27 rfl rfl rfl (v := .p (.v (.int .i64 _))) rfl (Si.e ?_))))))))
  refine ⟨flEq_nil, fun ff => ?_⟩
  refine Lo.n rfl (lk rfl) (A.bldS ty49 rfl rfl trivial rfl (f := fun j => ([.v (.slice none 0 0), .v (.int .i64 0), .v (.int .i64 0), .v (.int .i64 0), .v (.slice none 0 0), .v (.slice none 0 0), .v (.slice none 0 0), .v (.slice none 0 0)] : List PV).getD j (.v undef)) (by exact allP_spec (P := fun j => _ = _) ⟨⟨⟨⟨⟨⟨⟨⟨trivial, rfl⟩, rfl⟩, rfl⟩, rfl⟩, rfl⟩, rfl⟩, rfl⟩, rfl⟩) ?_)
  refine ⟨_, fun ff => ff, ap0d, rfl, FG.id, ?_⟩
  show planA _ _ _ _ _ [(1, .ptr 4 0), (2, .ptr 4 0), (3, .ptr 4 2), (4, .p (.v (.int .i64 _)))] _ _ _
  refine Pl.lk ?_
  refine Sj rfl (V.mv (v := .ptr 4 0) rfl (Sj rfl (V.ncPtr rfl (Sj rfl (V.fa ty72 rfl ty27 rfl rfl (Sj rfl (V.ld ty27 rfl rfl rfl (v := .p (.v (.int .i64 _))) rfl (Si.e ?_))))))))
  refine ⟨(flEq_cons rfl (flEq_cons rfl (flEq_cons rfl (flEq_cons rfl flEq_nil)))), fun ff => ?_⟩
  refine Lo.s rfl (A.stoAg ty49 rfl (n := 8) rfl (by decide) (by intro j hj; (match j, hj with | 0, _ => (trivial) | 1, _ => (trivial) | 2, _ => (trivial) | 3, _ => (trivial) | 4, _ => (trivial) | 5, _ => (trivial) | 6, _ => (trivial) | 7, _ => (trivial))) rfl rfl rfl ?_)
  refine ⟨_, fun ff => ff, ap0, rfl, FG.id, ?_⟩
  show planA _ _ _ _ _ [(1, .ptr 4 0), (2, .ptr 4 0), (3, .ptr 4 2), (4, .p (.v (.int .i64 _)))] _ _ _
  refine Pl.e ?_
  refine Sj rfl (V.mv (v := .ptr 4 0) rfl (Sj rfl (V.ncPtr rfl (Sj rfl (V.fa ty72 rfl ty27 rfl rfl (Sj rfl (V.ld ty27 rfl rfl rfl (v := .p (.v (.int .i64 _))) rfl (Sj rfl (V.ai rfl (Si.e ?_))))))))))
  refine ⟨(flEq_cons rfl (flEq_cons rfl (flEq_cons rfl (flEq_cons rfl flEq_nil)))), ?_⟩
  refine HT.ret ?_
  exact retC_ok (sg []) [(2, .ptr 1 0), (3, .p (.v (.int .i64 ((gmE b)))))] [(1, ⟨49, 1, 8, true, .rows (fun j => ([.bs (gmG b), .v (.int .i64 (gmP b)), .v (.int .i64 (gmF b)), .v (.int .i64 (gmK b)), .bs (gmB b), .bs (gmS b), .bs (gmC b), .bs (gmM b)] : List PV).getD j (.v undef))⟩)] h ⟨⟨⟨.refl _, rfl⟩, ⟨le_int (by exact hg.symm), trivial⟩, trivial⟩, ⟨⟨_, rfl, .inr (ob_rowsL (by intro j hj; match j, hj with | 0, _ => (exact gm_1 (b := b) hg0 0 (by decide)) | 1, _ => (exact gm_1 (b := b) hg0 1 (by decide)) | 2, _ => (exact gm_1 (b := b) hg0 2 (by decide)) | 3, _ => (exact gm_1 (b := b) hg0 3 (by decide)) | 4, _ => (exact gm_1 (b := b) hg0 4 (by decide)) | 5, _ => (exact gm_1 (b := b) hg0 5 (by decide)) | 6, _ => (exact gm_1 (b := b) hg0 6 (by decide)) | 7, _ => (exact gm_1 (b := b) hg0 7 (by decide)))), trivial⟩, trivial⟩⟩ ⟨rvA_cell ty49 rfl rfl rfl rfl (Nat.le_refl _) (le_agg (fun j _ => by (dsimp only; rw [Nat.zero_add]))), .refl _, trivial⟩ trivial rfl trivial ⟨trivial, trivial, trivial⟩ rfl
 ·have h2 := of_decide_eq_true (bnF h2)
  refine HT.skip (HT.seq (HT.region S_fget_ok (Sq (V.mv (v := .ptr 3 0) rfl ?_))))
  refine So.n (lk rfl) (A.call [.ptr 1 _] [(1, ⟨_, _, _, _, .rows _⟩)] (sg [(1, 3)]) 5 rfl rfl rfl rfl ⟨rfl, trivial⟩ rfl ⟨trivial, trivial⟩ ⟨rfl, trivial⟩ trivial rfl ((rdT b 0 0).1, 0, 0) ⟨.refl _, trivial⟩ ⟨⟨_, rfl, .inl rfl, trivial⟩, trivial⟩ (by trivial) tT ⟨⟨_, _, rfl, rfl, rfl, Nat.le_refl _⟩, trivial⟩ (.inl rfl) rfl (v := .agg 3 _) rfl (O' := (3, ⟨_, _, _, _, .rows _⟩) :: _) rfl (fun h3 => ?_))
  refine So.n (lk rfl) (A.alloc 5 1 ty75 rfl trivial (f := fun j => ([.v (.slice none 0 0), .v (.int .i64 0), .v (.int .i64 0)] : List PV).getD j (.v undef)) (fun j hj => by match j, hj with | 0, _ => rfl | 1, _ => rfl | 2, _ => rfl) (So.s (A.stoAg ty75 rfl (n := 3) rfl (by decide) (by intro j hj; (match j, hj with | 0, _ => (trivial) | 1, _ => (trivial) | 2, _ => (trivial))) rfl rfl rfl (So.e (HT.seq ?_)))))
  refine HT.planS S_fget_ok S_fget_det mixed [] [⟨[0, 1, 2, 3, 4, 5, 6], 7, [0, 1, 2, 3, 4, 5]⟩, ⟨[0, 1, 2, 3, 4, 5], 8, []⟩, ⟨[9], 10, []⟩] (by kernel_rfl) ?_
  refine Pl.lk ?_
  refine Sj rfl (V.fa ty75 rfl ty23 rfl rfl (Sj rfl (V.ld ty23 rfl rfl rfl (v := .p (.bs _)) rfl (Sj rfl (V.fa ty75 rfl ty2 rfl rfl (Sj rfl (V.ld ty2 rfl rfl rfl (v := .p (.v (.int .i64 _))) rfl (Sj rfl (V.fa ty75 rfl ty3 rfl rfl (Sj rfl (V.ld ty3 rfl rfl rfl (v := .p (.v (.int .i64 _))) rfl (Sj rfl (V.mv (v := .ptr 3 0) rfl (Si.e ?_))))))))))))))
  refine ⟨flEq_nil, fun ff => ?_⟩
  refine Lo.n rfl (lk rfl) (A.call [.ptr 1 _, .p (.v (.int .i64 _))] [(1, ⟨_, _, _, _, .rows _⟩)] (sg [(1, 3)]) 6 rfl rfl rfl rfl ⟨rfl, trivial⟩ rfl ⟨trivial, trivial⟩ ⟨rfl, trivial, trivial⟩ trivial rfl ((rdT b 0 0).1, (pl3 (rdT b 0 0).1 0 0).2.1, (pl3 (rdT b 0 0).1 0 0).2.2, 1) ⟨.refl _, .refl _, trivial⟩ ⟨⟨_, rfl, .inl rfl, trivial⟩, trivial⟩ (by trivial) tT ⟨⟨_, _, rfl, rfl, rfl, Nat.le_refl _⟩, trivial⟩ (.inl rfl) rfl (v := .p (.v (.int .i64 _))) rfl (O' := (3, ⟨_, _, _, _, .rows _⟩) :: _) rfl (fun h4 => ?_))
  refine ⟨_, fun ff => ff, ap0d, rfl, FG.id, ?_⟩
  show planA _ _ _ _ _ [(0, .ptr 5 0), (1, .p (.bs _)), (2, .ptr 5 1), (3, .p (.v (.int .i64 _))), (4, .ptr 5 2), (5, .p (.v (.int .i64 _)))] _ _ _
  refine Pl.l0 ?_
  refine Sj rfl (V.fa ty75 rfl ty23 rfl rfl (Sj rfl (V.ld ty23 rfl rfl rfl (v := .p (.bs _)) rfl (Sj rfl (V.fa ty75 rfl ty2 rfl rfl (Sj rfl (V.ld ty2 rfl rfl rfl (v := .p (.v (.int .i64 _))) rfl (Sj rfl (V.fa ty75 rfl ty3 rfl rfl (Sj rfl (V.ld ty3 rfl rfl rfl (v := .p (.v (.int .i64 _))) rfl (Si.e ?_))))))))))))
  refine ⟨(flEq_cons rfl (flEq_cons rfl (flEq_cons rfl (flEq_cons rfl (flEq_cons rfl (flEq_cons rfl flEq_nil)))))), ?_⟩
  refine Lo.n rfl (lk rfl) (A.bldS ty36 rfl rfl ⟨by exact trivial, by exact rfl, by exact rfl, by exact rfl, trivial⟩ rfl (f := fun j => ([.bs ((pl1 (rdT b 0 0).1 0 0).1), .v (.int .i64 ((pl2 (rdT b 0 0).1 0 0).1)), .v (.int .i64 ((pl3 (rdT b 0 0).1 0 0).1)), .v (.int .i64 ((gm4 b).1)), .v (.slice none 0 0)] : List PV).getD j (.v undef)) (by exact allP_spec (P := fun j => _ = _) ⟨⟨⟨⟨⟨trivial, rfl⟩, rfl⟩, rfl⟩, rfl⟩, rfl⟩) ?_)
  refine Pl.l0 ?_
  refine Sj rfl (V.fa ty49 rfl ty36 rfl rfl (Si.e ?_))
  refine ⟨flEq_nil, ?_⟩
  refine Lo.s rfl (A.stoAgP ty36 rfl (n := 5) rfl (by decide) (by intro j hj; (match j, hj with | 0, _ => (trivial) | 1, _ => (trivial) | 2, _ => (trivial) | 3, _ => (trivial) | 4, _ => (trivial))) rfl (lk rfl) rfl ?_)
  refine Pl.e ?_
  refine Si.e ?_
  refine ⟨flEq_nil, ?_⟩
  refine HT.seq ?_
  refine R.tell [] [(2, ⟨49, 1, 8, true, .rows (fun j => if j = 4 then .bs [] else (fun j => ([.bs ((pl1 (rdT b 0 0).1 0 0).1), .v (.int .i64 ((pl2 (rdT b 0 0).1 0 0).1)), .v (.int .i64 ((pl3 (rdT b 0 0).1 0 0).1)), .v (.int .i64 ((gm4 b).1)), .v (.int .i64 0), .bs ((rd2 b 0 0).1), .bs ((rd3 b 0 0).1), .bs ((rd4 b 0 0).1)] : List PV).getD j (.v undef)) j)⟩)] [2, 3, 4, 5, 6] [1, 3, 4] (fr0 := [(2, .ptr 1 0), (3, .p (.v (.int .i64 _))), (4, .ptr 2 0), (5, .ptr 3 0), (6, .ptr 4 0)]) (O0 := [(1, ⟨_, _, _, _, .rows _⟩), (3, ⟨_, _, _, _, .rows _⟩), (4, ⟨_, _, _, _, .rows _⟩)]) rfl rfl ⟨⟨⟨.refl _, rfl⟩, ⟨.refl _, trivial⟩, ⟨.refl _, rfl⟩, ⟨.refl _, rfl⟩, ⟨.refl _, rfl⟩, trivial⟩, ⟨⟨_, rfl, .inr (ob_rowsL (by intro j hj; match j, hj with | 0, _ => exact .refl _ | 1, _ => exact .refl _ | 2, _ => exact .refl _ | 3, _ => exact .refl _ | 4, _ => exact le_nil rfl | 5, _ => exact .refl _ | 6, _ => exact .refl _ | 7, _ => exact .refl _)), trivial⟩, ⟨_, rfl, .inl rfl, trivial⟩, ⟨_, rfl, .inl rfl, trivial⟩, ⟨_, rfl, .inl rfl, trivial⟩, trivial⟩⟩ ?_
  refine HT.region S_fget_1_ok (Sq (V.mv (v := .ptr 3 0) rfl (Sq (V.fa ty49 rfl ty36 rfl rfl (Sq (V.fa ty36 rfl ty23 rfl rfl (So.n (lk rfl) (A.bsl 5 ty61 ty64 rfl (lk rfl) (lk rfl) (fun _ => rfl) rfl rfl trivial ⟨trivial, trivial⟩ rfl (N := 1) rfl (c := .cells [.ptr 2 4]) rfl ?_))))))))
  refine So.n (lk rfl) (A.call [.ptr 1 _, .own 3 _ _] [(1, ⟨_, _, _, _, .rows _⟩), (2, ⟨_, _, _, _, .rows _⟩), (3, ⟨_, _, _, _, .cells [.ptr 2 4]⟩)] (sg [(1, 3), (3, 5), (2, 2)]) 6 rfl rfl rfl rfl ⟨rfl, rfl, rfl, trivial⟩ rfl ⟨trivial, trivial, ⟨rfl, trivial⟩, trivial⟩ ⟨rfl, rfl, trivial⟩ trivial rfl ((rdT b 0 0).1, (gm4 b).2.1, (gm4 b).2.2, fun j => ([.bs ((pl1 (rdT b 0 0).1 0 0).1), .v (.int .i64 ((pl2 (rdT b 0 0).1 0 0).1)), .v (.int .i64 ((pl3 (rdT b 0 0).1 0 0).1)), .v (.int .i64 ((gm4 b).1)), .v (.int .i64 0), .bs ((rd2 b 0 0).1), .bs ((rd3 b 0 0).1), .bs ((rd4 b 0 0).1)] : List PV).getD j (.v undef)) ⟨.refl _, .refl _, trivial⟩ ⟨⟨_, rfl, .inl rfl, trivial⟩, ⟨_, rfl, .inl rfl, trivial⟩, ⟨_, rfl, .inl rfl, ⟨rfl, trivial⟩⟩, trivial⟩ (by trivial) tT ⟨⟨_, _, rfl, rfl, rfl, Nat.le_refl _⟩, ⟨_, _, rfl, rfl, rfl, Nat.le_refl _⟩, trivial⟩ (.inl rfl) rfl (v := .tup 0 _) rfl (O' := (3, ⟨_, _, _, _, .rows _⟩) :: (2, ⟨_, _, _, _, .rows _⟩) :: _) rfl (fun h5 => ?_))
  refine So.e (HT.seq ?_)
  refine R.tell [] [(2, ⟨49, 1, 8, true, .rows (fun j => ([.bs ((pl1 (rdT b 0 0).1 0 0).1), .v (.int .i64 ((pl2 (rdT b 0 0).1 0 0).1)), .v (.int .i64 ((pl3 (rdT b 0 0).1 0 0).1)), .v (.int .i64 ((gm4 b).1)), .bs ((gm5 b).1), .bs ((rd2 b 0 0).1), .bs ((rd3 b 0 0).1), .bs ((rd4 b 0 0).1)] : List PV).getD j (.v undef))⟩)] [2, 3, 4, 5, 6] [1, 3, 4] (fr0 := [(2, .ptr 1 0), (3, .p (.v (.int .i64 _))), (4, .ptr 2 0), (5, .ptr 3 0), (6, .ptr 4 0)]) (O0 := [(1, ⟨_, _, _, _, .rows _⟩), (3, ⟨_, _, _, _, .rows _⟩), (4, ⟨_, _, _, _, .rows _⟩)]) rfl rfl ⟨⟨⟨.refl _, rfl⟩, ⟨.refl _, trivial⟩, ⟨.refl _, rfl⟩, ⟨.refl _, rfl⟩, ⟨.refl _, rfl⟩, trivial⟩, ⟨⟨_, rfl, .inr (ob_rowsL (by intro j hj; match j, hj with | 0, _ => exact .refl _ | 1, _ => exact .refl _ | 2, _ => exact .refl _ | 3, _ => exact .refl _ | 4, _ => exact .refl _ | 5, _ => exact .refl _ | 6, _ => exact .refl _ | 7, _ => exact .refl _)), trivial⟩, ⟨_, rfl, .inl rfl, trivial⟩, ⟨_, rfl, .inl rfl, trivial⟩, ⟨_, rfl, .inl rfl, trivial⟩, trivial⟩⟩ ?_
  refine HT.region S_fget_ok (Sq (V.mv (v := .ptr 3 0) rfl ?_))
  refine So.n (lk rfl) (A.call [.ptr 1 _, .p (.v (.bool true))] [(1, ⟨_, _, _, _, .rows _⟩)] (sg [(1, 3)]) 5 rfl rfl rfl rfl ⟨rfl, trivial⟩ rfl ⟨trivial, trivial⟩ ⟨rfl, trivial, trivial⟩ trivial rfl ((rdT b 0 0).1, (gm5 b).2.1, (gm5 b).2.2, _) ⟨.refl _, .refl _, trivial⟩ ⟨⟨_, rfl, .inl rfl, trivial⟩, trivial⟩ (by trivial) tT ⟨⟨_, _, rfl, rfl, rfl, Nat.le_refl _⟩, trivial⟩ (.inl rfl) rfl (v := .p (.v (.int .i64 _))) rfl (O' := (3, ⟨_, _, _, _, .rows _⟩) :: _) rfl (fun h6 => ?_))
  refine Sq (V.ai rfl (So.e (HT.seq (HT.seq (HT.region S_fget_ok (Sq (V.mi rfl (Sq (V.bin (a := .v (.int .i64 _)) (b := .v (.int .i64 0)) (r := .v (.bool _)) rfl rfl rfl trivial (So.e ?_))))))))))
  refine R.cd rfl rfl (fun h7 => ?_) (fun h7 => ?_)
  ·refine HT.region S_fget_ok ?_
   have hgI : gmI b = 0 := by unfold gmI; assumption
   refine Sq (V.mv (v := .ptr 4 0) rfl (Sq (V.ldPtrA ty49 rfl rfl rfl rfl (lk rfl) ?_)))
   refine So.n (lk rfl) (A.call0 [.agg 8 _] 5 rfl rfl rfl rfl ⟨trivial, trivial⟩ trivial ((pl1 (rdT b 0 0).1 0 0).1, ((pl2 (rdT b 0 0).1 0 0).1), ((pl3 (rdT b 0 0).1 0 0).1), ((gm4 b).1), (gm5 b).1, (rd2 b 0 0).1, (rd3 b 0 0).1, (rd4 b 0 0).1) ⟨le_agg (fun j hj => by match j, hj with | 0, _ => rfl | 1, _ => rfl | 2, _ => rfl | 3, _ => rfl | 4, _ => rfl | 5, _ => rfl | 6, _ => rfl | 7, _ => rfl), trivial⟩ trivial (by trivial) tT (.inl rfl) (v := .p (.v (.bool _))) rfl (O' := _) rfl (fun h8 => ?_))
   refine So.n (lk rfl) (A.call [.ptr 1 _, .p (.v (.bool _))] [(1, ⟨_, _, _, _, .rows _⟩)] (sg [(1, 4)]) 5 rfl rfl rfl rfl ⟨rfl, trivial⟩ rfl ⟨trivial, trivial⟩ ⟨rfl, trivial, trivial⟩ trivial rfl (b, (rd4 b 0 0).2.1, (rd4 b 0 0).2.2, _) ⟨.refl _, .refl _, trivial⟩ ⟨⟨_, rfl, .inl rfl, trivial⟩, trivial⟩ (by trivial) tT ⟨⟨_, _, rfl, rfl, rfl, Nat.le_refl _⟩, trivial⟩ (.inl rfl) rfl (v := .p (.v (.int .i64 _))) rfl (O' := (4, ⟨_, _, _, _, .rows _⟩) :: _) rfl (fun h9 => ?_))
   refine Sq (V.ai rfl (So.e (HT.seq (HT.seq (HT.region S_fget_ok (Sq (V.mi rfl (Sq (V.bin (a := .v (.int .i64 _)) (b := .v (.int .i64 0)) (r := .v (.bool _)) rfl rfl rfl trivial (So.e ?_))))))))))
   refine R.cond rfl rfl (fun h10 => ?_) (fun h10 => ?_)
   ·have h10 := of_decide_eq_false (bnT h10)
    refine HT.seq (HT.region S_fget_ok ?_)
    have hg0 : ¬ gmE b = 0 := by (rw [gmE_3 (by assumption) hgI]; unfold gmO; assumption)
    refine So.n (lk rfl) (A.bldS ty49 rfl rfl trivial rfl (f := fun j => ([.v (.slice none 0 0), .v (.int .i64 0), .v (.int .i64 0), .v (.int .i64 0), .v (.slice none 0 0), .v (.slice none 0 0), .v (.slice none 0 0), .v (.slice none 0 0)] : List PV).getD j (.v undef)) (by exact allP_spec (P := fun j => _ = _) ⟨⟨⟨⟨⟨⟨⟨⟨trivial, rfl⟩, rfl⟩, rfl⟩, rfl⟩, rfl⟩, rfl⟩, rfl⟩, rfl⟩) (Sq (V.mi rfl (So.s (A.stoAg ty49 rfl (n := 8) rfl (by decide) (by intro j hj; (match j, hj with | 0, _ => (trivial) | 1, _ => (trivial) | 2, _ => (trivial) | 3, _ => (trivial) | 4, _ => (trivial) | 5, _ => (trivial) | 6, _ => (trivial) | 7, _ => (trivial))) rfl rfl rfl (Sq (V.ai rfl (So.e ?_))))))))
    refine HT.ret ?_
    exact retC_ok (sg []) [(2, .ptr 1 0), (3, .p (.v (.int .i64 ((gmE b)))))] [(1, ⟨49, 1, 8, true, .rows (fun j => ([.bs (gmG b), .v (.int .i64 (gmP b)), .v (.int .i64 (gmF b)), .v (.int .i64 (gmK b)), .bs (gmB b), .bs (gmS b), .bs (gmC b), .bs (gmM b)] : List PV).getD j (.v undef))⟩)] h ⟨⟨⟨.refl _, rfl⟩, ⟨le_int (by (rw [gmE_3 (by assumption) hgI]; rfl)), trivial⟩, trivial⟩, ⟨⟨_, rfl, .inr (ob_rowsL (by intro j hj; match j, hj with | 0, _ => (exact gm_1 (b := b) hg0 0 (by decide)) | 1, _ => (exact gm_1 (b := b) hg0 1 (by decide)) | 2, _ => (exact gm_1 (b := b) hg0 2 (by decide)) | 3, _ => (exact gm_1 (b := b) hg0 3 (by decide)) | 4, _ => (exact gm_1 (b := b) hg0 4 (by decide)) | 5, _ => (exact gm_1 (b := b) hg0 5 (by decide)) | 6, _ => (exact gm_1 (b := b) hg0 6 (by decide)) | 7, _ => (exact gm_1 (b := b) hg0 7 (by decide)))), trivial⟩, trivial⟩⟩ ⟨rvA_cell ty49 rfl rfl rfl rfl (Nat.le_refl _) (le_agg (fun j _ => by (dsimp only; rw [Nat.zero_add]))), .refl _, trivial⟩ trivial rfl trivial ⟨trivial, trivial, trivial⟩ rfl
   ·have h10 := of_decide_eq_true (bnF h10)
    refine HT.skip (HT.seq (HT.region S_fget_ok ?_))
    have hg0 : gmE b = 0 := by (rw [gmE_3 (by assumption) hgI]; unfold gmO; assumption)
    refine Sq (V.ldPtrA ty49 rfl rfl rfl rfl (lk rfl) (So.s (A.stoAg ty49 rfl (n := 8) rfl (by decide) (by intro j hj; (match j, hj with | 0, _ => (trivial) | 1, _ => (trivial) | 2, _ => (trivial) | 3, _ => (trivial) | 4, _ => (trivial) | 5, _ => (trivial) | 6, _ => (trivial) | 7, _ => (trivial))) rfl rfl rfl (Sq (V.as (v := .p (.v (.int .i64 0))) rfl (So.e ?_))))))
    refine HT.ret ?_
    exact retC_ok (sg []) [(2, .ptr 1 0), (3, .p (.v (.int .i64 ((gmE b)))))] [(1, ⟨49, 1, 8, true, .rows (fun j => ([.bs (gmG b), .v (.int .i64 (gmP b)), .v (.int .i64 (gmF b)), .v (.int .i64 (gmK b)), .bs (gmB b), .bs (gmS b), .bs (gmC b), .bs (gmM b)] : List PV).getD j (.v undef))⟩)] h ⟨⟨⟨.refl _, rfl⟩, ⟨le_int (by exact hg0.symm), trivial⟩, trivial⟩, ⟨⟨_, rfl, .inr (ob_rowsL (by intro j hj; match j, hj with | 0, _ => (exact gm_0 (b := b) hg0 0 (by decide)) | 1, _ => (exact gm_0 (b := b) hg0 1 (by decide)) | 2, _ => (exact gm_0 (b := b) hg0 2 (by decide)) | 3, _ => (exact gm_0 (b := b) hg0 3 (by decide)) | 4, _ => (exact gm_0 (b := b) hg0 4 (by decide)) | 5, _ => (exact gm_0 (b := b) hg0 5 (by decide)) | 6, _ => (exact gm_0 (b := b) hg0 6 (by decide)) | 7, _ => (exact gm_0 (b := b) hg0 7 (by decide)))), trivial⟩, trivial⟩⟩ ⟨rvA_cell ty49 rfl rfl rfl rfl (Nat.le_refl _) (le_agg (fun j _ => by (dsimp only; rw [Nat.zero_add]))), .refl _, trivial⟩ trivial rfl trivial ⟨trivial, trivial, trivial⟩ rfl
  ·refine HT.skip (HT.seq (HT.seq (HT.region S_fget_ok (Sq (V.mi rfl (Sq (V.bin (a := .v (.int .i64 _)) (b := .v (.int .i64 0)) (r := .v (.bool _)) rfl rfl rfl trivial (So.e ?_))))))))
   refine R.cond rfl rfl (fun h11 => ?_) (fun h11 => ?_)
   ·have h11 := of_decide_eq_false (bnT h11)
    refine HT.seq (HT.region S_fget_ok ?_)
    have hg0 : ¬ gmE b = 0 := by (rw [gmE_2 (by assumption) (by unfold gmI; assumption)]; unfold gmI; assumption)
    refine So.n (lk rfl) (A.bldS ty49 rfl rfl trivial rfl (f := fun j => ([.v (.slice none 0 0), .v (.int .i64 0), .v (.int .i64 0), .v (.int .i64 0), .v (.slice none 0 0), .v (.slice none 0 0), .v (.slice none 0 0), .v (.slice none 0 0)] : List PV).getD j (.v undef)) (by exact allP_spec (P := fun j => _ = _) ⟨⟨⟨⟨⟨⟨⟨⟨trivial, rfl⟩, rfl⟩, rfl⟩, rfl⟩, rfl⟩, rfl⟩, rfl⟩, rfl⟩) (Sq (V.mi rfl (So.s (A.stoAg ty49 rfl (n := 8) rfl (by decide) (by intro j hj; (match j, hj with | 0, _ => (trivial) | 1, _ => (trivial) | 2, _ => (trivial) | 3, _ => (trivial) | 4, _ => (trivial) | 5, _ => (trivial) | 6, _ => (trivial) | 7, _ => (trivial))) rfl rfl rfl (Sq (V.ai rfl (So.e ?_))))))))
    refine HT.ret ?_
    exact retC_ok (sg []) [(2, .ptr 1 0), (3, .p (.v (.int .i64 ((gmE b)))))] [(1, ⟨49, 1, 8, true, .rows (fun j => ([.bs (gmG b), .v (.int .i64 (gmP b)), .v (.int .i64 (gmF b)), .v (.int .i64 (gmK b)), .bs (gmB b), .bs (gmS b), .bs (gmC b), .bs (gmM b)] : List PV).getD j (.v undef))⟩)] h ⟨⟨⟨.refl _, rfl⟩, ⟨le_int (by (rw [gmE_2 (by assumption) (by unfold gmI; assumption)]; rfl)), trivial⟩, trivial⟩, ⟨⟨_, rfl, .inr (ob_rowsL (by intro j hj; match j, hj with | 0, _ => (exact gm_1 (b := b) hg0 0 (by decide)) | 1, _ => (exact gm_1 (b := b) hg0 1 (by decide)) | 2, _ => (exact gm_1 (b := b) hg0 2 (by decide)) | 3, _ => (exact gm_1 (b := b) hg0 3 (by decide)) | 4, _ => (exact gm_1 (b := b) hg0 4 (by decide)) | 5, _ => (exact gm_1 (b := b) hg0 5 (by decide)) | 6, _ => (exact gm_1 (b := b) hg0 6 (by decide)) | 7, _ => (exact gm_1 (b := b) hg0 7 (by decide)))), trivial⟩, trivial⟩⟩ ⟨rvA_cell ty49 rfl rfl rfl rfl (Nat.le_refl _) (le_agg (fun j _ => by (dsimp only; rw [Nat.zero_add]))), .refl _, trivial⟩ trivial rfl trivial ⟨trivial, trivial, trivial⟩ rfl
   ·have h11 := of_decide_eq_true (bnF h11)
    refine HT.skip (HT.seq (HT.region S_fget_ok ?_))
    have hg0 : gmE b = 0 := by (exfalso; contradiction)
    refine Sq (V.ldPtrA ty49 rfl rfl rfl rfl (lk rfl) (So.s (A.stoAg ty49 rfl (n := 8) rfl (by decide) (by intro j hj; trivial) rfl rfl rfl (Sq (V.as (v := .p (.v (.int .i64 0))) rfl (So.e ?_))))))
    refine HT.ret ?_
    exact retC_ok (sg []) [(2, .ptr 1 0), (3, .p (.v (.int .i64 ((gmE b)))))] [(1, ⟨49, 1, 8, true, .rows (fun j => ([.bs (gmG b), .v (.int .i64 (gmP b)), .v (.int .i64 (gmF b)), .v (.int .i64 (gmK b)), .bs (gmB b), .bs (gmS b), .bs (gmC b), .bs (gmM b)] : List PV).getD j (.v undef))⟩)] h ⟨⟨⟨.refl _, rfl⟩, ⟨le_int (by exact hg0.symm), trivial⟩, trivial⟩, ⟨⟨_, rfl, .inr (ob_rowsL (by intro j hj; match j, hj with | 0, _ => (exact gm_0 (b := b) hg0 0 (by decide)) | 1, _ => (exact gm_0 (b := b) hg0 1 (by decide)) | 2, _ => (exact gm_0 (b := b) hg0 2 (by decide)) | 3, _ => (exact gm_0 (b := b) hg0 3 (by decide)) | 4, _ => (exact gm_0 (b := b) hg0 4 (by decide)) | 5, _ => (exact gm_0 (b := b) hg0 5 (by decide)) | 6, _ => (exact gm_0 (b := b) hg0 6 (by decide)) | 7, _ => (exact gm_0 (b := b) hg0 7 (by decide)))), trivial⟩, trivial⟩⟩ ⟨rvA_cell ty49 rfl rfl rfl rfl (Nat.le_refl _) (le_agg (fun j _ => by (dsimp only; rw [Nat.zero_add]))), .refl _, trivial⟩ trivial rfl trivial ⟨trivial, trivial, trivial⟩ rfl
def fgetsSp : Sp := ⟨[], mkE (α := (List UInt8)) (fun b => [.p (.bs b)]) (fun b => []) (fun b => True) (fun b => [.agg 5 (fun j => ([.bs (gs1 b), .v (.int .i64 (gs2 b)), .v (.int .i64 (gs3 b)), .v (.int .i64 (gs4 b)), .bs (gs5 b)] : List PV).getD j (.v undef)), .p (.v (.int .i64 ((gsE b))))]) (fun b => [])⟩
def S_fgets : FuncId -> Option Sp := fun f => if f = 36 then some rplaceSp else if f = 37 then some frnumSp else if f = 35 then some rtext_sSp else if f = 48 then some fsealSp else if f = 38 then some rendSp else none
theorem S_fgets_ok : ∀ f s, S_fgets f = some s -> FOK Tryd.prog gl f s := sI rplace_ok (sI frnum_ok (sI rtext_s_ok (sI fseal_ok (sI rend_ok sN))))
theorem S_fgets_det : ∀ f s, S_fgets f = some s -> SpDet s.sp := dI (dI (dI (dI (dI dN))))
theorem fgets_ok : FOK Tryd.prog gl 47 fgetsSp := by
 refine FOK.ofEC (tyOf_ok Tryd.prog) (rvs := [.cell 2 69, .tmp 3]) (nt := 35) Tryd.func47 rfl rfl rfl rfl (by decide) 1 (fun _ => rfl) (by decide) (fun _ => ⟨trivial, trivial⟩) ?_
 rintro b kk hlen hpre h
 have hl0 : (b).length <= 9223372036854775807 := hlen.1
 replace hpre : True := hpre
 show HT (cx Tryd.prog 35 (tyOf Tryd.prog) gl []) _ [(0, .p (.bs b))] [] _
 refine HT.seq (HT.region S_fgets_ok (So.n (lk rfl) (A.alloc 1 1 ty69 rfl trivial (f := fun j => ([.v (.slice none 0 0), .v (.int .i64 0), .v (.int .i64 0), .v (.int .i64 0), .v (.slice none 0 0)] : List PV).getD j (.v undef)) (fun j hj => by match j, hj with | 0, _ => rfl | 1, _ => rfl | 2, _ => rfl | 3, _ => rfl | 4, _ => rfl) (Sq (V.as (v := .p (.v (.int .i64 0))) rfl (So.e (HT.seq (HT.region S_fgets_ok (Sq (V.mv (v := .p (.bs _)) rfl (So.n (lk rfl) (A.bldS ty72 rfl rfl ⟨by exact trivial, trivial⟩ rfl (f := fun j => ([.bs b, .v (.int .i64 0), .v (.int .i64 0)] : List PV).getD j (.v undef)) (by exact allP_spec (P := fun j => _ = _) ⟨⟨⟨trivial, rfl⟩, rfl⟩, rfl⟩) (So.n (lk rfl) (A.boxAg 2 1 (n := 3) rfl (by intro j hj; (match j, hj with | 0, _ => (trivial) | 1, _ => (trivial) | 2, _ => (trivial))) rfl trivial (Sq (V.as (v := .ptr 2 0) rfl (So.e (HT.seq (HT.region S_fgets_ok (Sq (V.mv (v := .ptr 2 0) rfl ?_)))))))))))))))))))))
 refine So.n (lk rfl) (A.call [.ptr 1 _] [(1, ⟨_, _, _, _, .rows _⟩)] (sg [(1, 2)]) 3 rfl rfl rfl rfl ⟨rfl, trivial⟩ rfl ⟨trivial, trivial⟩ ⟨rfl, trivial⟩ trivial rfl (b, 0, 0) ⟨.refl _, trivial⟩ ⟨⟨_, rfl, .inl rfl, trivial⟩, trivial⟩ (by trivial) tT ⟨⟨_, _, rfl, rfl, rfl, Nat.le_refl _⟩, trivial⟩ (.inl rfl) rfl (v := .agg 3 _) rfl (O' := (2, ⟨_, _, _, _, .rows _⟩) :: _) rfl (fun h1 => ?_))
 refine So.n (lk rfl) (A.alloc 3 1 ty75 rfl trivial (f := fun j => ([.v (.slice none 0 0), .v (.int .i64 0), .v (.int .i64 0)] : List PV).getD j (.v undef)) (fun j hj => by match j, hj with | 0, _ => rfl | 1, _ => rfl | 2, _ => rfl) (So.s (A.stoAg ty75 rfl (n := 3) rfl (by decide) (by intro j hj; (match j, hj with | 0, _ => (trivial) | 1, _ => (trivial) | 2, _ => (trivial))) rfl rfl rfl (So.e ?_))))
 refine R.cut True [(6, .ptr 4 0)] [(2, ⟨72, 1, 3, true, .rows (fun j => ([.bs b, .v (.int .i64 (sg4 b).2.1), .v (.int .i64 (sg4 b).2.2)] : List PV).getD j (.v undef))⟩), (4, ⟨69, 1, 5, true, .rows (fun j => if j = 4 then .bs [] else (fun j => ([.bs (pl1 b 0 0).1, .v (.int .i64 ((pl2 b 0 0).1)), .v (.int .i64 ((pl3 b 0 0).1)), .v (.int .i64 ((sg4 b).1)), .v (.int .i64 0)] : List PV).getD j (.v undef)) j)⟩)] [2, 3, 4] [1] (fr0 := [(2, .ptr 1 0), (3, .p (.v (.int .i64 _))), (4, .ptr 2 0)]) (O0 := [(1, ⟨_, _, _, _, .rows _⟩)]) rfl rfl ?_ (fun hphi => ?_)
 ·refine HT.planTS S_fgets_ok S_fgets_det mixed (.stage [0, 1, 2, 3, 4, 5, 6] (.br 7 [0, 1, 2, 3, 4, 5] (.stage [0, 1, 2, 3, 4, 5] (.br 8 [] (.stage [] (.br 9 [] (.stage [] (.br 10 [] (.leaf []) .no)) .no)) (.br 9 [0, 1, 2, 3, 4, 5] (.stage [0, 1, 2, 3, 4, 5] (.br 8 [] (.stage [] (.br 10 [] (.leaf []) .no)) .no)) .no))) (.br 9 [0, 1, 2, 3, 4, 5, 6] (.stage [0, 1, 2, 3, 4, 5, 6] (.br 7 [0, 1, 2, 3, 4, 5] (.stage [0, 1, 2, 3, 4, 5] (.br 8 [] (.stage [] (.br 10 [] (.leaf []) .no)) .no)) .no)) .no))) (by kernel_rfl) ?_
  refine Pt.st ?_
  refine Sj rfl (V.fa ty75 rfl ty23 rfl rfl (Sj rfl (V.ld ty23 rfl rfl rfl (v := .p (.bs _)) rfl (Sj rfl (V.fa ty75 rfl ty2 rfl rfl (Sj rfl (V.ld ty2 rfl rfl rfl (v := .p (.v (.int .i64 _))) rfl (Sj rfl (V.fa ty75 rfl ty3 rfl rfl (Sj rfl (V.ld ty3 rfl rfl rfl (v := .p (.v (.int .i64 _))) rfl (Sj rfl (V.mv (v := .ptr 2 0) rfl (Si.e ?_))))))))))))))
  refine ⟨flEq_nil, ?_⟩
  refine Pt.bk (fun ff => ?_) ?_
  ·refine Lo.n rfl (lk rfl) (A.call [.ptr 1 _, .p (.v (.int .i64 _))] [(1, ⟨_, _, _, _, .rows _⟩)] (sg [(1, 2)]) 4 rfl rfl rfl rfl ⟨rfl, trivial⟩ rfl ⟨trivial, trivial⟩ ⟨rfl, trivial, trivial⟩ trivial rfl (b, (pl3 b 0 0).2.1, (pl3 b 0 0).2.2, 4) ⟨.refl _, .refl _, trivial⟩ ⟨⟨_, rfl, .inl rfl, trivial⟩, trivial⟩ (by trivial) tT ⟨⟨_, _, rfl, rfl, rfl, Nat.le_refl _⟩, trivial⟩ (.inl rfl) rfl (v := .p (.v (.int .i64 _))) rfl (O' := (2, ⟨_, _, _, _, .rows _⟩) :: _) rfl (fun h2 => ?_))
   refine ⟨_, fun ff => ff, ap0d, rfl, FG.id, ?_⟩
   show planT _ _ _ _ [(0, .ptr 3 0), (1, .p (.bs _)), (2, .ptr 3 1), (3, .p (.v (.int .i64 _))), (4, .ptr 3 2), (5, .p (.v (.int .i64 _)))] _ _ _
   refine Pt.st ?_
   refine Sj rfl (V.fa ty75 rfl ty23 rfl rfl (Sj rfl (V.ld ty23 rfl rfl rfl (v := .p (.bs _)) rfl (Sj rfl (V.fa ty75 rfl ty2 rfl rfl (Sj rfl (V.ld ty2 rfl rfl rfl (v := .p (.v (.int .i64 _))) rfl (Sj rfl (V.fa ty75 rfl ty3 rfl rfl (Sj rfl (V.ld ty3 rfl rfl rfl (v := .p (.v (.int .i64 _))) rfl (Si.e ?_))))))))))))
   refine ⟨(flEq_cons rfl (flEq_cons rfl (flEq_cons rfl (flEq_cons rfl (flEq_cons rfl (flEq_cons rfl flEq_nil)))))), ?_⟩
   refine Pt.b0 ?_ ?_
   ·refine Lo.n rfl (lk rfl) (A.bldS ty69 rfl rfl ⟨by exact trivial, by exact rfl, by exact rfl, by exact rfl, trivial⟩ rfl (f := fun j => ([.bs (pl1 b 0 0).1, .v (.int .i64 ((pl2 b 0 0).1)), .v (.int .i64 ((pl3 b 0 0).1)), .v (.int .i64 ((sg4 b).1)), .v (.slice none 0 0)] : List PV).getD j (.v undef)) (by exact allP_spec (P := fun j => _ = _) ⟨⟨⟨⟨⟨trivial, rfl⟩, rfl⟩, rfl⟩, rfl⟩, rfl⟩) ?_)
    refine Pt.st ?_
    refine Si.e ?_
    refine ⟨flEq_nil, ?_⟩
    refine Pt.b0 ?_ ?_
    ·refine Lo.n rfl (lk rfl) (A.alloc 4 1 ty69 rfl trivial (f := fun j => ([.v (.slice none 0 0), .v (.int .i64 0), .v (.int .i64 0), .v (.int .i64 0), .v (.slice none 0 0)] : List PV).getD j (.v undef)) (fun j hj => by match j, hj with | 0, _ => rfl | 1, _ => rfl | 2, _ => rfl | 3, _ => rfl | 4, _ => rfl) ?_)
     refine Pt.st ?_
     refine Si.e ?_
     refine ⟨flEq_nil, ?_⟩
     refine Pt.b0 ?_ ?_
     ·refine Lo.s rfl (A.stoAg ty69 rfl (n := 5) rfl (by decide) (by intro j hj; (match j, hj with | 0, _ => (trivial) | 1, _ => (trivial) | 2, _ => (trivial) | 3, _ => (trivial) | 4, _ => (trivial))) rfl rfl rfl ?_)
      refine Pt.e ?_
      refine Si.e ?_
      refine ⟨flEq_nil, ?_⟩
      exact ⟨by omega, ⟨⟨⟨.refl _, rfl⟩, ⟨.refl _, rfl⟩, ⟨.refl _, trivial⟩, ⟨.refl _, rfl⟩, trivial⟩, ⟨⟨_, rfl, .inr (ob_rows (by rfl) (by intro j hj; rfl)), trivial⟩, ⟨_, rfl, .inr (ob_rowsL (by intro j hj; match j, hj with | 0, _ => exact .refl _ | 1, _ => exact .refl _ | 2, _ => exact .refl _ | 3, _ => exact .refl _ | 4, _ => exact le_nil rfl)), trivial⟩, ⟨_, rfl, .inl rfl, trivial⟩, trivial⟩⟩⟩
     ·exact Pt.no
    ·exact Pt.no
   ·refine Pt.bk (fun ff => ?_) ?_
    ·refine Lo.n rfl (lk rfl) (A.alloc 4 1 ty69 rfl trivial (f := fun j => ([.v (.slice none 0 0), .v (.int .i64 0), .v (.int .i64 0), .v (.int .i64 0), .v (.slice none 0 0)] : List PV).getD j (.v undef)) (fun j hj => by match j, hj with | 0, _ => rfl | 1, _ => rfl | 2, _ => rfl | 3, _ => rfl | 4, _ => rfl) ?_)
     refine ⟨_, fun ff => ff, ap0d, rfl, FG.id, ?_⟩
     show planT _ _ _ _ [(0, .ptr 3 0), (1, .p (.bs _)), (2, .ptr 3 1), (3, .p (.v (.int .i64 _))), (4, .ptr 3 2), (5, .p (.v (.int .i64 _)))] _ _ _
     refine Pt.st ?_
     refine Sj rfl (V.fa ty75 rfl ty23 rfl rfl (Sj rfl (V.ld ty23 rfl rfl rfl (v := .p (.bs _)) rfl (Sj rfl (V.fa ty75 rfl ty2 rfl rfl (Sj rfl (V.ld ty2 rfl rfl rfl (v := .p (.v (.int .i64 _))) rfl (Sj rfl (V.fa ty75 rfl ty3 rfl rfl (Sj rfl (V.ld ty3 rfl rfl rfl (v := .p (.v (.int .i64 _))) rfl (Si.e ?_))))))))))))
     refine ⟨(flEq_cons rfl (flEq_cons rfl (flEq_cons rfl (flEq_cons rfl (flEq_cons rfl (flEq_cons rfl flEq_nil)))))), ?_⟩
     refine Pt.b0 ?_ ?_
     ·refine Lo.n rfl (lk rfl) (A.bldS ty69 rfl rfl ⟨by exact trivial, by exact rfl, by exact rfl, by exact rfl, trivial⟩ rfl (f := fun j => ([.bs (pl1 b 0 0).1, .v (.int .i64 ((pl2 b 0 0).1)), .v (.int .i64 ((pl3 b 0 0).1)), .v (.int .i64 ((sg4 b).1)), .v (.slice none 0 0)] : List PV).getD j (.v undef)) (by exact allP_spec (P := fun j => _ = _) ⟨⟨⟨⟨⟨trivial, rfl⟩, rfl⟩, rfl⟩, rfl⟩, rfl⟩) ?_)
      refine Pt.st ?_
      refine Si.e ?_
      refine ⟨flEq_nil, ?_⟩
      refine Pt.b0 ?_ ?_
      ·refine Lo.s rfl (A.stoAg ty69 rfl (n := 5) rfl (by decide) (by intro j hj; (match j, hj with | 0, _ => (trivial) | 1, _ => (trivial) | 2, _ => (trivial) | 3, _ => (trivial) | 4, _ => (trivial))) rfl rfl rfl ?_)
       refine Pt.e ?_
       refine Si.e ?_
       refine ⟨flEq_nil, ?_⟩
       exact ⟨by omega, ⟨⟨⟨.refl _, rfl⟩, ⟨.refl _, rfl⟩, ⟨.refl _, trivial⟩, ⟨.refl _, rfl⟩, trivial⟩, ⟨⟨_, rfl, .inr (ob_rows (by rfl) (by intro j hj; rfl)), trivial⟩, ⟨_, rfl, .inr (ob_rowsL (by intro j hj; match j, hj with | 0, _ => exact .refl _ | 1, _ => exact .refl _ | 2, _ => exact .refl _ | 3, _ => exact .refl _ | 4, _ => exact le_nil rfl)), trivial⟩, ⟨_, rfl, .inl rfl, trivial⟩, trivial⟩⟩⟩
      ·exact Pt.no
     ·exact Pt.no
    ·exact Pt.no
  ·refine Pt.bk (fun ff => ?_) ?_
   ·refine Lo.n rfl (lk rfl) (A.alloc 4 1 ty69 rfl trivial (f := fun j => ([.v (.slice none 0 0), .v (.int .i64 0), .v (.int .i64 0), .v (.int .i64 0), .v (.slice none 0 0)] : List PV).getD j (.v undef)) (fun j hj => by match j, hj with | 0, _ => rfl | 1, _ => rfl | 2, _ => rfl | 3, _ => rfl | 4, _ => rfl) ?_)
    refine ⟨_, fun ff => ff, ap0d, rfl, FG.id, ?_⟩
    show planT _ _ _ _ [(0, .ptr 3 0), (1, .p (.bs _)), (2, .ptr 3 1), (3, .p (.v (.int .i64 _))), (4, .ptr 3 2), (5, .p (.v (.int .i64 _))), (6, .ptr 2 0)] _ _ _
    refine Pt.st ?_
    refine Sj rfl (V.fa ty75 rfl ty23 rfl rfl (Sj rfl (V.ld ty23 rfl rfl rfl (v := .p (.bs _)) rfl (Sj rfl (V.fa ty75 rfl ty2 rfl rfl (Sj rfl (V.ld ty2 rfl rfl rfl (v := .p (.v (.int .i64 _))) rfl (Sj rfl (V.fa ty75 rfl ty3 rfl rfl (Sj rfl (V.ld ty3 rfl rfl rfl (v := .p (.v (.int .i64 _))) rfl (Sj rfl (V.mv (v := .ptr 2 0) rfl (Si.e ?_))))))))))))))
    refine ⟨(flEq_cons rfl (flEq_cons rfl (flEq_cons rfl (flEq_cons rfl (flEq_cons rfl (flEq_cons rfl (flEq_cons rfl flEq_nil))))))), ?_⟩
    refine Pt.bk (fun ff => ?_) ?_
    ·refine Lo.n rfl (lk rfl) (A.call [.ptr 1 _, .p (.v (.int .i64 _))] [(1, ⟨_, _, _, _, .rows _⟩)] (sg [(1, 2)]) 5 rfl rfl rfl rfl ⟨rfl, trivial⟩ rfl ⟨trivial, trivial⟩ ⟨rfl, trivial, trivial⟩ trivial rfl (b, (pl3 b 0 0).2.1, (pl3 b 0 0).2.2, 4) ⟨.refl _, .refl _, trivial⟩ ⟨⟨_, rfl, .inl rfl, trivial⟩, trivial⟩ (by trivial) tT ⟨⟨_, _, rfl, rfl, rfl, Nat.le_refl _⟩, trivial⟩ (.inl rfl) rfl (v := .p (.v (.int .i64 _))) rfl (O' := (2, ⟨_, _, _, _, .rows _⟩) :: _) rfl (fun h3 => ?_))
     refine ⟨_, fun ff => ff, ap0d, rfl, FG.id, ?_⟩
     show planT _ _ _ _ [(0, .ptr 3 0), (1, .p (.bs _)), (2, .ptr 3 1), (3, .p (.v (.int .i64 _))), (4, .ptr 3 2), (5, .p (.v (.int .i64 _)))] _ _ _
     refine Pt.st ?_
     refine Sj rfl (V.fa ty75 rfl ty23 rfl rfl (Sj rfl (V.ld ty23 rfl rfl rfl (v := .p (.bs _)) rfl (Sj rfl (V.fa ty75 rfl ty2 rfl rfl (Sj rfl (V.ld ty2 rfl rfl rfl (v := .p (.v (.int .i64 _))) rfl (Sj rfl (V.fa ty75 rfl ty3 rfl rfl (Sj rfl (V.ld ty3 rfl rfl rfl (v := .p (.v (.int .i64 _))) rfl (Si.e ?_))))))))))))
     refine ⟨(flEq_cons rfl (flEq_cons rfl (flEq_cons rfl (flEq_cons rfl (flEq_cons rfl (flEq_cons rfl flEq_nil)))))), ?_⟩
     refine Pt.b0 ?_ ?_
     ·refine Lo.n rfl (lk rfl) (A.bldS ty69 rfl rfl ⟨by exact trivial, by exact rfl, by exact rfl, by exact rfl, trivial⟩ rfl (f := fun j => ([.bs (pl1 b 0 0).1, .v (.int .i64 ((pl2 b 0 0).1)), .v (.int .i64 ((pl3 b 0 0).1)), .v (.int .i64 ((sg4 b).1)), .v (.slice none 0 0)] : List PV).getD j (.v undef)) (by exact allP_spec (P := fun j => _ = _) ⟨⟨⟨⟨⟨trivial, rfl⟩, rfl⟩, rfl⟩, rfl⟩, rfl⟩) ?_)
      refine Pt.st ?_
      refine Si.e ?_
      refine ⟨flEq_nil, ?_⟩
      refine Pt.b0 ?_ ?_
      ·refine Lo.s rfl (A.stoAg ty69 rfl (n := 5) rfl (by decide) (by intro j hj; (match j, hj with | 0, _ => (trivial) | 1, _ => (trivial) | 2, _ => (trivial) | 3, _ => (trivial) | 4, _ => (trivial))) rfl rfl rfl ?_)
       refine Pt.e ?_
       refine Si.e ?_
       refine ⟨flEq_nil, ?_⟩
       exact ⟨by omega, ⟨⟨⟨.refl _, rfl⟩, ⟨.refl _, rfl⟩, ⟨.refl _, trivial⟩, ⟨.refl _, rfl⟩, trivial⟩, ⟨⟨_, rfl, .inr (ob_rows (by rfl) (by intro j hj; rfl)), trivial⟩, ⟨_, rfl, .inr (ob_rowsL (by intro j hj; match j, hj with | 0, _ => exact .refl _ | 1, _ => exact .refl _ | 2, _ => exact .refl _ | 3, _ => exact .refl _ | 4, _ => exact le_nil rfl)), trivial⟩, ⟨_, rfl, .inl rfl, trivial⟩, trivial⟩⟩⟩
      ·exact Pt.no
     ·exact Pt.no
    ·exact Pt.no
   ·exact Pt.no
 ·refine HT.seq ?_
  refine HT.region S_fgets_ok (Sq (V.mv (v := .ptr 2 0) rfl (Sq (V.fa ty69 rfl ty23 rfl rfl (So.n (lk rfl) (A.bsl 5 ty61 ty64 rfl (lk rfl) (lk rfl) (fun _ => rfl) rfl rfl trivial ⟨trivial, trivial⟩ rfl (N := 1) rfl (c := .cells [.ptr 4 4]) rfl ?_))))))
  refine So.n (lk rfl) (A.call [.ptr 1 _, .own 3 _ _] [(1, ⟨_, _, _, _, .rows _⟩), (2, ⟨_, _, _, _, .rows _⟩), (3, ⟨_, _, _, _, .cells [.ptr 2 4]⟩)] (sg [(1, 2), (3, 5), (2, 4)]) 6 rfl rfl rfl rfl ⟨rfl, rfl, rfl, trivial⟩ rfl ⟨trivial, trivial, ⟨rfl, trivial⟩, trivial⟩ ⟨rfl, rfl, trivial⟩ trivial rfl (b, (sg4 b).2.1, (sg4 b).2.2, fun j => ([.bs (pl1 b 0 0).1, .v (.int .i64 ((pl2 b 0 0).1)), .v (.int .i64 ((pl3 b 0 0).1)), .v (.int .i64 ((sg4 b).1)), .v (.int .i64 0)] : List PV).getD j (.v undef)) ⟨.refl _, .refl _, trivial⟩ ⟨⟨_, rfl, .inl rfl, trivial⟩, ⟨_, rfl, .inl rfl, trivial⟩, ⟨_, rfl, .inl rfl, ⟨rfl, trivial⟩⟩, trivial⟩ (by trivial) tT ⟨⟨_, _, rfl, rfl, rfl, Nat.le_refl _⟩, ⟨_, _, rfl, rfl, rfl, Nat.le_refl _⟩, trivial⟩ (.inl rfl) rfl (v := .tup 0 _) rfl (O' := (2, ⟨_, _, _, _, .rows _⟩) :: (4, ⟨_, _, _, _, .rows _⟩) :: _) rfl (fun h4 => ?_))
  refine So.e (HT.seq (HT.seq ?_))
  refine R.tell [] [(4, ⟨69, 1, 5, true, .rows (fun j => ([.bs (pl1 b 0 0).1, .v (.int .i64 ((pl2 b 0 0).1)), .v (.int .i64 ((pl3 b 0 0).1)), .v (.int .i64 ((sg4 b).1)), .bs (sg5 b).1] : List PV).getD j (.v undef))⟩)] [2, 3, 4, 6] [1, 2] (fr0 := [(2, .ptr 1 0), (3, .p (.v (.int .i64 _))), (4, .ptr 2 0), (6, .ptr 4 0)]) (O0 := [(1, ⟨_, _, _, _, .rows _⟩), (2, ⟨_, _, _, _, .rows _⟩)]) rfl rfl ⟨⟨⟨.refl _, rfl⟩, ⟨.refl _, trivial⟩, ⟨.refl _, rfl⟩, ⟨.refl _, rfl⟩, trivial⟩, ⟨⟨_, rfl, .inr (ob_rows (by rfl) (by intro j hj; match j, hj with | 0, _ => rfl | 1, _ => rfl | 2, _ => rfl | 3, _ => rfl | 4, _ => rfl)), trivial⟩, ⟨_, rfl, .inl rfl, trivial⟩, ⟨_, rfl, .inl rfl, trivial⟩, trivial⟩⟩ ?_
  refine HT.region S_fgets_ok (Sq (V.mv (v := .ptr 2 0) rfl (Sq (V.ldPtrA ty69 rfl rfl rfl rfl (lk rfl) ?_))))
  refine So.n (lk rfl) (A.call0 [.agg 5 _] 5 rfl rfl rfl rfl ⟨trivial, trivial⟩ trivial ((pl1 b 0 0).1, (pl2 b 0 0).1, (pl3 b 0 0).1, (sg4 b).1, (sg5 b).1) ⟨le_agg (fun j hj => by match j, hj with | 0, _ => rfl | 1, _ => rfl | 2, _ => rfl | 3, _ => rfl | 4, _ => rfl), trivial⟩ trivial (by trivial) tT (.inl rfl) (v := .p (.v (.bool _))) rfl (O' := _) rfl (fun h5 => ?_))
  refine So.n (lk rfl) (A.call [.ptr 1 _, .p (.v (.bool _))] [(1, ⟨_, _, _, _, .rows _⟩)] (sg [(1, 2)]) 5 rfl rfl rfl rfl ⟨rfl, trivial⟩ rfl ⟨trivial, trivial⟩ ⟨rfl, trivial, trivial⟩ trivial rfl (b, (sg5 b).2.1, (sg5 b).2.2, _) ⟨.refl _, .refl _, trivial⟩ ⟨⟨_, rfl, .inl rfl, trivial⟩, trivial⟩ (by trivial) tT ⟨⟨_, _, rfl, rfl, rfl, Nat.le_refl _⟩, trivial⟩ (.inl rfl) rfl (v := .p (.v (.int .i64 _))) rfl (O' := (2, ⟨_, _, _, _, .rows _⟩) :: _) rfl (fun h6 => ?_))
  refine Sq (V.ai rfl (So.e (HT.seq (HT.region S_fgets_ok (Sq (V.mi rfl (Sq (V.bin (a := .v (.int .i64 _)) (b := .v (.int .i64 0)) (r := .v (.bool _)) rfl rfl rfl trivial (So.e ?_)))))))))
  refine R.cond rfl rfl (fun h7 => ?_) (fun h7 => ?_)
  ·have h7 := of_decide_eq_false (bnT h7)
   refine HT.seq (HT.region S_fgets_ok (So.n (lk rfl) (A.bldS ty69 rfl rfl trivial rfl (f := fun j => ([.v (.slice none 0 0), .v (.int .i64 0), .v (.int .i64 0), .v (.int .i64 0), .v (.slice none 0 0)] : List PV).getD j (.v undef)) (by exact allP_spec (P := fun j => _ = _) ⟨⟨⟨⟨⟨trivial, rfl⟩, rfl⟩, rfl⟩, rfl⟩, rfl⟩) (Sq (V.mi rfl (So.s (A.stoAg ty69 rfl (n := 5) rfl (by decide) (by intro j hj; (match j, hj with | 0, _ => (trivial) | 1, _ => (trivial) | 2, _ => (trivial) | 3, _ => (trivial) | 4, _ => (trivial))) rfl rfl rfl (Sq (V.ai rfl (So.e ?_))))))))))
   refine HT.ret ?_
   exact retC_ok (sg []) [(2, .ptr 1 0), (3, .p (.v (.int .i64 ((gsE b)))))] [(1, ⟨69, 1, 5, true, .rows (fun j => ([.bs (gs1 b), .v (.int .i64 (gs2 b)), .v (.int .i64 (gs3 b)), .v (.int .i64 (gs4 b)), .bs (gs5 b)] : List PV).getD j (.v undef))⟩)] h ⟨⟨⟨.refl _, rfl⟩, ⟨le_int (by (unfold gsE; with_reducible rfl)), trivial⟩, trivial⟩, ⟨⟨_, rfl, .inr (ob_rowsL (by intro j hj; match j, hj with | 0, _ => (exact gs_1 (b := b) (by unfold gsE; assumption) 0 (by decide)) | 1, _ => (exact gs_1 (b := b) (by unfold gsE; assumption) 1 (by decide)) | 2, _ => (exact gs_1 (b := b) (by unfold gsE; assumption) 2 (by decide)) | 3, _ => (exact gs_1 (b := b) (by unfold gsE; assumption) 3 (by decide)) | 4, _ => (exact gs_1 (b := b) (by unfold gsE; assumption) 4 (by decide)))), trivial⟩, trivial⟩⟩ ⟨rvA_cell ty69 rfl rfl rfl rfl (Nat.le_refl _) (le_agg (fun j _ => by (dsimp only; rw [Nat.zero_add]))), .refl _, trivial⟩ trivial rfl trivial ⟨trivial, trivial, trivial⟩ rfl
  ·have h7 := of_decide_eq_true (bnF h7)
   refine HT.skip (HT.seq (HT.region S_fgets_ok (Sq (V.ldPtrA ty69 rfl rfl rfl rfl (lk rfl) (So.s (A.stoAg ty69 rfl (n := 5) rfl (by decide) (by intro j hj; (match j, hj with | 0, _ => (trivial) | 1, _ => (trivial) | 2, _ => (trivial) | 3, _ => (trivial) | 4, _ => (trivial))) rfl rfl rfl (Sq (V.as (v := .p (.v (.int .i64 0))) rfl (So.e ?_)))))))))
   refine HT.ret ?_
   exact retC_ok (sg []) [(2, .ptr 1 0), (3, .p (.v (.int .i64 ((gsE b)))))] [(1, ⟨69, 1, 5, true, .rows (fun j => ([.bs (gs1 b), .v (.int .i64 (gs2 b)), .v (.int .i64 (gs3 b)), .v (.int .i64 (gs4 b)), .bs (gs5 b)] : List PV).getD j (.v undef))⟩)] h ⟨⟨⟨.refl _, rfl⟩, ⟨le_int (by (unfold gsE; exact Eq.symm (by assumption))), trivial⟩, trivial⟩, ⟨⟨_, rfl, .inr (ob_rowsL (by intro j hj; match j, hj with | 0, _ => (exact gs_0 (b := b) (by unfold gsE; assumption) 0 (by decide)) | 1, _ => (exact gs_0 (b := b) (by unfold gsE; assumption) 1 (by decide)) | 2, _ => (exact gs_0 (b := b) (by unfold gsE; assumption) 2 (by decide)) | 3, _ => (exact gs_0 (b := b) (by unfold gsE; assumption) 3 (by decide)) | 4, _ => (exact gs_0 (b := b) (by unfold gsE; assumption) 4 (by decide)))), trivial⟩, trivial⟩⟩ ⟨rvA_cell ty69 rfl rfl rfl rfl (Nat.le_refl _) (le_agg (fun j _ => by (dsimp only; rw [Nat.zero_add]))), .refl _, trivial⟩ trivial rfl trivial ⟨trivial, trivial, trivial⟩ rfl
def hlookMSp : Sp := ⟨[1, 2, 3], mkE (α := (List UInt8) × Int × PLs × PKs × (List UInt8)) (fun (G, e, L, p, b) => [.ptr 1 0, .p (.bs b)]) (fun (G, e, L, p, b) => [(1, ⟨63, 4, 4, true, .cells [.p (.bs G), .p (.v (.int .i64 e)), .own 2 0 ((L).length), .own 3 0 ((p).length)]⟩), (2, ⟨45, 3, (L).length * 3, true, .rows (pR L)⟩), (3, ⟨64, 1, (p).length, true, .rows (kV p)⟩)]) (fun (G, e, L, p, b) => True) (fun (G, e, L, p, b) => [.p (.v (.bool ((lookM G e b).now))), .p (.v (.bool ((lookM G e b).ends))), .p (.v (.int .i64 ((lookM G e b).r)))]) (fun (G, e, L, p, b) => [(1, ⟨63, 4, 4, true, .cells [.p (.bs G), .p (.v (.int .i64 e)), .own 2 0 ((L).length), .own 3 0 ((p).length)]⟩), (2, ⟨45, 3, (L).length * 3, true, .rows (pR L)⟩), (3, ⟨64, 1, (p).length, true, .rows (kV p)⟩)])⟩
def S_hlookM : FuncId -> Option Sp := fun f => if f = 19 then some fgetSp else if f = 46 then some hnowSp else none
theorem S_hlookM_ok : ∀ f s, S_hlookM f = some s -> FOK Tryd.prog gl f s := sI fget_ok (sI hnow_ok sN)
theorem S_hlookM_det : ∀ f s, S_hlookM f = some s -> SpDet s.sp := dI (dI dN)
theorem hlookM_ok : FOK Tryd.prog gl 32 hlookMSp := by
 refine FOK.ofE (tyOf_ok Tryd.prog) (slots := [4, 5, 6]) (nt := 34) Tryd.func32 rfl rfl rfl rfl (by decide) 2 (fun ⟨_, _, _, _, _⟩ => rfl) (by decide) (fun ⟨_, _, _, _, _⟩ => ⟨rfl, trivial, trivial⟩) ?_
 rintro ⟨G, e, L, p, b⟩ kk hlen hpre h
 have hl1 : (b).length <= 9223372036854775807 := hlen.2.1
 replace hpre : True := hpre
 show HT (cx Tryd.prog 34 (tyOf Tryd.prog) gl [1, 2, 3]) _ [(0, .ptr 1 0), (1, .p (.bs b))] [(1, ⟨63, 4, 4, true, .cells [.p (.bs G), .p (.v (.int .i64 e)), .own 2 0 ((L).length), .own 3 0 ((p).length)]⟩), (2, ⟨45, 3, (L).length * 3, true, .rows (pR L)⟩), (3, ⟨64, 1, (p).length, true, .rows (kV p)⟩)] _
 refine HT.seq (HT.region S_hlookM_ok (Sq (V.as (v := .p (.v (.bool false))) rfl (Sq (V.as (v := .p (.v (.bool false))) rfl (Sq (V.as (v := .p (.v (.int .i64 0))) rfl (So.e (HT.seq (HT.region S_hlookM_ok (Sq (V.mv (v := .p (.bs _)) rfl ?_))))))))))))
 refine So.n (lk rfl) (A.call0 [.p (.bs _)] 4 rfl rfl rfl rfl ⟨trivial, trivial⟩ ⟨lk rfl, lk rfl, lk rfl, trivial⟩ _ ⟨.refl _, trivial⟩ trivial (by trivial) tT (.inl rfl) (v := .tup 2 _) rfl (O' := _) rfl (fun h1 => ?_))
 refine Sq (V.mv (v := .tup 2 _) rfl (Sq (V.ext rfl (lk rfl) (v := .agg 8 _) rfl (Sq (V.ei rfl rfl (So.n (lk rfl) (A.alloc 4 1 ty49 rfl ⟨lk rfl, lk rfl, lk rfl, trivial⟩ (f := fun j => ([.v (.slice none 0 0), .v (.int .i64 0), .v (.int .i64 0), .v (.int .i64 0), .v (.slice none 0 0), .v (.slice none 0 0), .v (.slice none 0 0), .v (.slice none 0 0)] : List PV).getD j (.v undef)) (fun j hj => by match j, hj with | 0, _ => rfl | 1, _ => rfl | 2, _ => rfl | 3, _ => rfl | 4, _ => rfl | 5, _ => rfl | 6, _ => rfl | 7, _ => rfl) (So.s (A.stoAg ty49 rfl (n := 8) rfl (by decide) (by intro j hj; (match j, hj with | 0, _ => (trivial) | 1, _ => (trivial) | 2, _ => (trivial) | 3, _ => (trivial) | 4, _ => (trivial) | 5, _ => (trivial) | 6, _ => (trivial) | 7, _ => (trivial))) rfl rfl rfl (Sq (V.ai rfl (So.e (HT.seq (HT.region S_hlookM_ok (Sq (V.fa ty49 rfl ty36 rfl rfl (Sq (V.ldPtrA ty36 rfl rfl rfl rfl (lk rfl) (So.n (lk rfl) (A.alloc 5 1 ty36 rfl ⟨lk rfl, lk rfl, lk rfl, trivial⟩ (f := fun j => ([.v (.slice none 0 0), .v (.int .i64 0), .v (.int .i64 0), .v (.int .i64 0), .v (.slice none 0 0)] : List PV).getD j (.v undef)) (fun j hj => by match j, hj with | 0, _ => rfl | 1, _ => rfl | 2, _ => rfl | 3, _ => rfl | 4, _ => rfl) (So.s (A.stoAg ty36 rfl (n := 5) rfl (by decide) (by intro j hj; (match j, hj with | 0, _ => (trivial) | 1, _ => (trivial) | 2, _ => (trivial) | 3, _ => (trivial) | 4, _ => (trivial))) rfl rfl rfl (So.e (HT.seq (HT.seq (HT.region S_hlookM_ok (Sq (V.mi rfl (Sq (V.bin (a := .v (.int .i64 _)) (b := .v (.int .i64 0)) (r := .v (.bool _)) rfl rfl rfl trivial (Sq (V.mv (v := .p (.v (.bool _))) rfl ?_))))))))))))))))))))))))))))))))
 refine So.gd rfl rfl (lk rfl) (lk rfl) (fun h2 => ?_) (fun h2 => ?_)
 ·have h2 := of_decide_eq_true h2
  refine A.v rfl (V.fa ty36 rfl ty3 rfl rfl (So.gy rfl rfl (lk rfl) (lk rfl) (A.v rfl (V.ld ty3 rfl rfl rfl (v := .p (.v (.int .i64 _))) rfl (So.gy rfl rfl (lk rfl) (lk rfl) (A.v rfl (V.bin (a := .v (.int .i64 _)) (b := .v (.int .i64 5)) (r := .v (.bool _)) rfl rfl rfl trivial (Sq (V.pkTrue (u := .p (.v (.bool _))) rfl rfl (So.e ?_))))))))))
  refine R.cd rfl rfl (fun h3 => ?_) (fun h3 => ?_)
  ·refine HT.region S_hlookM_ok (Sq (V.as (v := .p (.v (.int .i64 181))) rfl (So.e (HT.seq ?_))))
   refine HT.planS S_hlookM_ok S_hlookM_det mixed [6, 7, 8, 9, 10, 11, 12] [⟨[0, 1, 2, 3, 4, 6, 7, 8, 9], 5, [6, 7, 8, 9]⟩] (by kernel_rfl) ?_
   refine Pl.lk ?_
   refine Sj rfl (V.mv (v := .ptr 1 0) rfl (Sj rfl (V.fa ty36 rfl ty23 rfl rfl (Sj rfl (V.ld ty23 rfl rfl rfl (v := .p (.bs _)) rfl (Sj rfl (V.fa ty36 rfl ty2 rfl rfl (Sj rfl (V.ld ty2 rfl rfl rfl (v := .p (.v (.int .i64 _))) rfl (Sj rfl (V.fa ty36 rfl ty3 rfl rfl (Sj rfl (V.ld ty3 rfl rfl rfl (v := .p (.v (.int .i64 _))) rfl (Sj rfl (V.bin (a := .v (.int .i64 _)) (b := .v (.int .i64 4)) (r := .v (.bool _)) rfl rfl rfl trivial (Sj rfl (V.mi rfl (Si.e ?_))))))))))))))))))
   refine ⟨flEq_nil, fun ff => ?_⟩
   refine Lo.n rfl (lk rfl) (A.call [.ptr 1 _, .p (.bs _), .p (.v (.int .i64 _))] [(1, ⟨_, _, _, _, .cells [.p (.bs _), .p (.v (.int .i64 _)), .own 2 0 _, .own 3 0 _]⟩), (2, ⟨_, _, _, _, .rows _⟩), (3, ⟨_, _, _, _, .rows _⟩)] (sg [(1, 1), (2, 2), (3, 3)]) 6 rfl rfl rfl rfl ⟨rfl, rfl, rfl, trivial⟩ rfl ⟨⟨trivial, trivial, rfl, rfl, trivial⟩, trivial, trivial, trivial⟩ ⟨rfl, trivial, trivial, trivial⟩ ⟨lk rfl, lk rfl, lk rfl, trivial⟩ rfl (G, e, L, p, gmG b, gmP b) ⟨.refl _, .refl _, .refl _, trivial⟩ ⟨⟨_, rfl, .inl rfl, ⟨trivial, trivial, rfl, rfl, trivial⟩⟩, ⟨_, rfl, .inl rfl, trivial⟩, ⟨_, rfl, .inl rfl, trivial⟩, trivial⟩ (by trivial) tT ⟨⟨_, _, rfl, rfl, rfl, Nat.le_refl _⟩, ⟨_, _, rfl, rfl, rfl, Nat.le_refl _⟩, ⟨_, _, rfl, rfl, rfl, Nat.le_refl _⟩, trivial⟩ (.inl rfl) rfl (v := .p (.v (.bool _))) rfl (O' := (1, ⟨_, _, _, _, .cells _⟩) :: (2, ⟨_, _, _, _, .rows _⟩) :: (3, ⟨_, _, _, _, .rows _⟩) :: _) rfl (fun h4 => ?_))
   refine ⟨_, fun ff => ff, ap0d, rfl, FG.id, ?_⟩
   show planA _ _ _ _ _ [(6, .ptr 5 3), (7, .p (.v (.int .i64 _))), (8, .p (.v (.bool _))), (9, .p (.v (.int .i64 _)))] _ _ _
   refine Pl.e ?_
   refine Sj rfl (V.fa ty36 rfl ty3 rfl rfl (Sj rfl (V.ld ty3 rfl rfl rfl (v := .p (.v (.int .i64 _))) rfl (Sj rfl (V.bin (a := .v (.int .i64 _)) (b := .v (.int .i64 4)) (r := .v (.bool _)) rfl rfl rfl trivial (Sj rfl (V.mi rfl (Sj rfl (V.as (v := .p (.v (.bool _))) rfl (Sj rfl (V.as (v := .p (.v (.bool _))) rfl (Sj rfl (V.ai rfl (Si.e ?_))))))))))))))
   refine ⟨(flEq_cons rfl (flEq_cons rfl (flEq_cons rfl (flEq_cons rfl flEq_nil)))), ?_⟩
   refine HT.ret ?_
   exact ret_ok (sg [(1, 1), (2, 2), (3, 3)]) h rfl rfl rfl ⟨⟨trivial, trivial, rfl, rfl, trivial⟩, trivial, trivial, trivial⟩ ⟨trivial, trivial, trivial, trivial⟩ rfl ⟨⟨⟨le_bool (by rfl), trivial⟩, ⟨le_bool (by rfl), trivial⟩, ⟨le_int (by exact (if_pos ⟨by assumption, by assumption⟩).symm), trivial⟩, trivial⟩, ⟨⟨_, rfl, .inl (by rfl), ⟨trivial, trivial, rfl, rfl, trivial⟩⟩, ⟨_, rfl, .inl rfl, trivial⟩, ⟨_, rfl, .inl rfl, trivial⟩, trivial⟩⟩
  ·refine HT.skip (HT.seq ?_)
   refine HT.planS S_hlookM_ok S_hlookM_det mixed [6, 7, 8, 9, 10, 11, 12] [⟨[0, 1, 2, 3, 4, 6, 7, 8, 9], 5, [6, 7, 8, 9]⟩] (by kernel_rfl) ?_
   refine Pl.lk ?_
   refine Sj rfl (V.mv (v := .ptr 1 0) rfl (Sj rfl (V.fa ty36 rfl ty23 rfl rfl (Sj rfl (V.ld ty23 rfl rfl rfl (v := .p (.bs _)) rfl (Sj rfl (V.fa ty36 rfl ty2 rfl rfl (Sj rfl (V.ld ty2 rfl rfl rfl (v := .p (.v (.int .i64 _))) rfl (Sj rfl (V.fa ty36 rfl ty3 rfl rfl (Sj rfl (V.ld ty3 rfl rfl rfl (v := .p (.v (.int .i64 _))) rfl (Sj rfl (V.bin (a := .v (.int .i64 _)) (b := .v (.int .i64 4)) (r := .v (.bool _)) rfl rfl rfl trivial (Sj rfl (V.mi rfl (Si.e ?_))))))))))))))))))
   refine ⟨flEq_nil, fun ff => ?_⟩
   refine Lo.n rfl (lk rfl) (A.call [.ptr 1 _, .p (.bs _), .p (.v (.int .i64 _))] [(1, ⟨_, _, _, _, .cells [.p (.bs _), .p (.v (.int .i64 _)), .own 2 0 _, .own 3 0 _]⟩), (2, ⟨_, _, _, _, .rows _⟩), (3, ⟨_, _, _, _, .rows _⟩)] (sg [(1, 1), (2, 2), (3, 3)]) 6 rfl rfl rfl rfl ⟨rfl, rfl, rfl, trivial⟩ rfl ⟨⟨trivial, trivial, rfl, rfl, trivial⟩, trivial, trivial, trivial⟩ ⟨rfl, trivial, trivial, trivial⟩ ⟨lk rfl, lk rfl, lk rfl, trivial⟩ rfl (G, e, L, p, gmG b, gmP b) ⟨.refl _, .refl _, .refl _, trivial⟩ ⟨⟨_, rfl, .inl rfl, ⟨trivial, trivial, rfl, rfl, trivial⟩⟩, ⟨_, rfl, .inl rfl, trivial⟩, ⟨_, rfl, .inl rfl, trivial⟩, trivial⟩ (by trivial) tT ⟨⟨_, _, rfl, rfl, rfl, Nat.le_refl _⟩, ⟨_, _, rfl, rfl, rfl, Nat.le_refl _⟩, ⟨_, _, rfl, rfl, rfl, Nat.le_refl _⟩, trivial⟩ (.inl rfl) rfl (v := .p (.v (.bool _))) rfl (O' := (1, ⟨_, _, _, _, .cells _⟩) :: (2, ⟨_, _, _, _, .rows _⟩) :: (3, ⟨_, _, _, _, .rows _⟩) :: _) rfl (fun h5 => ?_))
   refine ⟨_, fun ff => ff, ap0d, rfl, FG.id, ?_⟩
   show planA _ _ _ _ _ [(6, .ptr 5 3), (7, .p (.v (.int .i64 _))), (8, .p (.v (.bool _))), (9, .p (.v (.int .i64 _)))] _ _ _
   refine Pl.e ?_
   refine Sj rfl (V.fa ty36 rfl ty3 rfl rfl (Sj rfl (V.ld ty3 rfl rfl rfl (v := .p (.v (.int .i64 _))) rfl (Sj rfl (V.bin (a := .v (.int .i64 _)) (b := .v (.int .i64 4)) (r := .v (.bool _)) rfl rfl rfl trivial (Sj rfl (V.mi rfl (Sj rfl (V.as (v := .p (.v (.bool _))) rfl (Sj rfl (V.as (v := .p (.v (.bool _))) rfl (Sj rfl (V.ai rfl (Si.e ?_))))))))))))))
   refine ⟨(flEq_cons rfl (flEq_cons rfl (flEq_cons rfl (flEq_cons rfl flEq_nil)))), ?_⟩
   refine HT.ret ?_
   exact ret_ok (sg [(1, 1), (2, 2), (3, 3)]) h rfl rfl rfl ⟨⟨trivial, trivial, rfl, rfl, trivial⟩, trivial, trivial, trivial⟩ ⟨trivial, trivial, trivial, trivial⟩ rfl ⟨⟨⟨le_bool (by rfl), trivial⟩, ⟨le_bool (by rfl), trivial⟩, ⟨le_int (by exact (if_neg (fun h9 => absurd h9.2 (by assumption))).symm), trivial⟩, trivial⟩, ⟨⟨_, rfl, .inl (by rfl), ⟨trivial, trivial, rfl, rfl, trivial⟩⟩, ⟨_, rfl, .inl rfl, trivial⟩, ⟨_, rfl, .inl rfl, trivial⟩, trivial⟩⟩
 ·have h2 := of_decide_eq_false h2
  refine So.gn (b := false) rfl rfl rfl (lk rfl) (lk rfl) (So.gn (b := false) rfl rfl rfl (lk rfl) (lk rfl) (Sq (V.pkFalse (u := .p (.v (.bool false))) rfl rfl (So.e ?_))))
  refine R.condF rfl ?_
  refine HT.skip (HT.seq ?_)
  refine HT.planS S_hlookM_ok S_hlookM_det mixed [6, 7, 8, 9, 10, 11, 12] [⟨[0, 1, 2, 3, 4, 6, 7, 8, 9], 5, [6, 7, 8, 9]⟩] (by kernel_rfl) ?_
  refine Pl.lk ?_
  refine Sj rfl (V.mv (v := .ptr 1 0) rfl (Sj rfl (V.fa ty36 rfl ty23 rfl rfl (Sj rfl (V.ld ty23 rfl rfl rfl (v := .p (.bs _)) rfl (Sj rfl (V.fa ty36 rfl ty2 rfl rfl (Sj rfl (V.ld ty2 rfl rfl rfl (v := .p (.v (.int .i64 _))) rfl (Sj rfl (V.fa ty36 rfl ty3 rfl rfl (Sj rfl (V.ld ty3 rfl rfl rfl (v := .p (.v (.int .i64 _))) rfl (Sj rfl (V.bin (a := .v (.int .i64 _)) (b := .v (.int .i64 4)) (r := .v (.bool _)) rfl rfl rfl trivial (Sj rfl (V.mi rfl (Si.e ?_))))))))))))))))))
  refine ⟨flEq_nil, fun ff => ?_⟩
  refine Lo.n rfl (lk rfl) (A.call [.ptr 1 _, .p (.bs _), .p (.v (.int .i64 _))] [(1, ⟨_, _, _, _, .cells [.p (.bs _), .p (.v (.int .i64 _)), .own 2 0 _, .own 3 0 _]⟩), (2, ⟨_, _, _, _, .rows _⟩), (3, ⟨_, _, _, _, .rows _⟩)] (sg [(1, 1), (2, 2), (3, 3)]) 6 rfl rfl rfl rfl ⟨rfl, rfl, rfl, trivial⟩ rfl ⟨⟨trivial, trivial, rfl, rfl, trivial⟩, trivial, trivial, trivial⟩ ⟨rfl, trivial, trivial, trivial⟩ ⟨lk rfl, lk rfl, lk rfl, trivial⟩ rfl (G, e, L, p, gmG b, gmP b) ⟨.refl _, .refl _, .refl _, trivial⟩ ⟨⟨_, rfl, .inl rfl, ⟨trivial, trivial, rfl, rfl, trivial⟩⟩, ⟨_, rfl, .inl rfl, trivial⟩, ⟨_, rfl, .inl rfl, trivial⟩, trivial⟩ (by trivial) tT ⟨⟨_, _, rfl, rfl, rfl, Nat.le_refl _⟩, ⟨_, _, rfl, rfl, rfl, Nat.le_refl _⟩, ⟨_, _, rfl, rfl, rfl, Nat.le_refl _⟩, trivial⟩ (.inl rfl) rfl (v := .p (.v (.bool _))) rfl (O' := (1, ⟨_, _, _, _, .cells _⟩) :: (2, ⟨_, _, _, _, .rows _⟩) :: (3, ⟨_, _, _, _, .rows _⟩) :: _) rfl (fun h6 => ?_))
  refine ⟨_, fun ff => ff, ap0d, rfl, FG.id, ?_⟩
  show planA _ _ _ _ _ [(6, .ptr 5 3), (7, .p (.v (.int .i64 _))), (8, .p (.v (.bool _))), (9, .p (.v (.int .i64 _)))] _ _ _
  refine Pl.e ?_
  refine Sj rfl (V.fa ty36 rfl ty3 rfl rfl (Sj rfl (V.ld ty3 rfl rfl rfl (v := .p (.v (.int .i64 _))) rfl (Sj rfl (V.bin (a := .v (.int .i64 _)) (b := .v (.int .i64 4)) (r := .v (.bool _)) rfl rfl rfl trivial (Sj rfl (V.mi rfl (Sj rfl (V.as (v := .p (.v (.bool _))) rfl (Sj rfl (V.as (v := .p (.v (.bool _))) rfl (Sj rfl (V.ai rfl (Si.e ?_))))))))))))))
  refine ⟨(flEq_cons rfl (flEq_cons rfl (flEq_cons rfl (flEq_cons rfl flEq_nil)))), ?_⟩
  refine HT.ret ?_
  exact ret_ok (sg [(1, 1), (2, 2), (3, 3)]) h rfl rfl rfl ⟨⟨trivial, trivial, rfl, rfl, trivial⟩, trivial, trivial, trivial⟩ ⟨trivial, trivial, trivial, trivial⟩ rfl ⟨⟨⟨le_bool (by rfl), trivial⟩, ⟨le_bool (by rfl), trivial⟩, ⟨le_int (by exact (if_neg (fun h9 => absurd h9.1 (by assumption))).symm), trivial⟩, trivial⟩, ⟨⟨_, rfl, .inl (by rfl), ⟨trivial, trivial, rfl, rfl, trivial⟩⟩, ⟨_, rfl, .inl rfl, trivial⟩, ⟨_, rfl, .inl rfl, trivial⟩, trivial⟩⟩
def hlookTSp : Sp := ⟨[1, 2, 3], mkE (α := (List UInt8) × Int × PLs × PKs × (List UInt8)) (fun (G, e, L, p, b) => [.ptr 1 0, .p (.bs b)]) (fun (G, e, L, p, b) => [(1, ⟨63, 4, 4, true, .cells [.p (.bs G), .p (.v (.int .i64 e)), .own 2 0 ((L).length), .own 3 0 ((p).length)]⟩), (2, ⟨45, 3, (L).length * 3, true, .rows (pR L)⟩), (3, ⟨64, 1, (p).length, true, .rows (kV p)⟩)]) (fun (G, e, L, p, b) => True) (fun (G, e, L, p, b) => [.p (.v (.bool ((lookT G e b).now))), .p (.v (.bool ((lookT G e b).ends))), .p (.v (.int .i64 ((lookT G e b).r)))]) (fun (G, e, L, p, b) => [(1, ⟨63, 4, 4, true, .cells [.p (.bs G), .p (.v (.int .i64 e)), .own 2 0 ((L).length), .own 3 0 ((p).length)]⟩), (2, ⟨45, 3, (L).length * 3, true, .rows (pR L)⟩), (3, ⟨64, 1, (p).length, true, .rows (kV p)⟩)])⟩
def S_hlookT : FuncId -> Option Sp := fun f => if f = 47 then some fgetsSp else if f = 46 then some hnowSp else none
theorem S_hlookT_ok : ∀ f s, S_hlookT f = some s -> FOK Tryd.prog gl f s := sI fgets_ok (sI hnow_ok sN)
theorem hlookT_ok : FOK Tryd.prog gl 33 hlookTSp := by
 refine FOK.ofE (tyOf_ok Tryd.prog) (slots := [4, 5, 6]) (nt := 21) Tryd.func33 rfl rfl rfl rfl (by decide) 2 (fun ⟨_, _, _, _, _⟩ => rfl) (by decide) (fun ⟨_, _, _, _, _⟩ => ⟨rfl, trivial, trivial⟩) ?_
 rintro ⟨G, e, L, p, b⟩ kk hlen hpre h
 have hl1 : (b).length <= 9223372036854775807 := hlen.2.1
 replace hpre : True := hpre
 show HT (cx Tryd.prog 21 (tyOf Tryd.prog) gl [1, 2, 3]) _ [(0, .ptr 1 0), (1, .p (.bs b))] [(1, ⟨63, 4, 4, true, .cells [.p (.bs G), .p (.v (.int .i64 e)), .own 2 0 ((L).length), .own 3 0 ((p).length)]⟩), (2, ⟨45, 3, (L).length * 3, true, .rows (pR L)⟩), (3, ⟨64, 1, (p).length, true, .rows (kV p)⟩)] _
 refine HT.seq (HT.region S_hlookT_ok (Sq (V.as (v := .p (.v (.bool false))) rfl (Sq (V.as (v := .p (.v (.bool false))) rfl (Sq (V.as (v := .p (.v (.int .i64 0))) rfl (So.e (HT.seq (HT.region S_hlookT_ok (Sq (V.mv (v := .p (.bs _)) rfl ?_))))))))))))
 refine So.n (lk rfl) (A.call0 [.p (.bs _)] 4 rfl rfl rfl rfl ⟨trivial, trivial⟩ ⟨lk rfl, lk rfl, lk rfl, trivial⟩ _ ⟨.refl _, trivial⟩ trivial (by trivial) tT (.inl rfl) (v := .tup 2 _) rfl (O' := _) rfl (fun h1 => ?_))
 refine Sq (V.mv (v := .tup 2 _) rfl (Sq (V.ext rfl (lk rfl) (v := .agg 5 _) rfl (Sq (V.ei rfl rfl (So.n (lk rfl) (A.alloc 4 1 ty69 rfl ⟨lk rfl, lk rfl, lk rfl, trivial⟩ (f := fun j => ([.v (.slice none 0 0), .v (.int .i64 0), .v (.int .i64 0), .v (.int .i64 0), .v (.slice none 0 0)] : List PV).getD j (.v undef)) (fun j hj => by match j, hj with | 0, _ => rfl | 1, _ => rfl | 2, _ => rfl | 3, _ => rfl | 4, _ => rfl) (So.s (A.stoAg ty69 rfl (n := 5) rfl (by decide) (by intro j hj; (match j, hj with | 0, _ => (trivial) | 1, _ => (trivial) | 2, _ => (trivial) | 3, _ => (trivial) | 4, _ => (trivial))) rfl rfl rfl (Sq (V.ai rfl (So.e (HT.seq (HT.region S_hlookT_ok (Sq (V.mv (v := .ptr 1 0) rfl (Sq (V.fa ty69 rfl ty23 rfl rfl (Sq (V.ld ty23 rfl rfl rfl (v := .p (.bs _)) rfl (Sq (V.fa ty69 rfl ty2 rfl rfl (Sq (V.ld ty2 rfl rfl rfl (v := .p (.v (.int .i64 _))) rfl ?_))))))))))))))))))))))))
 refine So.n (lk rfl) (A.call [.ptr 1 _, .p (.bs _), .p (.v (.int .i64 _))] [(1, ⟨_, _, _, _, .cells [.p (.bs _), .p (.v (.int .i64 _)), .own 2 0 _, .own 3 0 _]⟩), (2, ⟨_, _, _, _, .rows _⟩), (3, ⟨_, _, _, _, .rows _⟩)] (sg [(1, 1), (2, 2), (3, 3)]) 5 rfl rfl rfl rfl ⟨rfl, rfl, rfl, trivial⟩ rfl ⟨⟨trivial, trivial, rfl, rfl, trivial⟩, trivial, trivial, trivial⟩ ⟨rfl, trivial, trivial, trivial⟩ ⟨lk rfl, lk rfl, lk rfl, trivial⟩ rfl (G, e, L, p, gs1 b, gs2 b) ⟨.refl _, .refl _, .refl _, trivial⟩ ⟨⟨_, rfl, .inl rfl, ⟨trivial, trivial, rfl, rfl, trivial⟩⟩, ⟨_, rfl, .inl rfl, trivial⟩, ⟨_, rfl, .inl rfl, trivial⟩, trivial⟩ (by trivial) tT ⟨⟨_, _, rfl, rfl, rfl, Nat.le_refl _⟩, ⟨_, _, rfl, rfl, rfl, Nat.le_refl _⟩, ⟨_, _, rfl, rfl, rfl, Nat.le_refl _⟩, trivial⟩ (.inl rfl) rfl (v := .p (.v (.bool _))) rfl (O' := (1, ⟨_, _, _, _, .cells _⟩) :: (2, ⟨_, _, _, _, .rows _⟩) :: (3, ⟨_, _, _, _, .rows _⟩) :: _) rfl (fun h2 => ?_))
 refine Sq (V.mi rfl (Sq (V.as (v := .p (.v (.bool _))) rfl (Sq (V.as (v := .p (.v (.bool false))) rfl (Sq (V.ai rfl (So.e ?_))))))))
 refine HT.ret ?_
 exact ret_ok (sg [(1, 1), (2, 2), (3, 3)]) h rfl rfl rfl ⟨⟨trivial, trivial, rfl, rfl, trivial⟩, trivial, trivial, trivial⟩ ⟨trivial, trivial, trivial, trivial⟩ rfl ⟨⟨⟨le_bool (by rfl), trivial⟩, ⟨le_bool (by rfl), trivial⟩, ⟨le_int (by rfl), trivial⟩, trivial⟩, ⟨⟨_, rfl, .inl (by rfl), ⟨trivial, trivial, rfl, rfl, trivial⟩⟩, ⟨_, rfl, .inl rfl, trivial⟩, ⟨_, rfl, .inl rfl, trivial⟩, trivial⟩⟩
def htakeMSp : Sp := ⟨[1, 3], mkE (α := (List UInt8) × Int × PLs × PKs × Int × (List UInt8)) (fun (G, e, L, p, k, b) => [.ptr 1 0, .p (.v (.int .i64 k)), .p (.bs b), .mv 32 1 0]) (fun (G, e, L, p, k, b) => [(1, ⟨63, 4, 4, true, .cells [.p (.bs G), .p (.v (.int .i64 e)), .own 2 0 ((L).length), .own 3 0 ((p).length)]⟩), (2, ⟨45, 3, (L).length * 3, true, .rows (pR L)⟩), (3, ⟨64, 1, (p).length, true, .rows (kV p)⟩)]) (fun (G, e, L, p, k, b) => L.length <= 1000 /\ 0 <= e /\ e <= 1000000 /\ b.length <= 1000000000) (fun (G, e, L, p, k, b) => [.p (.v (.int .i64 ((takeH e L k b (lookM G e b)).n))), .p (.v (.int .i64 ((takeH e L k b (lookM G e b)).r)))]) (fun (G, e, L, p, k, b) => [(1, ⟨63, 4, 4, true, .cells [.p (.bs G), .p (.v (.int .i64 ((takeH e L k b (lookM G e b)).e))), .own 2 0 (((takeH e L k b (lookM G e b)).L).length), .own 3 0 ((p).length)]⟩), (2, ⟨45, 3, ((takeH e L k b (lookM G e b)).L).length * 3, true, .rows (pR ((takeH e L k b (lookM G e b)).L))⟩), (3, ⟨64, 1, (p).length, true, .rows (kV p)⟩)])⟩
def S_htakeM : FuncId -> Option Sp := fun f => if f = 32 then some hlookMSp else if f = 30 then some cloneSp else none
theorem S_htakeM_ok : ∀ f s, S_htakeM f = some s -> FOK Tryd.prog gl f s := sI hlookM_ok (sI clone_ok sN)
theorem S_htakeM_det : ∀ f s, S_htakeM f = some s -> SpDet s.sp := dI (dI dN)
theorem htakeM_ok : FOK Tryd.prog gl 31 htakeMSp := by
 refine FOK.ofE (tyOf_ok Tryd.prog) (slots := [8, 9]) (nt := 65) Tryd.func31 rfl rfl rfl rfl (by decide) 4 (fun ⟨_, _, _, _, _, _⟩ => rfl) (by decide) (fun ⟨_, _, _, _, _, _⟩ => ⟨rfl, trivial, trivial, rfl, trivial⟩) ?_
 rintro ⟨G, e, L, p, k, b⟩ kk hlen hpre h
 have hl2 : (b).length <= 9223372036854775807 := hlen.2.2.1
 replace hpre : L.length <= 1000 /\ 0 <= e /\ e <= 1000000 /\ b.length <= 1000000000 := hpre
 show HT (cx Tryd.prog 65 (tyOf Tryd.prog) gl [1, 3]) _ [(0, .ptr 1 0), (1, .p (.v (.int .i64 k))), (2, .p (.bs b)), (3, .mv 32 1 0)] [(1, ⟨63, 4, 4, true, .cells [.p (.bs G), .p (.v (.int .i64 e)), .own 2 0 ((L).length), .own 3 0 ((p).length)]⟩), (2, ⟨45, 3, (L).length * 3, true, .rows (pR L)⟩), (3, ⟨64, 1, (p).length, true, .rows (kV p)⟩)] _
 refine HT.seq (HT.region S_htakeM_ok (Sq (V.as (v := .p (.v (.int .i64 0))) rfl (Sq (V.as (v := .p (.v (.int .i64 0))) rfl (So.e (HT.seq (HT.region S_htakeM_ok (Sq (V.mv (v := .mv 32 1 0) rfl (Sq (V.mv (v := .p (.bs _)) rfl ?_))))))))))))
 refine So.n (lk rfl) (A.callV [.ptr 1 _, .p (.bs _)] [(1, ⟨_, _, _, _, .cells [.p (.bs _), .p (.v (.int .i64 _)), .own 2 0 _, .own 3 0 _]⟩), (2, ⟨_, _, _, _, .rows _⟩), (3, ⟨_, _, _, _, .rows _⟩)] (sg [(1, 1), (2, 2), (3, 3)]) 4 rfl rfl rfl rfl ⟨rfl, rfl, rfl, trivial⟩ rfl ⟨⟨trivial, trivial, rfl, rfl, trivial⟩, trivial, trivial, trivial⟩ ⟨rfl, trivial, trivial⟩ ⟨lk rfl, lk rfl, trivial⟩ rfl (_, _, _, _, _) ⟨.refl _, .refl _, trivial⟩ ⟨⟨_, rfl, .inl rfl, ⟨trivial, trivial, rfl, rfl, trivial⟩⟩, ⟨_, rfl, .inl rfl, trivial⟩, ⟨_, rfl, .inl rfl, trivial⟩, trivial⟩ (by trivial) tT ⟨⟨_, _, rfl, rfl, rfl, Nat.le_refl _⟩, ⟨_, _, rfl, rfl, rfl, Nat.le_refl _⟩, ⟨_, _, rfl, rfl, rfl, Nat.le_refl _⟩, trivial⟩ (.inl rfl) rfl (v := .tup 3 _) rfl (O' := (1, ⟨_, _, _, _, .cells _⟩) :: (2, ⟨_, _, _, _, .rows _⟩) :: (3, ⟨_, _, _, _, .rows _⟩) :: _) rfl (fun h1 => ?_))
 refine Sq (V.mv (v := .tup 3 _) rfl (Sq (V.ext rfl (lk rfl) (v := .p (.v (.bool _))) rfl (Sq (V.ext rfl (lk rfl) (v := .p (.v (.bool _))) rfl (Sq (V.ei rfl rfl (Sq (V.as (v := .p (.v (.bool _))) rfl (Sq (V.as (v := .p (.v (.bool _))) rfl (Sq (V.ai rfl (So.e (HT.seq (HT.block (HT.seq (HT.region S_htakeM_ok (Sq (V.mi rfl (Sq (V.bin (a := .v (.int .i64 _)) (b := .v (.int .i64 0)) (r := .v (.bool _)) rfl rfl rfl trivial (Sq (V.as (v := .p (.v (.bool _))) rfl (So.e ?_)))))))))))))))))))))))))
 refine R.cond rfl rfl (fun h2 => ?_) (fun h2 => ?_)
 ·have h2 := of_decide_eq_false (bnT h2)
  refine HT.seq (HT.region S_htakeM_ok (Sq (V.mi rfl (Sq (V.as (v := .p (.v (.int .i64 0))) rfl (Sq (V.ai rfl (So.e ?_))))))))
  refine HT.ret ?_
  have hR := th_1 (e := e) (L := L) (k := k) (b := b) (l := (lookM G e b)) (by assumption)
  exact ret_ok (sg [(1, 1), (2, 2), (3, 3)]) h rfl rfl rfl ⟨⟨trivial, trivial, rfl, rfl, trivial⟩, trivial, trivial, trivial⟩ ⟨trivial, trivial, trivial⟩ rfl ⟨⟨⟨le_int (by (rw [hR]; done)), trivial⟩, ⟨le_int (by (rw [hR]; done)), trivial⟩, trivial⟩, ⟨⟨_, rfl, .inl (by rw [hR]; rfl), ⟨trivial, trivial, rfl, rfl, trivial⟩⟩, ⟨_, rfl, .inr (ob_rows (by rw [hR]; done) (by intro j hj; rw [hR]; done)), trivial⟩, ⟨_, rfl, .inl rfl, trivial⟩, trivial⟩⟩
 ·have h2 := of_decide_eq_true (bnF h2)
  refine HT.seq (HT.region S_htakeM_ok (Sq (V.mv (v := .p (.v (.bool _))) rfl (Sq (V.not rfl (Sq (V.as (v := .p (.v (.bool _))) rfl (So.e ?_))))))))
  refine R.cond rfl rfl (fun h3 => ?_) (fun h3 => ?_)
  ·refine HT.seq ?_
   refine HT.region S_htakeM_ok (Sq (V.as (v := .p (.v (.int .i64 0))) rfl (Sq (V.as (v := .p (.v (.int .i64 221))) rfl (So.e ?_)))))
   refine HT.ret ?_
   have hR := th_2 (e := e) (L := L) (k := k) (b := b) (l := (lookM G e b)) (by omega) (by exact (Bool.not_eq_true' _).mp (by assumption))
   exact ret_ok (sg [(1, 1), (2, 2), (3, 3)]) h rfl rfl rfl ⟨⟨trivial, trivial, rfl, rfl, trivial⟩, trivial, trivial, trivial⟩ ⟨trivial, trivial, trivial⟩ rfl ⟨⟨⟨le_int (by (rw [hR]; done)), trivial⟩, ⟨le_int (by (rw [hR]; done)), trivial⟩, trivial⟩, ⟨⟨_, rfl, .inl (by rw [hR]; rfl), ⟨trivial, trivial, rfl, rfl, trivial⟩⟩, ⟨_, rfl, .inr (ob_rows (by rw [hR]; done) (by intro j hj; rw [hR]; done)), trivial⟩, ⟨_, rfl, .inl rfl, trivial⟩, trivial⟩⟩
  ·refine HT.seq ?_
   refine HT.region S_htakeM_ok (Sq (V.mv (v := .ptr 1 0) rfl (Sq (V.ncPtr rfl (Sq (V.fa ty63 rfl ty56 rfl rfl (Sq (V.ld ty56 rfl rfl rfl (v := .own 2 0 _) rfl (Sq (V.len ty56 (v := .own 2 0 _) rfl rfl (Sq (V.bin (a := .v (.int .i64 _)) (b := .v (.int .i64 1000)) (r := .v (.bool _)) rfl rfl rfl trivial (Sq (V.as (v := .p (.v (.bool _))) rfl (So.e ?_)))))))))))))))
   refine R.cd rfl rfl (fun h4 => ?_) (fun h4 => ?_)
   ·refine HT.seq (HT.region S_htakeM_ok (Sq (V.as (v := .p (.v (.int .i64 0))) rfl (Sq (V.as (v := .p (.v (.int .i64 2))) rfl (So.e ?_))))))
    refine HT.ret ?_
    have hR := th_3 (e := e) (L := L) (k := k) (b := b) (l := (lookM G e b)) (by omega) (by exact (Bool.not_eq_false' _).mp (by assumption)) (by omega)
    exact ret_ok (sg [(1, 1), (2, 2), (3, 3)]) h rfl rfl rfl ⟨⟨trivial, trivial, rfl, rfl, trivial⟩, trivial, trivial, trivial⟩ ⟨trivial, trivial, trivial⟩ rfl ⟨⟨⟨le_int (by (rw [hR]; done)), trivial⟩, ⟨le_int (by (rw [hR]; done)), trivial⟩, trivial⟩, ⟨⟨_, rfl, .inl (by rw [hR]; rfl), ⟨trivial, trivial, rfl, rfl, trivial⟩⟩, ⟨_, rfl, .inr (ob_rows (by rw [hR]; done) (by intro j hj; rw [hR]; done)), trivial⟩, ⟨_, rfl, .inl rfl, trivial⟩, trivial⟩⟩
   ·refine HT.skip (HT.seq ?_)
    refine HT.planS S_htakeM_ok S_htakeM_det mixed [] [⟨[0, 1, 2, 3, 4, 5, 6, 7, 8, 9, 10, 11], 12, [0, 1, 2, 3, 4]⟩, ⟨[0, 1, 2, 3, 4], 13, [0, 1, 2, 3, 4]⟩, ⟨[0, 1, 2, 3, 4], 14, [0]⟩, ⟨[0, 15, 16], 17, []⟩] (by kernel_rfl) ?_
    refine Pl.lk ?_
    refine Sj rfl (V.mv (v := .ptr 1 0) rfl (Sj rfl (V.mv (v := .ptr 1 0) rfl (Sj rfl (V.ncPtr rfl (Sj rfl (V.fa ty63 rfl ty56 rfl rfl (Sj rfl (V.ld ty56 rfl rfl rfl (v := .own 2 0 _) rfl (Sj rfl (V.mi rfl (Sj rfl (V.mv (v := .ptr 1 0) rfl (Sj rfl (V.ncPtr rfl (Sj rfl (V.fa ty63 rfl ty2 rfl rfl (Sj rfl (V.ld ty2 rfl rfl rfl (v := .p (.v (.int .i64 _))) rfl (Sj rfl (V.mv (v := .p (.bs _)) rfl ?_)))))))))))))))))))))
    refine Sj rfl (V.call [.p (.bs _)] 4 rfl rfl rfl rfl ⟨trivial, trivial⟩ ⟨lk rfl, lk rfl, trivial⟩ _ ⟨.refl _, trivial⟩ trivial (by omega) tT (.inl ⟨trivial, trivial⟩) (v := .p (.bs _)) rfl (fun h5 => ?_))
    refine Si.e ?_
    refine ⟨flEq_nil, fun ff => ?_⟩
    refine Lo.n rfl (lk rfl) (A.bldS ty45 rfl rfl ⟨by exact rfl, by exact rfl, by exact trivial, trivial⟩ rfl (f := fun j => ([.v (.int .i64 k), .v (.int .i64 e), .bs b] : List PV).getD j (.v undef)) (by exact allP_spec (P := fun j => _ = _) ⟨⟨⟨trivial, rfl⟩, rfl⟩, (congrArg (fun x => BV.p (PV.bs x)) (take_full b))⟩) ?_)
    refine ⟨_, fun ff => ff, ap0d, rfl, FG.id, ?_⟩
    show planA _ _ _ _ _ [(0, .ptr 1 0), (1, .ptr 1 0), (2, .ptr 1 0), (3, .ptr 1 2), (4, .own 2 0 _)] _ _ _
    refine Pl.lk ?_
    refine Sj rfl (V.mv (v := .ptr 1 0) rfl (Sj rfl (V.mv (v := .ptr 1 0) rfl (Sj rfl (V.ncPtr rfl (Sj rfl (V.fa ty63 rfl ty56 rfl rfl (Sj rfl (V.ld ty56 rfl rfl rfl (v := .own 2 0 _) rfl (Si.e ?_))))))))))
    refine ⟨(flEq_cons rfl (flEq_cons rfl (flEq_cons rfl (flEq_cons rfl (flEq_cons rfl flEq_nil))))), fun ff => ?_⟩
    refine Lo.n rfl (lk rfl) (A.bsl 4 ty56 ty45 rfl (lk rfl) (lk rfl) (fun h => Bool.noConfusion (show false = true from h)) rfl rfl ⟨lk rfl, lk rfl, trivial⟩ ⟨(fun j hj => by match j, hj with | 0, _ => (trivial) | 1, _ => (trivial) | 2, _ => (trivial)), trivial⟩ rfl (N := 3) rfl (c := .rows _) rfl ?_)
    refine ⟨_, fun ff => ff, ap0d, rfl, FG.id, ?_⟩
    show planA _ _ _ _ _ [(0, .ptr 1 0), (1, .ptr 1 0), (2, .ptr 1 0), (3, .ptr 1 2), (4, .own 2 0 _)] _ _ _
    refine Pl.lk ?_
    refine Sj rfl (V.mv (v := .ptr 1 0) rfl (Sj rfl (V.mv (v := .ptr 1 0) rfl (Sj rfl (V.ncPtr rfl (Sj rfl (V.fa ty63 rfl ty56 rfl rfl (Sj rfl (V.ld ty56 rfl rfl rfl (v := .own 2 0 _) rfl (Si.e ?_))))))))))
    refine ⟨(flEq_cons rfl (flEq_cons rfl (flEq_cons rfl (flEq_cons rfl (flEq_cons rfl flEq_nil))))), fun ff => ?_⟩
    refine Lo.n rfl (lk rfl) (A.apRows ty56 ty45 rfl rfl rfl (lk rfl) (lk rfl) rfl rfl (u := .own 4 0 _) rfl rfl (by intro j hj; match j, hj with | 0, _ => rfl | 1, _ => rfl | 2, _ => trivial) rfl (by (simp; omega)) rfl rfl rfl ?_)
    refine ⟨_, fun ff => Fr.kill 2 ff, ap1d, rfl, (FG.kill 2 (flP_cons rfl flP_nil)), ?_⟩
    show planA _ _ _ _ _ [(0, .ptr 1 0)] _ _ _
    refine Pl.l0 ?_
    refine Sj rfl (V.mv (v := .ptr 1 0) rfl (Sj rfl (V.ncPtr rfl (Sj rfl (V.fa ty63 rfl ty56 rfl rfl (Si.e ?_))))))
    refine ⟨(flEq_cons rfl flEq_nil), ?_⟩
    refine Lo.s rfl (A.sto ty56 rfl rfl rfl (v := .own 2 0 _) rfl trivial rfl (lk rfl) rfl rfl ?_)
    refine Pl.e ?_
    refine Si.e ?_
    refine ⟨flEq_nil, ?_⟩
    refine HT.seq (HT.seq (HT.region S_htakeM_ok (Sq (V.mv (v := .p (.v (.bool _))) rfl (So.e ?_)))))
    refine R.cond rfl rfl (fun h6 => ?_) (fun h6 => ?_)
    ·refine HT.region S_htakeM_ok ?_
     refine Sq (V.mv (v := .ptr 1 0) rfl (Sq (V.ncPtr rfl (Sq (V.fa ty63 rfl ty2 rfl rfl (Sq (V.ld ty2 rfl rfl rfl (v := .p (.v (.int .i64 _))) rfl (Sq (V.addI rfl rfl (by omega) (Sq (V.ncPtr rfl (Sq (V.fa ty63 rfl ty2 rfl rfl (So.s (A.sto ty2 rfl rfl rfl (v := .p (.v (.int .i64 _))) rfl rfl rfl (lk rfl) rfl rfl (So.e (HT.seq (HT.region S_htakeM_ok (Sq (V.mv (v := .ptr 1 0) rfl (Sq (V.ncPtr rfl (Sq (V.fa ty63 rfl ty56 rfl rfl (Sq (V.ld ty56 rfl rfl rfl (v := .own 2 0 _) rfl (Sq (V.len ty56 (v := .own 2 0 _) rfl rfl (Sq (V.subI rfl rfl (by omega) (Sq (V.ai rfl (Sq (V.as (v := .p (.v (.int .i64 0))) rfl (So.e ?_)))))))))))))))))))))))))))))))))))
     refine HT.ret ?_
     have hR := th_4 (e := e) (L := L) (k := k) (b := b) (l := (lookM G e b)) (by omega) (by exact (Bool.not_eq_false' _).mp (by assumption)) (by omega) (by assumption)
     exact ret_ok (sg [(1, 1), (2, 2), (3, 3)]) h rfl rfl rfl ⟨⟨trivial, trivial, rfl, rfl, trivial⟩, trivial, trivial, trivial⟩ ⟨trivial, trivial, trivial⟩ rfl ⟨⟨⟨le_int (by (rw [hR]; dsimp only; omega)), trivial⟩, ⟨le_int (by (rw [hR]; done)), trivial⟩, trivial⟩, ⟨⟨_, rfl, .inl (by rw [hR, List.length_append]; rfl), ⟨trivial, trivial, rfl, rfl, trivial⟩⟩, ⟨_, rfl, .inr (ob_rows (by rw [hR, List.length_append]; rfl) (by intro j hj; rw [hR]; exact pR_up2 L k e b j hj)), trivial⟩, ⟨_, rfl, .inl rfl, trivial⟩, trivial⟩⟩
    ·refine HT.skip ?_
     refine HT.seq (HT.region S_htakeM_ok (Sq (V.mv (v := .ptr 1 0) rfl (Sq (V.ncPtr rfl (Sq (V.fa ty63 rfl ty56 rfl rfl (Sq (V.ld ty56 rfl rfl rfl (v := .own 2 0 _) rfl (Sq (V.len ty56 (v := .own 2 0 _) rfl rfl (Sq (V.subI rfl rfl (by omega) (Sq (V.ai rfl (Sq (V.as (v := .p (.v (.int .i64 0))) rfl (So.e ?_))))))))))))))))))
     refine HT.ret ?_
     have hR := th_5 (e := e) (L := L) (k := k) (b := b) (l := (lookM G e b)) (by omega) (by exact (Bool.not_eq_false' _).mp (by assumption)) (by omega) (by assumption)
     exact ret_ok (sg [(1, 1), (2, 2), (3, 3)]) h rfl rfl rfl ⟨⟨trivial, trivial, rfl, rfl, trivial⟩, trivial, trivial, trivial⟩ ⟨trivial, trivial, trivial⟩ rfl ⟨⟨⟨le_int (by (rw [hR]; dsimp only; omega)), trivial⟩, ⟨le_int (by (rw [hR]; done)), trivial⟩, trivial⟩, ⟨⟨_, rfl, .inl (by rw [hR, List.length_append]; rfl), ⟨trivial, trivial, rfl, rfl, trivial⟩⟩, ⟨_, rfl, .inr (ob_rows (by rw [hR, List.length_append]; rfl) (by intro j hj; rw [hR]; exact pR_up2 L k e b j hj)), trivial⟩, ⟨_, rfl, .inl rfl, trivial⟩, trivial⟩⟩
def hPostSp : Sp := ⟨[1, 3], mkE (α := (List UInt8) × Int × PLs × PKs × (List UInt8)) (fun (G, e, L, p, b) => [.ptr 1 0, .p (.bs b)]) (fun (G, e, L, p, b) => [(1, ⟨63, 4, 4, true, .cells [.p (.bs G), .p (.v (.int .i64 e)), .own 2 0 ((L).length), .own 3 0 ((p).length)]⟩), (2, ⟨45, 3, (L).length * 3, true, .rows (pR L)⟩), (3, ⟨64, 1, (p).length, true, .rows (kV p)⟩)]) (fun (G, e, L, p, b) => L.length <= 1000 /\ 0 <= e /\ e <= 1000000 /\ b.length <= 1000000000) (fun (G, e, L, p, b) => [.p (.v (.int .i64 ((takeH e L 1 b (lookM G e b)).n))), .p (.v (.int .i64 ((takeH e L 1 b (lookM G e b)).r)))]) (fun (G, e, L, p, b) => [(1, ⟨63, 4, 4, true, .cells [.p (.bs G), .p (.v (.int .i64 ((takeH e L 1 b (lookM G e b)).e))), .own 2 0 (((takeH e L 1 b (lookM G e b)).L).length), .own 3 0 ((p).length)]⟩), (2, ⟨45, 3, ((takeH e L 1 b (lookM G e b)).L).length * 3, true, .rows (pR ((takeH e L 1 b (lookM G e b)).L))⟩), (3, ⟨64, 1, (p).length, true, .rows (kV p)⟩)])⟩
def S_hPost : FuncId -> Option Sp := fun f => if f = 31 then some htakeMSp else none
theorem S_hPost_ok : ∀ f s, S_hPost f = some s -> FOK Tryd.prog gl f s := sI htakeM_ok sN
theorem hPost_ok : FOK Tryd.prog gl 11 hPostSp := by
 refine FOK.ofE (tyOf_ok Tryd.prog) (slots := [4, 5]) (nt := 13) Tryd.func11 rfl rfl rfl rfl (by decide) 2 (fun ⟨_, _, _, _, _⟩ => rfl) (by decide) (fun ⟨_, _, _, _, _⟩ => ⟨rfl, trivial, trivial⟩) ?_
 rintro ⟨G, e, L, p, b⟩ kk hlen hpre h
 have hl1 : (b).length <= 9223372036854775807 := hlen.2.1
 replace hpre : L.length <= 1000 /\ 0 <= e /\ e <= 1000000 /\ b.length <= 1000000000 := hpre
 show HT (cx Tryd.prog 13 (tyOf Tryd.prog) gl [1, 3]) _ [(0, .ptr 1 0), (1, .p (.bs b))] [(1, ⟨63, 4, 4, true, .cells [.p (.bs G), .p (.v (.int .i64 e)), .own 2 0 ((L).length), .own 3 0 ((p).length)]⟩), (2, ⟨45, 3, (L).length * 3, true, .rows (pR L)⟩), (3, ⟨64, 1, (p).length, true, .rows (kV p)⟩)] _
 refine HT.seq (HT.region S_hPost_ok (Sq (V.as (v := .p (.v (.int .i64 0))) rfl (Sq (V.as (v := .p (.v (.int .i64 0))) rfl (So.e (HT.seq (HT.region S_hPost_ok (Sq (V.mv (v := .ptr 1 0) rfl (Sq (V.mv (v := .p (.bs _)) rfl (Sq (V.mv (v := .ptr 1 0) rfl (So.n (lk rfl) (A.mkv (t := 1) (off := 0) rfl rfl rfl ?_))))))))))))))))
 refine So.n (lk rfl) (A.call [.ptr 1 _, .p (.v (.int .i64 _)), .p (.bs _), .mv 32 1 _] [(1, ⟨_, _, _, _, .cells [.p (.bs _), .p (.v (.int .i64 _)), .own 2 0 _, .own 3 0 _]⟩), (2, ⟨_, _, _, _, .rows _⟩), (3, ⟨_, _, _, _, .rows _⟩)] (sg [(1, 1), (2, 2), (3, 3)]) 4 rfl rfl rfl rfl ⟨rfl, rfl, rfl, trivial⟩ rfl ⟨⟨trivial, trivial, rfl, rfl, trivial⟩, trivial, trivial, trivial⟩ ⟨rfl, trivial, trivial, rfl, trivial⟩ ⟨lk rfl, lk rfl, trivial⟩ rfl (_, _, _, _, _, _) ⟨.refl _, .refl _, .refl _, .refl _, trivial⟩ ⟨⟨_, rfl, .inl rfl, ⟨trivial, trivial, rfl, rfl, trivial⟩⟩, ⟨_, rfl, .inl rfl, trivial⟩, ⟨_, rfl, .inl rfl, trivial⟩, trivial⟩ (by omega) tT ⟨⟨_, _, rfl, rfl, rfl, Nat.le_refl _⟩, ⟨_, _, rfl, rfl, rfl, Nat.le_refl _⟩, trivial⟩ (.inl rfl) rfl (v := .tup 2 _) rfl (O' := (1, ⟨_, _, _, _, .cells _⟩) :: (6, ⟨_, _, _, _, .rows _⟩) :: (3, ⟨_, _, _, _, .rows _⟩) :: _) rfl (fun h1 => ?_))
 refine Sq (V.ei rfl rfl (Sq (V.ei rfl rfl (Sq (V.ai rfl (Sq (V.ai rfl (So.e ?_))))))))
 refine HT.ret ?_
 exact ret_ok (sg [(1, 1), (2, 6), (3, 3)]) h rfl rfl rfl ⟨⟨trivial, trivial, rfl, rfl, trivial⟩, trivial, trivial, trivial⟩ ⟨trivial, trivial, trivial⟩ rfl ⟨⟨⟨le_int (by rfl), trivial⟩, ⟨le_int (by rfl), trivial⟩, trivial⟩, ⟨⟨_, rfl, .inl (by rfl), ⟨trivial, trivial, rfl, rfl, trivial⟩⟩, ⟨_, rfl, .inr (ob_rows (by rfl) (by simp; done)), trivial⟩, ⟨_, rfl, .inr (ob_rows (by rfl) (by simp; done)), trivial⟩, trivial⟩⟩
def wtextSp : Sp := ⟨[1], mkE (α := (List UInt8) × (List (List UInt8))) (fun (x, l) => [.ptr 1 0, .p (.sl (l).length 1 (fun j => .bs ((l).getD j [])))]) (fun (x, l) => [(1, ⟨86, 1, 1, true, .cells [.own 2 0 ((x).length)]⟩), (2, ⟨5, 1, (x).length, true, .bs (x)⟩)]) (fun (x, l) => x.length <= 1000000000 /\ l.length <= 10) (fun (x, l) => []) (fun (x, l) => [(1, ⟨86, 1, 1, true, .cells [.own 2 0 ((x ++ txL l).length)]⟩), (2, ⟨5, 1, (x ++ txL l).length, true, .bs (x ++ txL l)⟩)])⟩
def S_wtext : FuncId -> Option Sp := fun f => if f = 61 then some textSp else none
theorem S_wtext_ok : ∀ f s, S_wtext f = some s -> FOK Tryd.prog gl f s := sI text_ok sN
theorem wtext_ok : FOK Tryd.prog gl 45 wtextSp := by
 refine FOK.ofE (tyOf_ok Tryd.prog) (slots := []) (nt := 29) Tryd.func45 rfl rfl rfl rfl (by decide) 2 (fun ⟨_, _⟩ => rfl) (by decide) (fun ⟨_, _⟩ => ⟨rfl, trivial, trivial⟩) ?_
 rintro ⟨x, l⟩ kk hlen hpre h
 have hl1 : (l).length <= 9223372036854775807 := hlen.2.1
 replace hpre : x.length <= 1000000000 /\ l.length <= 10 := hpre
 show HT (cx Tryd.prog 29 (tyOf Tryd.prog) gl [1]) _ [(0, .ptr 1 0), (1, .p (.sl (l).length 1 (fun j => .bs ((l).getD j []))))] [(1, ⟨86, 1, 1, true, .cells [.own 2 0 ((x).length)]⟩), (2, ⟨5, 1, (x).length, true, .bs (x)⟩)] _
 have hb : ∀ k, k <= l.length -> (txL (l.take k)).length <= 1048580 * k := txL_len l
 refine HT.seq (HT.region S_wtext_ok (Sq (V.mv (v := .p (.sl _ 1 _)) rfl (Sq (V.len ty22 (v := .p (.sl _ 1 _)) rfl rfl (Sq (V.mv (v := .p (.v (.int .i64 0))) rfl (So.e (HT.block ?_)))))))))
 refine R.loop (σ := Nat) (fun s => [(10, .p (.v (.int .i64 ((s : Int)))))]) (fun s => [(1, ⟨86, 1, 1, true, .cells [.own 2 0 ((x ++ txL (l.take s)).length)]⟩), (2, ⟨5, 1, (x ++ txL (l.take s)).length, true, .bs (x ++ txL (l.take s))⟩)]) [0, 8, 9] [] (fun s => s <= l.length) (fun s => l.length - s) (0) (fr0 := [(0, .ptr 1 0), (8, .p (.sl _ 1 _)), (9, .p (.v (.int .i64 _)))]) (O0 := []) rfl rfl (by omega) ⟨⟨⟨le_int (by rfl), trivial⟩, ⟨.refl _, rfl⟩, ⟨.refl _, trivial⟩, ⟨.refl _, trivial⟩, trivial⟩, ⟨⟨_, rfl, .inl (by simp [txL]; done), ⟨rfl, trivial⟩⟩, ⟨_, rfl, .inl (ob_bs (by simp [txL]; done) (by simp [txL]; done)), trivial⟩, trivial⟩⟩ (fun s hP0 => ?_)
 have hbs := hb s
 have htl := tx_len (l.getD s [])
 refine HT.seq (HT.region S_wtext_ok (Sq (V.bin (a := (.v (.int .i64 ((_ : Nat) : Int)))) (b := .v (.int .i64 _)) (r := .v (.bool _)) rfl rfl rfl trivial (So.e (HT.seq ?_)))))
 refine R.cd rfl rfl (fun h1 => ?_) (fun h1 => ?_)
 ·refine HT.skip (HT.seq (HT.block (HT.seq (HT.region S_wtext_ok (Sq (V.ixSl1 (mi := s) ty22 ty23 rfl rfl rfl (by omega) (by omega) (Sq (V.ldRp ty23 rfl rfl (lk rfl) (v := .bs _) rfl (Sq (V.as (v := .p (.bs _)) rfl (So.e (HT.seq (HT.region S_wtext_ok (Sq (V.mv (v := .p (.bs _)) rfl ?_)))))))))))))))
  refine So.n (lk rfl) (A.call0 [.p (.bs _)] 3 rfl rfl rfl rfl ⟨trivial, trivial⟩ ⟨lk rfl, trivial⟩ _ ⟨.refl _, trivial⟩ trivial (by trivial) (Φ := fun s => (textF s).length <= 1048580) (fun s _ => textF_len s) (.inl rfl) (v := .tup 2 _) rfl (O' := (4, ⟨5, 1, _, true, .bs _⟩) :: _) rfl (fun h2 => ?_))
  try dsimp only at h2
  refine Sq (V.mv (v := .tup 2 _) rfl (Sq (V.ext rfl (lk rfl) (v := .own 4 0 _) rfl (Sq (V.ei rfl rfl (Sq (V.as (v := .own 4 0 _) rfl (Sq (V.ai rfl (So.e (HT.region S_wtext_ok (Sq (V.mv (v := .ptr 1 0) rfl (Sq (V.mv (v := .ptr 1 0) rfl (Sq (V.ncPtr rfl (Sq (V.fa ty86 rfl ty23 rfl rfl (Sq (V.ld ty23 rfl rfl rfl (v := .own 2 0 _) rfl (Sq (V.mv (v := .own 4 0 _) rfl (So.n (lk rfl) (A.apOwn ty23 ty5 rfl rfl rfl rfl (u := .own 4 0 _) rfl rfl (l' := x ++ txL (l.take s) ++ txF (l.getD s [])) (by rw [ap_full (Nat.le_refl _), take_full]) (mn := (x ++ txL (l.take s)).length + (txF (l.getD s [])).length) (by rfl) (by rw [List.length_append]; omega) rfl rfl rfl (Sq (V.ncPtr rfl (Sq (V.fa ty86 rfl ty23 rfl rfl (So.s (A.sto ty23 rfl rfl rfl (v := .own 2 0 _) rfl trivial rfl (lk rfl) rfl rfl (So.e (HT.region S_wtext_ok (Sq (V.addI rfl rfl (by omega) (Sq (V.mi rfl (So.e ?_))))))))))))))))))))))))))))))))))))))
  refine ⟨s + 1, by omega, by omega, ⟨⟨⟨le_int (by rfl), trivial⟩, ⟨.refl _, rfl⟩, ⟨.refl _, trivial⟩, ⟨.refl _, trivial⟩, trivial⟩, ⟨⟨_, rfl, .inl (by (rw [txL_take l (by omega)]; simp only [List.length_append, Nat.add_assoc]; rfl)), ⟨rfl, trivial⟩⟩, ⟨_, rfl, .inl (ob_bs (by (rw [txL_take l (by omega)]; simp only [List.length_append, Nat.add_assoc])) (by (rw [txL_take l (by omega), List.append_assoc]))), trivial⟩, trivial⟩⟩⟩
 ·refine HT.exit ?_
  exact ret_ok (sg [(1, 1), (2, 2)]) h rfl rfl rfl ⟨⟨rfl, trivial⟩, trivial, trivial⟩ trivial rfl ⟨trivial, ⟨⟨_, rfl, .inl (by replace hP0 : s = l.length := (by omega); subst hP0; (rw [List.take_length]; rfl)), ⟨rfl, trivial⟩⟩, ⟨_, rfl, .inl (ob_bs (by replace hP0 : s = l.length := (by omega); subst hP0; (rw [List.take_length])) (by replace hP0 : s = l.length := (by omega); subst hP0; (rw [List.take_length]))), trivial⟩, trivial⟩⟩
def wnumSp : Sp := ⟨[1], mkE (α := (List UInt8) × Int × Int) (fun (x, n, k) => [.ptr 1 0, .p (.v (.int .i64 n)), .p (.v (.int .i64 k))]) (fun (x, n, k) => [(1, ⟨86, 1, 1, true, .cells [.own 2 0 ((x).length)]⟩), (2, ⟨5, 1, (x).length, true, .bs (x)⟩)]) (fun (x, n, k) => x.length <= 1000000000) (fun (x, n, k) => []) (fun (x, n, k) => [(1, ⟨86, 1, 1, true, .cells [.own 2 0 ((x ++ nuF n k).length)]⟩), (2, ⟨5, 1, (x ++ nuF n k).length, true, .bs (x ++ nuF n k)⟩)])⟩
def S_wnum : FuncId -> Option Sp := fun f => if f = 71 then some numSp else none
theorem S_wnum_ok : ∀ f s, S_wnum f = some s -> FOK Tryd.prog gl f s := sI num_ok sN
theorem S_wnum_det : ∀ f s, S_wnum f = some s -> SpDet s.sp := dI dN
theorem wnum_ok : FOK Tryd.prog gl 60 wnumSp := by
 refine FOK.ofE (tyOf_ok Tryd.prog) (slots := []) (nt := 17) Tryd.func60 rfl rfl rfl rfl (by decide) 3 (fun ⟨_, _, _⟩ => rfl) (by decide) (fun ⟨_, _, _⟩ => ⟨rfl, trivial, trivial, trivial⟩) ?_
 rintro ⟨x, n, k⟩ kk hlen hpre h
 replace hpre : x.length <= 1000000000 := hpre
 show HT (cx Tryd.prog 17 (tyOf Tryd.prog) gl [1]) _ [(0, .ptr 1 0), (1, .p (.v (.int .i64 n))), (2, .p (.v (.int .i64 k)))] [(1, ⟨86, 1, 1, true, .cells [.own 2 0 ((x).length)]⟩), (2, ⟨5, 1, (x).length, true, .bs (x)⟩)] _
 refine HT.planS S_wnum_ok S_wnum_det mixed [] [⟨[0, 1, 2, 3, 4, 5, 6, 7], 8, [0]⟩, ⟨[0, 9, 10], 11, []⟩] (by kernel_rfl) ?_
 have hnl := nu_len n k
 refine Pl.lk ?_
 refine Sj rfl (V.mv (v := .ptr 1 0) rfl (Sj rfl (V.mv (v := .ptr 1 0) rfl (Sj rfl (V.ncPtr rfl (Sj rfl (V.fa ty86 rfl ty23 rfl rfl (Sj rfl (V.ld ty23 rfl rfl rfl (v := .own 2 0 _) rfl (Sj rfl (V.mi rfl (Sj rfl (V.mv (v := .p (.v (.int .i64 _))) rfl ?_)))))))))))))
 refine Sj rfl (V.call [.p (.v (.int .i64 _)), .p (.v (.int .i64 _))] 3 rfl rfl rfl rfl ⟨trivial, trivial, trivial⟩ ⟨lk rfl, trivial⟩ (_, _) ⟨.refl _, .refl _, trivial⟩ trivial (by trivial) (Φ := fun (n, k) => (numF n k).length <= 8) (fun _ _ => numF_len _ _) (.inl ⟨trivial, trivial, trivial⟩) (v := .p (.bs _)) rfl (fun h1 => ?_))
 try dsimp only at h1
 refine Si.e ?_
 refine ⟨flEq_nil, fun ff => ?_⟩
 refine Lo.n rfl (lk rfl) (A.apOwn ty23 ty5 rfl rfl rfl rfl (u := .p (.bs _)) rfl rfl (l' := x ++ nuF n k) (by rw [ap_full (Nat.le_refl _), take_full]) (mn := x.length + (nuF n k).length) (by (rw [take_full]; done)) (by omega) rfl rfl rfl ?_)
 refine ⟨_, fun ff => Fr.kill 2 ff, ap1d, rfl, (FG.kill 2 (flP_cons rfl flP_nil)), ?_⟩
 show planA _ _ _ _ _ [(0, .ptr 1 0)] _ _ _
 refine Pl.l0 ?_
 refine Sj rfl (V.mv (v := .ptr 1 0) rfl (Sj rfl (V.ncPtr rfl (Sj rfl (V.fa ty86 rfl ty23 rfl rfl (Si.e ?_))))))
 refine ⟨(flEq_cons rfl flEq_nil), ?_⟩
 refine Lo.s rfl (A.sto ty23 rfl rfl rfl (v := .own 2 0 _) rfl trivial rfl (lk rfl) rfl rfl ?_)
 refine Pl.e ?_
 refine Si.e ?_
 refine ⟨flEq_nil, ?_⟩
 exact ret_ok (sg [(1, 1), (2, 2)]) h rfl rfl rfl ⟨⟨rfl, trivial⟩, trivial, trivial⟩ trivial rfl ⟨trivial, ⟨⟨_, rfl, .inl (by rw [List.length_append]; rfl), ⟨rfl, trivial⟩⟩, ⟨_, rfl, .inl (ob_bs (by rw [List.length_append]) (by rfl)), trivial⟩, trivial⟩⟩
def wplaceSp : Sp := ⟨[1], mkE (α := (List UInt8) × (List UInt8) × Int × Int) (fun (x, g, ep, fr) => [.ptr 1 0, .agg 3 (fun j => ([.bs g, .v (.int .i64 ep), .v (.int .i64 fr)] : List PV).getD j (.v undef))]) (fun (x, g, ep, fr) => [(1, ⟨86, 1, 1, true, .cells [.own 2 0 ((x).length)]⟩), (2, ⟨5, 1, (x).length, true, .bs (x)⟩)]) (fun (x, g, ep, fr) => x.length <= 900000000) (fun (x, g, ep, fr) => []) (fun (x, g, ep, fr) => [(1, ⟨86, 1, 1, true, .cells [.own 2 0 ((x ++ txF g ++ nuF ep 8 ++ nuF fr 4).length)]⟩), (2, ⟨5, 1, (x ++ txF g ++ nuF ep 8 ++ nuF fr 4).length, true, .bs (x ++ txF g ++ nuF ep 8 ++ nuF fr 4)⟩)])⟩
def S_wplace : FuncId -> Option Sp := fun f => if f = 45 then some wtextSp else if f = 60 then some wnumSp else none
theorem S_wplace_ok : ∀ f s, S_wplace f = some s -> FOK Tryd.prog gl f s := sI wtext_ok (sI wnum_ok sN)
theorem wplace_ok : FOK Tryd.prog gl 58 wplaceSp := by
 refine FOK.ofE (tyOf_ok Tryd.prog) (slots := []) (nt := 17) Tryd.func58 rfl rfl rfl rfl (by decide) 2 (fun ⟨_, _, _, _⟩ => rfl) (by decide) (fun ⟨_, _, _, _⟩ => ⟨rfl, trivial, trivial⟩) ?_
 rintro ⟨x, g, ep, fr⟩ kk hlen hpre h
 replace hpre : x.length <= 900000000 := hpre
 show HT (cx Tryd.prog 17 (tyOf Tryd.prog) gl [1]) _ [(0, .ptr 1 0), (1, .agg 3 (fun j => ([.bs g, .v (.int .i64 ep), .v (.int .i64 fr)] : List PV).getD j (.v undef)))] [(1, ⟨86, 1, 1, true, .cells [.own 2 0 ((x).length)]⟩), (2, ⟨5, 1, (x).length, true, .bs (x)⟩)] _
 have h8 := nu_len ep 8
 have h4 := nu_len fr 4
 have htg := tx_len g
 have hx1 : (x ++ txF g).length = x.length + (txF g).length := List.length_append
 have hx2 : (x ++ txF g ++ nuF ep 8).length = x.length + (txF g).length + (nuF ep 8).length := by rw [List.length_append, hx1]
 refine HT.seq (HT.region S_wplace_ok (So.n (lk rfl) (A.boxAg 3 1 (n := 3) rfl (by intro j hj; (match j, hj with | 0, _ => (trivial) | 1, _ => (trivial) | 2, _ => (trivial))) rfl ⟨lk rfl, trivial⟩ (So.e (HT.seq (HT.region S_wplace_ok (Sq (V.mv (v := .ptr 1 0) rfl (Sq (V.fa ty75 rfl ty23 rfl rfl (Sq (V.ld ty23 rfl rfl rfl (v := .p (.bs _)) rfl (So.n (lk rfl) (A.bsl 4 ty22 ty23 rfl (lk rfl) (lk rfl) (fun _ => rfl) rfl rfl ⟨lk rfl, trivial⟩ ⟨trivial, trivial⟩ rfl (N := 1) rfl (c := .rows _) rfl ?_))))))))))))))
 refine So.n (lk rfl) (A.call [.ptr 1 _, .p (.sl _ _ _)] [(1, ⟨_, _, _, _, .cells [.own 2 0 _]⟩), (2, ⟨_, _, _, _, .bs _⟩)] (sg [(1, 1), (2, 2)]) 5 rfl rfl rfl rfl ⟨rfl, rfl, trivial⟩ rfl ⟨⟨rfl, trivial⟩, trivial, trivial⟩ ⟨rfl, trivial, trivial⟩ ⟨lk rfl, trivial⟩ rfl (x, [g]) ⟨.refl _, le_sl rfl (by intro j hj; match j, hj with | 0, _ => rfl), trivial⟩ ⟨⟨_, rfl, .inl rfl, ⟨rfl, trivial⟩⟩, ⟨_, rfl, .inl rfl, trivial⟩, trivial⟩ (by (simp; omega)) tT ⟨⟨_, _, rfl, rfl, rfl, Nat.le_refl _⟩, trivial⟩ (.inr ⟨fun _ hj => absurd hj (Nat.not_lt_zero _), by simp [Hp.scal, OC.scal, PV.scal, BV.scal]⟩) rfl (v := .tup 0 _) rfl (O' := (1, ⟨_, _, _, _, .cells _⟩) :: (7, ⟨_, _, _, _, .bs _⟩) :: _) rfl (fun h1 => ?_))
 refine So.e (HT.seq ?_)
 refine R.tell [] [(1, ⟨86, 1, 1, true, .cells [.own 7 0 ((x ++ txF g).length)]⟩), (7, ⟨5, 1, (x ++ txF g).length, true, .bs (x ++ txF g)⟩)] [0, 3] [3] (fr0 := [(0, .ptr 1 0), (3, .ptr 3 0)]) (O0 := [(3, ⟨_, _, _, _, .rows _⟩)]) rfl rfl ⟨⟨⟨.refl _, rfl⟩, ⟨.refl _, rfl⟩, trivial⟩, ⟨⟨_, rfl, .inl (by (rw [txL_1]; rfl)), ⟨rfl, trivial⟩⟩, ⟨_, rfl, .inl (ob_bs (by (rw [txL_1])) (by (rw [txL_1]))), trivial⟩, ⟨_, rfl, .inl rfl, trivial⟩, trivial⟩⟩ ?_
 refine HT.region S_wplace_ok (Sq (V.mv (v := .ptr 1 0) rfl (Sq (V.fa ty75 rfl ty2 rfl rfl (Sq (V.ld ty2 rfl rfl rfl (v := .p (.v (.int .i64 _))) rfl ?_))))))
 refine So.n (lk rfl) (A.call [.ptr 1 _, .p (.v (.int .i64 _)), .p (.v (.int .i64 _))] [(1, ⟨_, _, _, _, .cells [.own 2 0 _]⟩), (2, ⟨_, _, _, _, .bs _⟩)] (sg [(1, 1), (2, 7)]) 8 rfl rfl rfl rfl ⟨rfl, rfl, trivial⟩ rfl ⟨⟨rfl, trivial⟩, trivial, trivial⟩ ⟨rfl, trivial, trivial, trivial⟩ ⟨lk rfl, trivial⟩ rfl (x ++ txF g, ep, 8) ⟨.refl _, .refl _, .refl _, trivial⟩ ⟨⟨_, rfl, .inl rfl, ⟨rfl, trivial⟩⟩, ⟨_, rfl, .inl rfl, trivial⟩, trivial⟩ (by omega) tT ⟨⟨_, _, rfl, rfl, rfl, Nat.le_refl _⟩, trivial⟩ (.inl rfl) rfl (v := .tup 0 _) rfl (O' := (1, ⟨_, _, _, _, .cells _⟩) :: (10, ⟨_, _, _, _, .bs _⟩) :: _) rfl (fun h2 => ?_))
 refine So.e (HT.region S_wplace_ok (Sq (V.mv (v := .ptr 1 0) rfl (Sq (V.fa ty75 rfl ty3 rfl rfl (Sq (V.ld ty3 rfl rfl rfl (v := .p (.v (.int .i64 _))) rfl ?_)))))))
 refine So.n (lk rfl) (A.call [.ptr 1 _, .p (.v (.int .i64 _)), .p (.v (.int .i64 _))] [(1, ⟨_, _, _, _, .cells [.own 2 0 _]⟩), (2, ⟨_, _, _, _, .bs _⟩)] (sg [(1, 1), (2, 10)]) 11 rfl rfl rfl rfl ⟨rfl, rfl, trivial⟩ rfl ⟨⟨rfl, trivial⟩, trivial, trivial⟩ ⟨rfl, trivial, trivial, trivial⟩ ⟨lk rfl, trivial⟩ rfl (x ++ txF g ++ nuF ep 8, fr, 4) ⟨.refl _, .refl _, .refl _, trivial⟩ ⟨⟨_, rfl, .inl rfl, ⟨rfl, trivial⟩⟩, ⟨_, rfl, .inl rfl, trivial⟩, trivial⟩ (by omega) tT ⟨⟨_, _, rfl, rfl, rfl, Nat.le_refl _⟩, trivial⟩ (.inl rfl) rfl (v := .tup 0 _) rfl (O' := (1, ⟨_, _, _, _, .cells _⟩) :: (13, ⟨_, _, _, _, .bs _⟩) :: _) rfl (fun h3 => ?_))
 refine So.e ?_
 exact ret_ok (sg [(1, 1), (2, 13)]) h rfl rfl rfl ⟨⟨rfl, trivial⟩, trivial, trivial⟩ trivial rfl ⟨trivial, ⟨⟨_, rfl, .inl (by rfl), ⟨rfl, trivial⟩⟩, ⟨_, rfl, .inl (ob_bs (by rfl) (by rfl)), trivial⟩, trivial⟩⟩
def fbytesSp : Sp := ⟨[], mkE (α := (List UInt8) × Int × Int × Int × (List UInt8)) (fun (g, ep, fr, kd, bd) => [.agg 5 (fun j => ([.bs g, .v (.int .i64 ep), .v (.int .i64 fr), .v (.int .i64 kd), .bs bd] : List PV).getD j (.v undef))]) (fun (g, ep, fr, kd, bd) => []) (fun (g, ep, fr, kd, bd) => True) (fun (g, ep, fr, kd, bd) => [.own 2 0 ((bytesF g ep fr kd bd).length), .p (.v (.int .i64 (bytesE g ep fr kd bd)))]) (fun (g, ep, fr, kd, bd) => [(2, ⟨5, 1, (bytesF g ep fr kd bd).length, true, .bs (bytesF g ep fr kd bd)⟩)])⟩
def S_fbytes : FuncId -> Option Sp := fun f => if f = 53 then some frightSp else if f = 59 then some fofSp else if f = 58 then some wplaceSp else if f = 60 then some wnumSp else if f = 45 then some wtextSp else none
theorem S_fbytes_ok : ∀ f s, S_fbytes f = some s -> FOK Tryd.prog gl f s := sI fright_ok (sI fof_ok (sI wplace_ok (sI wnum_ok (sI wtext_ok sN))))
theorem fbytes_ok : FOK Tryd.prog gl 44 fbytesSp := by
 refine FOK.ofE (tyOf_ok Tryd.prog) (slots := [2, 3]) (nt := 27) Tryd.func44 rfl rfl rfl rfl (by decide) 1 (fun ⟨_, _, _, _, _⟩ => rfl) (by decide) (fun ⟨_, _, _, _, _⟩ => ⟨trivial, trivial⟩) ?_
 rintro ⟨g, ep, fr, kd, bd⟩ kk hlen hpre h
 replace hpre : True := hpre
 show HT (cx Tryd.prog 27 (tyOf Tryd.prog) gl []) _ [(0, .agg 5 (fun j => ([.bs g, .v (.int .i64 ep), .v (.int .i64 fr), .v (.int .i64 kd), .bs bd] : List PV).getD j (.v undef)))] [] _
 have h8 := nu_len ep 8
 have h4 := nu_len fr 4
 have h1k := nu_len kd 1
 have htg := tx_len g
 have hp3 : (txF g ++ nuF ep 8 ++ nuF fr 4).length = (txF g).length + (nuF ep 8).length + (nuF fr 4).length := by rw [List.length_append, List.length_append]
 have hp4 : (txF g ++ nuF ep 8 ++ nuF fr 4 ++ nuF kd 1).length = (txF g ++ nuF ep 8 ++ nuF fr 4).length + (nuF kd 1).length := List.length_append
 refine HT.seq (HT.region S_fbytes_ok (So.n (lk rfl) (A.boxAg 1 1 (n := 5) rfl (by intro j hj; (match j, hj with | 0, _ => (trivial) | 1, _ => (trivial) | 2, _ => (trivial) | 3, _ => (trivial) | 4, _ => (trivial))) rfl trivial (Sq (V.as (v := .p (.v (.slice none 0 0))) rfl (Sq (V.as (v := .p (.v (.int .i64 0))) rfl (So.e (HT.seq (HT.seq (HT.region S_fbytes_ok (Sq (V.ldPtrA ty36 rfl rfl rfl rfl (lk rfl) ?_)))))))))))))
 refine So.n (lk rfl) (A.call0 [.agg 5 _] 2 rfl rfl rfl rfl ⟨trivial, trivial⟩ trivial (g, ep, fr, kd, bd) ⟨le_agg (fun j hj => by match j, hj with | 0, _ => rfl | 1, _ => rfl | 2, _ => rfl | 3, _ => rfl | 4, _ => rfl), trivial⟩ trivial (by trivial) tT (.inl rfl) (v := .p (.v (.bool _))) rfl (O' := _) rfl (fun h1 => ?_))
 refine Sq (V.not rfl (So.e ?_))
 refine R.cond rfl rfl (fun h2 => ?_) (fun h2 => ?_)
 ·have h2 := of_decide_eq_false (bnT h2)
  refine HT.seq (HT.region S_fbytes_ok (Sq (V.as (v := .p (.v (.slice none 0 0))) rfl (Sq (V.as (v := .p (.v (.int .i64 181))) rfl (So.e ?_))))))
  refine R.phan 2 2 5 1 (.bs []) rfl rfl rfl ⟨rfl, rfl⟩ ?_
  refine HT.ret ?_
  exact ret_ok (sg [(2, 2)]) h rfl rfl rfl ⟨trivial, trivial⟩ ⟨rfl, trivial, trivial⟩ rfl ⟨⟨⟨le_own2 (by rfl) (by (show (_ : Nat) = _; (rw [bytesF_no (by assumption)]; rfl))), rfl⟩, ⟨le_int (by (show (_ : Int) = _; (rw [bytesE_no (by assumption)]; done))), trivial⟩, trivial⟩, ⟨⟨_, rfl, .inl (ob_bs (by show (_ : Nat) = _; (rw [bytesF_no (by assumption)]; rfl)) (by show (_ : List UInt8) = _; (rw [bytesF_no (by assumption)]; done))), trivial⟩, trivial⟩⟩
 ·have h2 := of_decide_eq_true (bnF h2)
  refine HT.skip (HT.seq (HT.region S_fbytes_ok (So.n (lk rfl) (A.bldG ty86 rfl trivial rfl rfl (So.n (lk rfl) (A.boxG 2 1 [.p (.v (.slice none 0 0))] rfl (by intro j hj; match j, hj with | 0, _ => (exact rfl)) rfl (by intro j hj; match j, hj with | 0, _ => rfl) rfl trivial (Sq (V.as (v := .ptr 2 0) rfl (So.e (HT.seq ?_))))))))))
  refine HT.phanC 2 3 5 1 (.bs []) (c' := .cells [.own 3 0 0]) rfl rfl rfl ⟨rfl, rfl⟩ rfl (allP_spec (P := fun j => _ ∨ _) ⟨trivial, .inr ⟨rfl, rfl⟩⟩) rfl ?_
  refine HT.region S_fbytes_ok (Sq (V.mv (v := .ptr 2 0) rfl (Sq (V.ldPtrA ty36 rfl rfl rfl rfl (lk rfl) ?_))))
  refine So.n (lk rfl) (A.call0 [.agg 5 _] 4 rfl rfl rfl rfl ⟨trivial, trivial⟩ trivial (g, ep, fr, kd, bd) ⟨le_agg (fun j hj => by match j, hj with | 0, _ => rfl | 1, _ => rfl | 2, _ => rfl | 3, _ => rfl | 4, _ => rfl), trivial⟩ trivial (by trivial) tT (.inl rfl) (v := .agg 3 _) rfl (O' := _) rfl (fun h3 => ?_))
  refine So.n (lk rfl) (A.call [.ptr 1 _, .agg 3 _] [(1, ⟨_, _, _, _, .cells [.own 2 0 _]⟩), (2, ⟨_, _, _, _, .bs _⟩)] (sg [(1, 2), (2, 3)]) 4 rfl rfl rfl rfl ⟨rfl, rfl, trivial⟩ rfl ⟨⟨rfl, trivial⟩, trivial, trivial⟩ ⟨rfl, trivial, trivial⟩ trivial rfl (nl, g, ep, fr) ⟨.refl _, .refl _, trivial⟩ ⟨⟨_, rfl, .inl rfl, ⟨rfl, trivial⟩⟩, ⟨_, rfl, .inl rfl, trivial⟩, trivial⟩ (by (simp; done)) tT ⟨⟨_, _, rfl, rfl, rfl, Nat.le_refl _⟩, trivial⟩ (.inl rfl) rfl (v := .tup 0 _) rfl (O' := (2, ⟨_, _, _, _, .cells _⟩) :: (6, ⟨_, _, _, _, .bs _⟩) :: _) rfl (fun h4 => ?_))
  refine So.e (HT.seq ?_)
  refine R.tell [] [(2, ⟨86, 1, 1, true, .cells [.own 6 0 ((txF g ++ nuF ep 8 ++ nuF fr 4).length)]⟩), (6, ⟨5, 1, (txF g ++ nuF ep 8 ++ nuF fr 4).length, true, .bs (txF g ++ nuF ep 8 ++ nuF fr 4)⟩)] [1, 2, 3, 4] [1] (fr0 := [(1, .ptr 1 0), (2, .p (.v (.slice none 0 0))), (3, .p (.v (.int .i64 _))), (4, .ptr 2 0)]) (O0 := [(1, ⟨_, _, _, _, .rows _⟩)]) rfl rfl ⟨⟨⟨.refl _, rfl⟩, ⟨.refl _, trivial⟩, ⟨.refl _, trivial⟩, ⟨.refl _, rfl⟩, trivial⟩, ⟨⟨_, rfl, .inl (by rfl), ⟨rfl, trivial⟩⟩, ⟨_, rfl, .inl (ob_bs (by rfl) (by rfl)), trivial⟩, ⟨_, rfl, .inl rfl, trivial⟩, trivial⟩⟩ ?_
  refine HT.region S_fbytes_ok (Sq (V.mv (v := .ptr 2 0) rfl (Sq (V.fa ty36 rfl ty3 rfl rfl (Sq (V.ld ty3 rfl rfl rfl (v := .p (.v (.int .i64 _))) rfl ?_))))))
  refine So.n (lk rfl) (A.call [.ptr 1 _, .p (.v (.int .i64 _)), .p (.v (.int .i64 _))] [(1, ⟨_, _, _, _, .cells [.own 2 0 _]⟩), (2, ⟨_, _, _, _, .bs _⟩)] (sg [(1, 2), (2, 6)]) 7 rfl rfl rfl rfl ⟨rfl, rfl, trivial⟩ rfl ⟨⟨rfl, trivial⟩, trivial, trivial⟩ ⟨rfl, trivial, trivial, trivial⟩ trivial rfl (txF g ++ nuF ep 8 ++ nuF fr 4, kd, 1) ⟨.refl _, .refl _, .refl _, trivial⟩ ⟨⟨_, rfl, .inl rfl, ⟨rfl, trivial⟩⟩, ⟨_, rfl, .inl rfl, trivial⟩, trivial⟩ (by omega) tT ⟨⟨_, _, rfl, rfl, rfl, Nat.le_refl _⟩, trivial⟩ (.inl rfl) rfl (v := .tup 0 _) rfl (O' := (2, ⟨_, _, _, _, .cells _⟩) :: (9, ⟨_, _, _, _, .bs _⟩) :: _) rfl (fun h5 => ?_))
  refine So.e (HT.seq (HT.region S_fbytes_ok (Sq (V.mv (v := .ptr 2 0) rfl (Sq (V.fa ty36 rfl ty23 rfl rfl (Sq (V.ld ty23 rfl rfl rfl (v := .p (.bs _)) rfl (So.n (lk rfl) (A.bsl 10 ty22 ty23 rfl (lk rfl) (lk rfl) (fun _ => rfl) rfl rfl trivial ⟨trivial, trivial⟩ rfl (N := 1) rfl (c := .rows _) rfl ?_))))))))))
  refine So.n (lk rfl) (A.call [.ptr 1 _, .p (.sl _ _ _)] [(1, ⟨_, _, _, _, .cells [.own 2 0 _]⟩), (2, ⟨_, _, _, _, .bs _⟩)] (sg [(1, 2), (2, 9)]) 11 rfl rfl rfl rfl ⟨rfl, rfl, trivial⟩ rfl ⟨⟨rfl, trivial⟩, trivial, trivial⟩ ⟨rfl, trivial, trivial⟩ trivial rfl (txF g ++ nuF ep 8 ++ nuF fr 4 ++ nuF kd 1, [bd]) ⟨.refl _, le_sl rfl (by intro j hj; match j, hj with | 0, _ => rfl), trivial⟩ ⟨⟨_, rfl, .inl rfl, ⟨rfl, trivial⟩⟩, ⟨_, rfl, .inl rfl, trivial⟩, trivial⟩ (by (simp; omega)) tT ⟨⟨_, _, rfl, rfl, rfl, Nat.le_refl _⟩, trivial⟩ (.inr ⟨fun _ hj => absurd hj (Nat.not_lt_zero _), by simp [Hp.scal, OC.scal, PV.scal, BV.scal]⟩) rfl (v := .tup 0 _) rfl (O' := (2, ⟨_, _, _, _, .cells _⟩) :: (13, ⟨_, _, _, _, .bs _⟩) :: _) rfl (fun h6 => ?_))
  refine So.e (HT.seq ?_)
  refine R.tell [] [(2, ⟨86, 1, 1, true, .cells [.own 13 0 ((bodyF g ep fr kd bd).length)]⟩), (13, ⟨5, 1, (bodyF g ep fr kd bd).length, true, .bs (bodyF g ep fr kd bd)⟩)] [2, 3, 4] [] (fr0 := [(2, .p (.v (.slice none 0 0))), (3, .p (.v (.int .i64 _))), (4, .ptr 2 0)]) (O0 := []) rfl rfl ⟨⟨⟨.refl _, trivial⟩, ⟨.refl _, trivial⟩, ⟨.refl _, rfl⟩, trivial⟩, ⟨⟨_, rfl, .inl (by (rw [txL_1]; rfl)), ⟨rfl, trivial⟩⟩, ⟨_, rfl, .inl (ob_bs (by (rw [txL_1]; rfl)) (by (rw [txL_1]; rfl))), trivial⟩, trivial⟩⟩ ?_
  refine HT.region S_fbytes_ok (Sq (V.mv (v := .ptr 2 0) rfl (Sq (V.ncPtr rfl (Sq (V.fa ty86 rfl ty23 rfl rfl (Sq (V.ld ty23 rfl rfl rfl (v := .own 13 0 _) rfl (Sq (V.as (v := .own 13 0 _) rfl (Sq (V.as (v := .p (.v (.int .i64 0))) rfl (So.e ?_)))))))))))))
  refine HT.ret ?_
  exact ret_ok (sg [(2, 13)]) h rfl rfl rfl ⟨trivial, trivial⟩ ⟨rfl, trivial, trivial⟩ rfl ⟨⟨⟨le_own2 (by rfl) (by (show (_ : Nat) = _; (rw [bytesF_yes (by assumption)]; done))), rfl⟩, ⟨le_int (by (show (_ : Int) = _; (rw [bytesE_yes (by assumption)]; done))), trivial⟩, trivial⟩, ⟨⟨_, rfl, .inl (ob_bs (by show (_ : Nat) = _; (rw [bytesF_yes (by assumption)]; done)) (by show (_ : List UInt8) = _; (rw [bytesF_yes (by assumption)]; done))), trivial⟩, trivial⟩⟩
def fputSp : Sp := ⟨[], mkE (α := (List UInt8) × Int × Int × Int × (List UInt8) × (List UInt8) × (List UInt8) × (List UInt8)) (fun (g, ep, fr, kd, bd, sn, cf, mb) => [.agg 8 (fun j => ([.bs g, .v (.int .i64 ep), .v (.int .i64 fr), .v (.int .i64 kd), .bs bd, .bs sn, .bs cf, .bs mb] : List PV).getD j (.v undef))]) (fun (g, ep, fr, kd, bd, sn, cf, mb) => []) (fun (g, ep, fr, kd, bd, sn, cf, mb) => True) (fun (g, ep, fr, kd, bd, sn, cf, mb) => [.own 2 0 ((putF g ep fr kd bd sn cf mb).length), .p (.v (.int .i64 (putE g ep fr kd bd sn cf mb)))]) (fun (g, ep, fr, kd, bd, sn, cf, mb) => [(2, ⟨5, 1, (putF g ep fr kd bd sn cf mb).length, true, .bs (putF g ep fr kd bd sn cf mb)⟩)])⟩
def S_fput : FuncId -> Option Sp := fun f => if f = 39 then some fmsgSp else if f = 44 then some fbytesSp else if f = 45 then some wtextSp else none
theorem S_fput_ok : ∀ f s, S_fput f = some s -> FOK Tryd.prog gl f s := sI fmsg_ok (sI fbytes_ok (sI wtext_ok sN))
theorem fput_ok : FOK Tryd.prog gl 29 fputSp := by
 refine FOK.ofE (tyOf_ok Tryd.prog) (slots := [2, 3]) (nt := 32) Tryd.func29 rfl rfl rfl rfl (by decide) 1 (fun ⟨_, _, _, _, _, _, _, _⟩ => rfl) (by decide) (fun ⟨_, _, _, _, _, _, _, _⟩ => ⟨trivial, trivial⟩) ?_
 rintro ⟨g, ep, fr, kd, bd, sn, cf, mb⟩ kk hlen hpre h
 replace hpre : True := hpre
 show HT (cx Tryd.prog 32 (tyOf Tryd.prog) gl []) _ [(0, .agg 8 (fun j => ([.bs g, .v (.int .i64 ep), .v (.int .i64 fr), .v (.int .i64 kd), .bs bd, .bs sn, .bs cf, .bs mb] : List PV).getD j (.v undef)))] [] _
 have hbl := body_len g ep fr kd bd
 refine HT.seq (HT.region S_fput_ok (So.n (lk rfl) (A.boxAg 1 1 (n := 8) rfl (by intro j hj; (match j, hj with | 0, _ => (trivial) | 1, _ => (trivial) | 2, _ => (trivial) | 3, _ => (trivial) | 4, _ => (trivial) | 5, _ => (trivial) | 6, _ => (trivial) | 7, _ => (trivial))) rfl trivial (Sq (V.as (v := .p (.v (.slice none 0 0))) rfl (Sq (V.as (v := .p (.v (.int .i64 0))) rfl (So.e (HT.seq (HT.seq (HT.region S_fput_ok (Sq (V.ldPtrA ty49 rfl rfl rfl rfl (lk rfl) ?_)))))))))))))
 refine So.n (lk rfl) (A.call0 [.agg 8 _] 2 rfl rfl rfl rfl ⟨trivial, trivial⟩ trivial (g, ep, fr, kd, bd, sn, cf, mb) ⟨le_agg (fun j hj => by match j, hj with | 0, _ => rfl | 1, _ => rfl | 2, _ => rfl | 3, _ => rfl | 4, _ => rfl | 5, _ => rfl | 6, _ => rfl | 7, _ => rfl), trivial⟩ trivial (by trivial) tT (.inl rfl) (v := .p (.v (.bool _))) rfl (O' := _) rfl (fun h1 => ?_))
 refine Sq (V.not rfl (So.e ?_))
 refine R.cond rfl rfl (fun h2 => ?_) (fun h2 => ?_)
 ·have h2 := of_decide_eq_false (bnT h2)
  refine HT.seq (HT.region S_fput_ok (Sq (V.as (v := .p (.v (.slice none 0 0))) rfl (Sq (V.as (v := .p (.v (.int .i64 181))) rfl (So.e ?_))))))
  refine R.phan 2 2 5 1 (.bs []) rfl rfl rfl ⟨rfl, rfl⟩ ?_
  refine HT.ret ?_
  exact ret_ok (sg [(2, 2)]) h rfl rfl rfl ⟨trivial, trivial⟩ ⟨rfl, trivial, trivial⟩ rfl ⟨⟨⟨le_own2 (by rfl) (by (show (_ : Nat) = _; (rw [putF_no (by assumption)]; rfl))), rfl⟩, ⟨le_int (by (show (_ : Int) = _; (rw [putE_no (by assumption)]; done))), trivial⟩, trivial⟩, ⟨⟨_, rfl, .inl (ob_bs (by show (_ : Nat) = _; (rw [putF_no (by assumption)]; rfl)) (by show (_ : List UInt8) = _; (rw [putF_no (by assumption)]; done))), trivial⟩, trivial⟩⟩
 ·have h2 := of_decide_eq_true (bnF h2)
  refine HT.skip (HT.seq (HT.region S_fput_ok (Sq (V.fa ty49 rfl ty36 rfl rfl (Sq (V.ldPtrA ty36 rfl rfl rfl rfl (lk rfl) ?_))))))
  refine So.n (lk rfl) (A.call0 [.agg 5 _] 2 rfl rfl rfl rfl ⟨trivial, trivial⟩ trivial (g, ep, fr, kd, bd) ⟨le_agg (fun j hj => by match j, hj with | 0, _ => rfl | 1, _ => rfl | 2, _ => rfl | 3, _ => rfl | 4, _ => rfl), trivial⟩ trivial (by trivial) tT (.inl rfl) (v := .tup 2 _) rfl (O' := (4, ⟨5, 1, _, true, .bs _⟩) :: _) rfl (fun h3 => ?_))
  refine Sq (V.mv (v := .tup 2 _) rfl (Sq (V.ext rfl (lk rfl) (v := .own 4 0 _) rfl (Sq (V.ei rfl rfl (Sq (V.as (v := .own 4 0 _) rfl (Sq (V.ai rfl (So.e (HT.seq (HT.region S_fput_ok (So.n (lk rfl) (A.bldG ty86 rfl trivial rfl rfl (So.n (lk rfl) (A.boxG 5 1 [.p (.v (.slice none 0 0))] rfl (by intro j hj; match j, hj with | 0, _ => (exact rfl)) rfl (by intro j hj; match j, hj with | 0, _ => rfl) rfl trivial (Sq (V.as (v := .ptr 5 0) rfl (So.e (HT.seq ?_))))))))))))))))))))
  refine HT.phanC 5 6 5 1 (.bs []) (c' := .cells [.own 6 0 0]) rfl rfl rfl ⟨rfl, rfl⟩ rfl (allP_spec (P := fun j => _ ∨ _) ⟨trivial, .inr ⟨rfl, rfl⟩⟩) rfl ?_
  refine HT.region S_fput_ok (Sq (V.mv (v := .ptr 5 0) rfl (Sq (V.mv (v := .own 4 0 _) rfl (Sq (V.fa ty49 rfl ty23 rfl rfl (Sq (V.ld ty23 rfl rfl rfl (v := .p (.bs _)) rfl (Sq (V.fa ty49 rfl ty23 rfl rfl (Sq (V.ld ty23 rfl rfl rfl (v := .p (.bs _)) rfl (Sq (V.fa ty49 rfl ty23 rfl rfl (Sq (V.ld ty23 rfl rfl rfl (v := .p (.bs _)) rfl (So.n (lk rfl) (A.bsl 7 ty22 ty23 rfl (lk rfl) (lk rfl) (fun _ => rfl) rfl rfl trivial ⟨trivial, trivial, trivial, trivial, trivial⟩ rfl (N := 4) rfl (c := .rows _) rfl ?_))))))))))))))))))
  refine So.n (lk rfl) (A.call [.ptr 1 _, .p (.sl _ _ _)] [(1, ⟨_, _, _, _, .cells [.own 2 0 _]⟩), (2, ⟨_, _, _, _, .bs _⟩)] (sg [(1, 5), (2, 6)]) 8 rfl rfl rfl rfl ⟨rfl, rfl, trivial⟩ rfl ⟨⟨rfl, trivial⟩, trivial, trivial⟩ ⟨rfl, trivial, trivial⟩ trivial rfl (nl, [bytesF g ep fr kd bd, sn, cf, mb]) ⟨.refl _, le_sl rfl (by intro j hj; match j, hj with | 0, _ => exact congrArg PV.bs (take_full _) | 1, _ => rfl | 2, _ => rfl | 3, _ => rfl), trivial⟩ ⟨⟨_, rfl, .inl rfl, ⟨rfl, trivial⟩⟩, ⟨_, rfl, .inl rfl, trivial⟩, trivial⟩ (by (simp; done)) tT ⟨⟨_, _, rfl, rfl, rfl, Nat.le_refl _⟩, trivial⟩ (.inr ⟨fun _ hj => absurd hj (Nat.not_lt_zero _), by simp [Hp.scal, OC.scal, PV.scal, BV.scal]⟩) rfl (v := .tup 0 _) rfl (O' := (5, ⟨_, _, _, _, .cells _⟩) :: (10, ⟨_, _, _, _, .bs _⟩) :: _) rfl (fun h4 => ?_))
  refine So.e (HT.seq ?_)
  refine R.tell [] [(5, ⟨86, 1, 1, true, .cells [.own 10 0 ((txF (bodyF g ep fr kd bd) ++ txF sn ++ txF cf ++ txF mb).length)]⟩), (10, ⟨5, 1, (txF (bodyF g ep fr kd bd) ++ txF sn ++ txF cf ++ txF mb).length, true, .bs (txF (bodyF g ep fr kd bd) ++ txF sn ++ txF cf ++ txF mb)⟩)] [2, 3, 6] [] (fr0 := [(2, .p (.v (.slice none 0 0))), (3, .p (.v (.int .i64 _))), (6, .ptr 5 0)]) (O0 := []) rfl rfl ⟨⟨⟨.refl _, trivial⟩, ⟨.refl _, trivial⟩, ⟨.refl _, rfl⟩, trivial⟩, ⟨⟨_, rfl, .inl (by (rw [put_txL (by assumption)]; rfl)), ⟨rfl, trivial⟩⟩, ⟨_, rfl, .inl (ob_bs (by (rw [put_txL (by assumption)])) (by (rw [put_txL (by assumption)]))), trivial⟩, trivial⟩⟩ ?_
  refine HT.region S_fput_ok (Sq (V.mv (v := .ptr 5 0) rfl (Sq (V.ncPtr rfl (Sq (V.fa ty86 rfl ty23 rfl rfl (Sq (V.ld ty23 rfl rfl rfl (v := .own 10 0 _) rfl (Sq (V.as (v := .own 10 0 _) rfl (Sq (V.as (v := .p (.v (.int .i64 0))) rfl (So.e ?_)))))))))))))
  refine HT.ret ?_
  exact ret_ok (sg [(2, 10)]) h rfl rfl rfl ⟨trivial, trivial⟩ ⟨rfl, trivial, trivial⟩ rfl ⟨⟨⟨le_own2 (by rfl) (by (show (_ : Nat) = _; (rw [putF_yes (by assumption)]; done))), rfl⟩, ⟨le_int (by (show (_ : Int) = _; (rw [putE_yes (by assumption)]; done))), trivial⟩, trivial⟩, ⟨⟨_, rfl, .inl (ob_bs (by show (_ : Nat) = _; (rw [putF_yes (by assumption)]; done)) (by show (_ : List UInt8) = _; (rw [putF_yes (by assumption)]; done))), trivial⟩, trivial⟩⟩
def lmsgSp : Sp := ⟨[], mkE (α := (List UInt8) × Int × Int × Int × (List UInt8)) (fun (g, ep, fr, kd, bd) => [.agg 5 (fun j => ([.bs g, .v (.int .i64 ep), .v (.int .i64 fr), .v (.int .i64 kd), .bs bd] : List PV).getD j (.v undef))]) (fun (g, ep, fr, kd, bd) => []) (fun (g, ep, fr, kd, bd) => True) (fun (g, ep, fr, kd, bd) => [.p (.bs (putF g ep fr kd bd zSig [] []))]) (fun (g, ep, fr, kd, bd) => [])⟩
def S_lmsg : FuncId -> Option Sp := fun f => if f = 29 then some fputSp else none
theorem S_lmsg_ok : ∀ f s, S_lmsg f = some s -> FOK Tryd.prog gl f s := sI fput_ok sN
theorem S_lmsg_det : ∀ f s, S_lmsg f = some s -> SpDet s.sp := dI dN
theorem lmsg_ok : FOK Tryd.prog gl 12 lmsgSp := by
 refine FOK.ofE (tyOf_ok Tryd.prog) (slots := [2]) (nt := 13) Tryd.func12 rfl rfl rfl rfl (by decide) 1 (fun ⟨_, _, _, _, _⟩ => rfl) (by decide) (fun ⟨_, _, _, _, _⟩ => ⟨trivial, trivial⟩) ?_
 rintro ⟨g, ep, fr, kd, bd⟩ kk hlen hpre h
 replace hpre : True := hpre
 show HT (cx Tryd.prog 13 (tyOf Tryd.prog) gl []) _ [(0, .agg 5 (fun j => ([.bs g, .v (.int .i64 ep), .v (.int .i64 fr), .v (.int .i64 kd), .bs bd] : List PV).getD j (.v undef)))] [] _
 obtain ⟨N, hN⟩ : ∃ N : Nat, N = 3309 := ⟨3309, rfl⟩
 have hz : (List.drop 0 (List.replicate N (0 : UInt8))).take N = zSig := by rw [List.drop_zero, List.take_of_length_le (by rw [List.length_replicate]; exact Nat.le_refl _), hN]; rfl
 refine HT.seq (HT.region S_lmsg_ok (So.n (lk rfl) (A.boxAg 1 1 (n := 5) rfl (by intro j hj; (match j, hj with | 0, _ => (trivial) | 1, _ => (trivial) | 2, _ => (trivial) | 3, _ => (trivial) | 4, _ => (trivial))) rfl trivial (Sq (V.as (v := .p (.v (.slice none 0 0))) rfl (So.e (HT.seq ?_)))))))
 refine HT.planS S_lmsg_ok S_lmsg_det mixed [3, 4, 5, 6, 7, 8] [⟨[0], 1, [0]⟩, ⟨[0], 2, []⟩] (by kernel_rfl) ?_
 refine Pl.lk ?_
 refine Sj rfl (V.ldPtrA ty36 rfl rfl rfl rfl (lk rfl) (Si.e ?_))
 refine ⟨flEq_nil, fun ff => ?_⟩
 refine Lo.n rfl (lk rfl) (A.mkB 2 ty23 ty5 rfl rfl rfl (by omega) (n := N) (by omega) rfl trivial ?_)
 refine ⟨_, fun ff => ff, ap0d, rfl, FG.id, ?_⟩
 show planA _ _ _ _ _ [(0, .agg 5 _)] _ _ _
 refine Pl.l0 ?_
 refine Sj rfl (V.ldPtrA ty36 rfl rfl rfl rfl (lk rfl) (Si.e ?_))
 refine ⟨(flEq_cons rfl flEq_nil), ?_⟩
 refine Lo.n rfl (lk rfl) (A.bldS ty49 rfl rfl ⟨by exact fun j hj => by match j, hj with | 0, _ => (exact trivial) | 1, _ => (exact rfl) | 2, _ => (exact rfl) | 3, _ => (exact rfl) | 4, _ => (exact trivial), by exact trivial, trivial⟩ rfl (f := fun j => ([.bs g, .v (.int .i64 ep), .v (.int .i64 fr), .v (.int .i64 kd), .bs bd, .bs zSig, .v (.slice none 0 0), .v (.slice none 0 0)] : List PV).getD j (.v undef)) (by exact allP_spec (P := fun j => _ = _) ⟨⟨⟨⟨⟨⟨⟨⟨trivial, rfl⟩, rfl⟩, rfl⟩, rfl⟩, rfl⟩, (congrArg (fun x => BV.p (PV.bs x)) hz)⟩, rfl⟩, rfl⟩) ?_)
 refine Pl.e ?_
 refine Sj rfl (V.call [.agg 8 _] 2 rfl rfl rfl rfl ⟨trivial, trivial⟩ trivial (g, ep, fr, kd, bd, zSig, [], []) ⟨.agg _ _ _ (fun j hj => by match j, hj with | 0, _ => exact .refl _ | 1, _ => exact .refl _ | 2, _ => exact .refl _ | 3, _ => exact .refl _ | 4, _ => exact .refl _ | 5, _ => exact .refl _ | 6, _ => exact .nilBs | 7, _ => exact .nilBs), trivial⟩ trivial (by trivial) tT (.inl ⟨trivial, trivial⟩) (v := .tup 2 _) rfl (fun h1 => ?_))
 refine Sj rfl (V.mv (v := .tup 2 _) rfl (Sj rfl (V.ext rfl (lk rfl) (v := .p (.bs _)) rfl (Sj rfl (V.ei rfl rfl (Sj rfl (V.as (v := .p (.bs _)) rfl (Sj rfl (V.ai rfl (Si.e ?_))))))))))
 refine ⟨flEq_nil, ?_⟩
 refine HT.seq (HT.region S_lmsg_ok (Sq (V.mv (v := .p (.bs _)) rfl (Sq (V.as (v := .p (.bs _)) rfl (So.e ?_))))))
 refine HT.ret ?_
 exact rt1 h (le_bs (by exact take_full _))
def headSp : Sp := ⟨[], mkE (α := Unit) (fun _ => []) (fun _ => []) (fun _ => True) (fun _ => [.p (.v (.bool true))]) (fun _ => [])⟩
def S_head : FuncId -> Option Sp := fun f => if f = 8 then some hnewSp else if f = 29 then some fputSp else if f = 11 then some hPostSp else if f = 15 then some hepochSp else if f = 17 then some hlenSp else none
theorem S_head_ok : ∀ f s, S_head f = some s -> FOK Tryd.prog gl f s := sI hnew_ok (sI fput_ok (sI hPost_ok (sI hepoch_ok (sI hlen_ok sN))))
theorem head_ok : FOK Tryd.prog gl 7 headSp := by
 refine FOK.ofE (tyOf_ok Tryd.prog) (slots := [0]) (nt := 62) Tryd.func7 rfl rfl rfl rfl (by decide) 0 (fun _ => rfl) (by decide) (fun _ => trivial) ?_
 rintro _ kk hlen hpre h
 replace hpre : True := hpre
 show HT (cx Tryd.prog 62 (tyOf Tryd.prog) gl []) _ [] [] _
 obtain ⟨N, hN⟩ : ∃ N : Nat, N = 3309 := ⟨3309, rfl⟩
 have hz : (List.drop 0 (List.replicate N (0 : UInt8))).take N = zSig := by rw [List.drop_zero, List.take_of_length_le (by rw [List.length_replicate]; exact Nat.le_refl _), hN]; rfl
 obtain ⟨b, hb⟩ : ∃ b, b = gMsg 0 4 := ⟨_, rfl⟩
 have hE : putE [103] 0 0 4 [] zSig [] [] = 0 := gMsg_E (by decide) (by decide) (by decide) (by decide)
 have hbl : b.length <= 1000000000 := hb ▸ gMsg_len 0 4
 have hq1 : takeH 0 [] 1 b (lookM [103] 0 b) = ⟨1, [(1, 0, b)], 0, 0⟩ := by rw [hb]; exact hub_1
 have hq2 : takeH 1 [(1, 0, b)] 1 b (lookM [103] 1 b) = ⟨1, [(1, 0, b)], 0, 221⟩ := by rw [hb]; exact hub_2 _
 refine HT.seq (HT.region S_head_ok (Sq (V.as (v := .p (.v (.bool false))) rfl (So.e (HT.seq (HT.region S_head_ok (So.n (lk rfl) (A.bsl 1 ty23 ty5 rfl (lk rfl) (lk rfl) (fun _ => rfl) rfl rfl trivial ⟨trivial, trivial⟩ rfl (N := 1) rfl (c := .bs [_]) rfl (So.n (lk rfl) (A.cvM ty23 ty5 rfl (by omega) rfl rfl ?_))))))))))
 refine So.n (lk rfl) (A.frzC S_head_ok 1 rfl rfl rfl (K.call0 [.p (.bs _)] 1 rfl rfl rfl rfl ⟨trivial, trivial⟩ trivial (.inl [103]) ⟨.refl _, trivial⟩ trivial (by (simp; done)) tT (.inl rfl) (v := .ptr 2 0) rfl (O' := (2, ⟨63, 4, _, true, .cells _⟩) :: (3, ⟨45, 3, _, true, .rows _⟩) :: (4, ⟨64, 1, _, true, .rows _⟩) :: _) rfl (fun h1 => ?_)))
 refine Sq (V.as (v := .ptr 2 0) rfl (So.e (HT.seq (HT.seq (HT.region S_head_ok (Sq (V.mv (v := .ptr 2 0) rfl (Sq (V.eqPtr ty25 rfl rfl rfl rfl (Sq (V.mv (v := .p (.v (.bool false))) rfl (So.gy rfl rfl (lk rfl) (lk rfl) ?_))))))))))))
 refine A.call0 [.p (.v (.slice none 0 0))] 5 rfl rfl rfl rfl ⟨trivial, trivial⟩ trivial (.inr []) ⟨le_nil rfl, trivial⟩ trivial (by (simp; done)) tT (.inl rfl) (v := _) rfl (O' := _) rfl (fun h2 => ?_)
 refine So.gy rfl rfl (lk rfl) (lk rfl) (A.v rfl (V.nePtr ty25 rfl rfl rfl rfl (Sq (V.pkFalse (u := .p (.v (.bool false))) rfl rfl (So.e ?_)))))
 refine R.condF rfl ?_
 refine HT.skip (HT.seq (HT.region S_head_ok (So.n (lk rfl) (A.bsl 5 ty23 ty5 rfl (lk rfl) (lk rfl) (fun _ => rfl) rfl rfl trivial ⟨trivial, trivial⟩ rfl (N := 1) rfl (c := .bs [_]) rfl (So.n (lk rfl) (A.cvM ty23 ty5 rfl (by omega) rfl rfl (So.n (lk rfl) (A.bldS ty36 rfl rfl ⟨by exact trivial, by exact rfl, trivial⟩ rfl (f := fun j => ([.bs [103], .v (.int .i64 0), .v (.int .i64 0), .v (.int .i64 4), .v (.slice none 0 0)] : List PV).getD j (.v undef)) (by exact allP_spec (P := fun j => _ = _) ⟨⟨⟨⟨⟨trivial, rfl⟩, rfl⟩, rfl⟩, rfl⟩, rfl⟩) (So.n (lk rfl) (A.mkB 5 ty23 ty5 rfl rfl rfl (by omega) (n := N) (by omega) rfl trivial (So.n (lk rfl) (A.bldS ty49 rfl rfl ⟨by exact fun j hj => by match j, hj with | 0, _ => (exact trivial) | 1, _ => (exact rfl) | 2, _ => (exact rfl) | 3, _ => (exact rfl) | 4, _ => (exact rfl), by exact trivial, trivial⟩ rfl (f := fun j => ([.bs [103], .v (.int .i64 0), .v (.int .i64 0), .v (.int .i64 4), .v (.slice none 0 0), .bs zSig, .v (.slice none 0 0), .v (.slice none 0 0)] : List PV).getD j (.v undef)) (by exact allP_spec (P := fun j => _ = _) ⟨⟨⟨⟨⟨⟨⟨⟨trivial, rfl⟩, rfl⟩, rfl⟩, rfl⟩, rfl⟩, (congrArg (fun x => BV.p (PV.bs x)) hz)⟩, rfl⟩, rfl⟩) ?_))))))))))))
 refine So.n (lk rfl) (A.call0 [.agg 8 _] 5 rfl rfl rfl rfl ⟨trivial, trivial⟩ trivial ([103], 0, 0, 4, [], zSig, [], []) ⟨.agg _ _ _ (fun j hj => by match j, hj with | 0, _ => exact .refl _ | 1, _ => exact .refl _ | 2, _ => exact .refl _ | 3, _ => exact .refl _ | 4, _ => exact .nilBs | 5, _ => exact .refl _ | 6, _ => exact .nilBs | 7, _ => exact .nilBs), trivial⟩ trivial (by trivial) tT (.inl rfl) (v := .tup 2 _) rfl (O' := (7, ⟨5, 1, _, true, .bs _⟩) :: _) rfl (fun h3 => ?_))
 refine Sq (V.mv (v := .tup 2 _) rfl (Sq (V.ext rfl (lk rfl) (v := .own 7 0 _) rfl (Sq (V.ei rfl rfl (Sq (V.as (v := .own 7 0 _) rfl (Sq (V.ai rfl (So.e ?_))))))))))
 refine HT.frzS 7 rfl rfl rfl ?_
 refine HT.seq ?_
 refine R.tell [(2, .p (.bs b))] [] [0, 1, 3] [2, 3, 4] (fr0 := [(0, .p (.v (.bool false))), (1, .ptr 2 0), (3, .p (.v (.int .i64 _)))]) (O0 := [(2, ⟨_, _, _, _, .cells [.p (.bs _), .p (.v (.int .i64 _)), .own 3 0 _, .own 4 0 _]⟩), (3, ⟨_, _, _, _, .rows _⟩), (4, ⟨_, _, _, _, .rows _⟩)]) rfl rfl ⟨⟨⟨le_bs (by exact (take_full _).trans hb.symm), trivial⟩, ⟨.refl _, trivial⟩, ⟨.refl _, rfl⟩, ⟨.refl _, trivial⟩, trivial⟩, ⟨⟨_, rfl, .inl rfl, ⟨trivial, trivial, rfl, rfl, trivial⟩⟩, ⟨_, rfl, .inl rfl, trivial⟩, ⟨_, rfl, .inl rfl, trivial⟩, trivial⟩⟩ ?_
 refine HT.region S_head_ok (Sq (V.mv (v := .ptr 2 0) rfl (Sq (V.mv (v := .p (.bs _)) rfl ?_))))
 refine So.n (lk rfl) (A.call [.ptr 1 _, .p (.bs _)] [(1, ⟨_, _, _, _, .cells [.p (.bs _), .p (.v (.int .i64 _)), .own 2 0 _, .own 3 0 _]⟩), (2, ⟨_, _, _, _, .rows _⟩), (3, ⟨_, _, _, _, .rows _⟩)] (sg [(1, 2), (2, 3), (3, 4)]) 5 rfl rfl rfl rfl ⟨rfl, rfl, rfl, trivial⟩ rfl ⟨⟨trivial, trivial, rfl, rfl, trivial⟩, trivial, trivial, trivial⟩ ⟨rfl, trivial, trivial⟩ trivial rfl ([103], 0, [], [], b) ⟨.refl _, .refl _, trivial⟩ ⟨⟨_, rfl, .inl rfl, ⟨trivial, trivial, rfl, rfl, trivial⟩⟩, ⟨_, rfl, .inl rfl, trivial⟩, ⟨_, rfl, .inl rfl, trivial⟩, trivial⟩ (by (simp; omega)) tT ⟨⟨_, _, rfl, rfl, rfl, Nat.le_refl _⟩, ⟨_, _, rfl, rfl, rfl, Nat.le_refl _⟩, trivial⟩ (.inl rfl) rfl (v := .tup 2 _) rfl (O' := (2, ⟨_, _, _, _, .cells _⟩) :: (7, ⟨_, _, _, _, .rows _⟩) :: (4, ⟨_, _, _, _, .rows _⟩) :: _) rfl (fun h4 => ?_))
 refine Sq (V.mv (v := .tup 2 _) rfl (Sq (V.ei rfl rfl (Sq (V.ei rfl rfl (Sq (V.ai rfl (Sq (V.ai rfl (So.e (HT.seq ?_)))))))))))
 refine R.tell [(4, .p (.v (.int .i64 0))), (5, .p (.v (.int .i64 0)))] [(2, ⟨63, 4, 4, true, .cells [.p (.bs ([103])), .p (.v (.int .i64 1)), .own 7 0 (([(1, 0, b)]).length), .own 4 0 (([] : PKs).length)]⟩), (7, ⟨45, 3, ([(1, 0, b)]).length * 3, true, .rows (pR ([(1, 0, b)]))⟩)] [0, 1, 2, 3] [4] (fr0 := [(0, .p (.v (.bool false))), (1, .ptr 2 0), (2, .p (.bs _)), (3, .p (.v (.int .i64 _)))]) (O0 := [(4, ⟨_, _, _, _, .rows _⟩)]) rfl rfl ⟨⟨⟨le_int (by (rw [hq1]; done)), trivial⟩, ⟨le_int (by (rw [hq1]; done)), trivial⟩, ⟨.refl _, trivial⟩, ⟨.refl _, rfl⟩, ⟨.refl _, trivial⟩, ⟨.refl _, trivial⟩, trivial⟩, ⟨⟨_, rfl, .inl (by (rw [hq1]; rfl)), ⟨trivial, trivial, rfl, rfl, trivial⟩⟩, ⟨_, rfl, .inr (ob_rows (by (rw [hq1]; rfl)) (by (rw [hq1]; intro j hj; rfl))), trivial⟩, ⟨_, rfl, .inl rfl, trivial⟩, trivial⟩⟩ ?_
 refine HT.region S_head_ok (Sq (V.mv (v := .ptr 2 0) rfl (Sq (V.mv (v := .p (.bs _)) rfl ?_))))
 refine So.n (lk rfl) (A.call [.ptr 1 _, .p (.bs _)] [(1, ⟨_, _, _, _, .cells [.p (.bs _), .p (.v (.int .i64 _)), .own 2 0 _, .own 3 0 _]⟩), (2, ⟨_, _, _, _, .rows _⟩), (3, ⟨_, _, _, _, .rows _⟩)] (sg [(1, 2), (2, 7), (3, 4)]) 8 rfl rfl rfl rfl ⟨rfl, rfl, rfl, trivial⟩ rfl ⟨⟨trivial, trivial, rfl, rfl, trivial⟩, trivial, trivial, trivial⟩ ⟨rfl, trivial, trivial⟩ trivial rfl ([103], 1, [(1, 0, b)], [], b) ⟨.refl _, .refl _, trivial⟩ ⟨⟨_, rfl, .inl rfl, ⟨trivial, trivial, rfl, rfl, trivial⟩⟩, ⟨_, rfl, .inl rfl, trivial⟩, ⟨_, rfl, .inl rfl, trivial⟩, trivial⟩ (by (simp; omega)) tT ⟨⟨_, _, rfl, rfl, rfl, Nat.le_refl _⟩, ⟨_, _, rfl, rfl, rfl, Nat.le_refl _⟩, trivial⟩ (.inl rfl) rfl (v := .tup 2 _) rfl (O' := (2, ⟨_, _, _, _, .cells _⟩) :: (10, ⟨_, _, _, _, .rows _⟩) :: (4, ⟨_, _, _, _, .rows _⟩) :: _) rfl (fun h5 => ?_))
 refine Sq (V.mv (v := .tup 2 _) rfl (Sq (V.ei rfl rfl (Sq (V.ei rfl rfl (Sq (V.ai rfl (Sq (V.ai rfl (So.e (HT.seq ?_)))))))))))
 refine R.tell [(7, .p (.v (.int .i64 221)))] [(2, ⟨63, 4, 4, true, .cells [.p (.bs ([103])), .p (.v (.int .i64 1)), .own 10 0 (([(1, 0, b)]).length), .own 4 0 (([] : PKs).length)]⟩), (10, ⟨45, 3, ([(1, 0, b)]).length * 3, true, .rows (pR ([(1, 0, b)]))⟩)] [0, 1, 3, 4, 5] [4] (fr0 := [(0, .p (.v (.bool false))), (1, .ptr 2 0), (3, .p (.v (.int .i64 _))), (4, .p (.v (.int .i64 _))), (5, .p (.v (.int .i64 _)))]) (O0 := [(4, ⟨_, _, _, _, .rows _⟩)]) rfl rfl ⟨⟨⟨le_int (by (rw [hq2]; done)), trivial⟩, ⟨.refl _, trivial⟩, ⟨.refl _, rfl⟩, ⟨.refl _, trivial⟩, ⟨.refl _, trivial⟩, ⟨.refl _, trivial⟩, trivial⟩, ⟨⟨_, rfl, .inl (by (rw [hq2]; rfl)), ⟨trivial, trivial, rfl, rfl, trivial⟩⟩, ⟨_, rfl, .inr (ob_rows (by (rw [hq2]; rfl)) (by (rw [hq2]; intro j hj; rfl))), trivial⟩, ⟨_, rfl, .inl rfl, trivial⟩, trivial⟩⟩ ?_
 refine HT.region S_head_ok (Sq (V.mi rfl (Sq (V.bin (a := .v (.int .i64 _)) (b := .v (.int .i64 0)) (r := .v (.bool _)) rfl rfl rfl trivial (Sq (V.mv (v := .p (.v (.bool _))) rfl ?_))))))
 refine So.gd rfl rfl (lk rfl) (lk rfl) (fun h6 => ?_) (fun h6 => ?_)
 ·have h6 := of_decide_eq_true h6
  refine A.v rfl (V.mi rfl (So.gy rfl rfl (lk rfl) (lk rfl) (A.v rfl (V.bin (a := .v (.int .i64 _)) (b := .v (.int .i64 0)) (r := .v (.bool _)) rfl rfl rfl trivial (Sq (V.pkTrue (u := .p (.v (.bool _))) rfl rfl (Sq (V.mv (v := .p (.v (.bool _))) rfl ?_))))))))
  refine So.gd rfl rfl (lk rfl) (lk rfl) (fun h7 => ?_) (fun h7 => ?_)
  ·have h7 := of_decide_eq_true h7
   refine A.v rfl (V.mi rfl (So.gy rfl rfl (lk rfl) (lk rfl) (A.v rfl (V.bin (a := .v (.int .i64 _)) (b := .v (.int .i64 0)) (r := .v (.bool _)) rfl rfl rfl trivial (Sq (V.pkTrue (u := .p (.v (.bool _))) rfl rfl (Sq (V.mv (v := .p (.v (.bool _))) rfl ?_))))))))
   refine So.gd rfl rfl (lk rfl) (lk rfl) (fun h8 => ?_) (fun h8 => ?_)
   ·have h8 := of_decide_eq_true h8
    refine A.v rfl (V.mi rfl (So.gy rfl rfl (lk rfl) (lk rfl) (A.v rfl (V.bin (a := .v (.int .i64 _)) (b := .v (.int .i64 221)) (r := .v (.bool _)) rfl rfl rfl trivial (Sq (V.pkTrue (u := .p (.v (.bool _))) rfl rfl (Sq (V.mv (v := .p (.v (.bool _))) rfl ?_))))))))
    refine So.gd rfl rfl (lk rfl) (lk rfl) (fun h9 => ?_) (fun h9 => ?_)
    ·have h9 := of_decide_eq_true h9
     refine A.v rfl (V.mv (v := .ptr 2 0) rfl (So.gy rfl rfl (lk rfl) (lk rfl) ?_))
     refine A.call [.ptr 1 _] [(1, ⟨_, _, _, _, .cells [.p (.bs _), .p (.v (.int .i64 _)), .own 2 0 _, .own 3 0 _]⟩), (2, ⟨_, _, _, _, .rows _⟩), (3, ⟨_, _, _, _, .rows _⟩)] (sg [(1, 2), (2, 10), (3, 4)]) 11 rfl rfl rfl rfl ⟨rfl, rfl, rfl, trivial⟩ rfl ⟨⟨trivial, trivial, rfl, rfl, trivial⟩, trivial, trivial, trivial⟩ ⟨rfl, trivial⟩ trivial rfl ([103], 1, [(1, 0, b)], []) ⟨.refl _, trivial⟩ ⟨⟨_, rfl, .inl rfl, ⟨trivial, trivial, rfl, rfl, trivial⟩⟩, ⟨_, rfl, .inl rfl, trivial⟩, ⟨_, rfl, .inl rfl, trivial⟩, trivial⟩ (by trivial) tT ⟨⟨_, _, rfl, rfl, rfl, Nat.le_refl _⟩, ⟨_, _, rfl, rfl, rfl, Nat.le_refl _⟩, ⟨_, _, rfl, rfl, rfl, Nat.le_refl _⟩, trivial⟩ (.inl rfl) rfl (v := .p (.v (.int .i64 _))) rfl (O' := (2, ⟨_, _, _, _, .cells _⟩) :: (10, ⟨_, _, _, _, .rows _⟩) :: (4, ⟨_, _, _, _, .rows _⟩) :: _) rfl (fun h10 => ?_)
     refine So.gy rfl rfl (lk rfl) (lk rfl) (A.v rfl (V.bin (a := .v (.int .i64 _)) (b := .v (.int .i64 1)) (r := .v (.bool _)) rfl rfl rfl trivial (Sq (V.pkTrue (u := .p (.v (.bool _))) rfl rfl (Sq (V.mv (v := .p (.v (.bool _))) rfl ?_))))))
     refine So.gd rfl rfl (lk rfl) (lk rfl) (fun h11 => ?_) (fun h11 => ?_)
     ·have h11 := of_decide_eq_true h11
      refine A.v rfl (V.mv (v := .ptr 2 0) rfl (So.gy rfl rfl (lk rfl) (lk rfl) ?_))
      refine A.call [.ptr 1 _] [(1, ⟨_, _, _, _, .cells [.p (.bs _), .p (.v (.int .i64 _)), .own 2 0 _, .own 3 0 _]⟩), (2, ⟨_, _, _, _, .rows _⟩), (3, ⟨_, _, _, _, .rows _⟩)] (sg [(1, 2), (2, 10), (3, 4)]) 11 rfl rfl rfl rfl ⟨rfl, rfl, rfl, trivial⟩ rfl ⟨⟨trivial, trivial, rfl, rfl, trivial⟩, trivial, trivial, trivial⟩ ⟨rfl, trivial⟩ trivial rfl ([103], 1, [(1, 0, b)], []) ⟨.refl _, trivial⟩ ⟨⟨_, rfl, .inl rfl, ⟨trivial, trivial, rfl, rfl, trivial⟩⟩, ⟨_, rfl, .inl rfl, trivial⟩, ⟨_, rfl, .inl rfl, trivial⟩, trivial⟩ (by trivial) tT ⟨⟨_, _, rfl, rfl, rfl, Nat.le_refl _⟩, ⟨_, _, rfl, rfl, rfl, Nat.le_refl _⟩, ⟨_, _, rfl, rfl, rfl, Nat.le_refl _⟩, trivial⟩ (.inl rfl) rfl (v := .p (.v (.int .i64 _))) rfl (O' := (2, ⟨_, _, _, _, .cells _⟩) :: (10, ⟨_, _, _, _, .rows _⟩) :: (4, ⟨_, _, _, _, .rows _⟩) :: _) rfl (fun h12 => ?_)
      refine So.gy rfl rfl (lk rfl) (lk rfl) (A.v rfl (V.bin (a := .v (.int .i64 _)) (b := .v (.int .i64 1)) (r := .v (.bool _)) rfl rfl rfl trivial (Sq (V.pkTrue (u := .p (.v (.bool _))) rfl rfl (Sq (V.as (v := .p (.v (.bool _))) rfl (So.e ?_)))))))
      refine HT.ret ?_
      exact rt1 h (le_bool (by rfl))
     ·have h11 := of_decide_eq_false h11
      exact absurd (by with_reducible rfl) h11
    ·have h9 := of_decide_eq_false h9
     exact absurd (by with_reducible rfl) h9
   ·have h8 := of_decide_eq_false h8
    exact absurd (by with_reducible rfl) h8
  ·have h7 := of_decide_eq_false h7
   exact absurd (by with_reducible rfl) h7
 ·have h6 := of_decide_eq_false h6
  exact absurd (by exact hE) h6
def lgreatSp : Sp := ⟨[], mkE (α := (List OpR)) (fun l => [.p (.sl (l.length) 8 (oR l))]) (fun l => []) (fun l => True) (fun l => [.p (.v (.bool (decide (greatH l))))]) (fun l => [])⟩
def S_lgreat : FuncId -> Option Sp := fun _ => none
theorem S_lgreat_ok : ∀ f s, S_lgreat f = some s -> FOK Tryd.prog gl f s := fun f s h => by cases h
theorem S_lgreat_det : ∀ f s, S_lgreat f = some s -> SpDet s.sp := fun f s h => by cases h
theorem lgreat_ok : FOK Tryd.prog gl 16 lgreatSp := by
 refine FOK.ofE (tyOf_ok Tryd.prog) (slots := [2]) (nt := 45) Tryd.func16 rfl rfl rfl rfl (by decide) 1 (fun _ => rfl) (by decide) (fun _ => ⟨trivial, trivial⟩) ?_
 rintro l kk hlen hpre h
 have hl0 : l.length <= 9223372036854775807 := hlen.1
 replace hpre : True := hpre
 show HT (cx Tryd.prog 45 (tyOf Tryd.prog) gl []) _ [(0, .p (.sl (l.length) 8 (oR l)))] [] _
 refine HT.seq (HT.region S_lgreat_ok (Sq (V.as (v := .p (.v (.bool false))) rfl (So.e (HT.seq (HT.region S_lgreat_ok (Sq (V.as (v := .p (.v (.int .i64 0))) rfl (So.e (HT.seq (HT.seq (HT.region S_lgreat_ok (Sq (V.as (v := .p (.v (.int .i64 0))) rfl (So.e (HT.block ?_))))))))))))))))
 refine R.loop (σ := Nat) (fun n => [(4, .p (.v (.int .i64 ((n : Int))))), (3, .p (.v (.int .i64 (grN l n))))]) (fun n => []) [0, 2] [] (fun n => n <= l.length /\ grN l n <= 2000000) (fun n => l.length - n) (0) (fr0 := [(0, .p (.sl _ 8 _)), (2, .p (.v (.bool false)))]) (O0 := []) rfl rfl (by exact ⟨Nat.zero_le _, by show (0 : Int) <= 2000000; decide⟩) ⟨⟨⟨le_int (by rfl), trivial⟩, ⟨le_int (by rfl), trivial⟩, ⟨.refl _, trivial⟩, ⟨.refl _, trivial⟩, trivial⟩, trivial⟩ (fun n hP0 => ?_)
 refine HT.seq (HT.seq (HT.region S_lgreat_ok (Sq (V.mv (v := .p (.v (.int .i64 ((_ : Nat) : Int)))) rfl (Sq (V.mv (v := .p (.sl _ 8 _)) rfl (Sq (V.len ty39 (v := .p (.sl _ 8 _)) rfl rfl (Sq (V.bin (a := (.v (.int .i64 ((_ : Nat) : Int)))) (b := .v (.int .i64 _)) (r := .v (.bool _)) rfl rfl rfl trivial (Sq (V.mv (v := .p (.v (.bool _))) rfl ?_))))))))))))
 refine So.gd rfl rfl (lk rfl) (lk rfl) (fun h1 => ?_) (fun h1 => ?_)
 ·have h1 := of_decide_eq_true h1
  refine A.v rfl (V.mi rfl (So.gy rfl rfl (lk rfl) (lk rfl) (A.v rfl (V.bin (a := .v (.int .i64 _)) (b := .v (.int .i64 300000)) (r := .v (.bool _)) rfl rfl rfl trivial (Sq (V.pkTrue (u := .p (.v (.bool _))) rfl rfl (So.e ?_)))))))
  refine R.cd rfl rfl (fun h2 => ?_) (fun h2 => ?_)
  ·refine HT.skip (HT.seq (HT.block ?_))
   refine HT.drawn S_lgreat_ok S_lgreat_det mixed (by kernel_rfl) ?_
   have hgb := grN_ge l n
   have hgs := grN_s l n
   have hsb := grS_b l n
   refine Sd.n (lk rfl) (V.mi rfl (Sd.n (lk rfl) (V.addI rfl rfl (by omega) (Sd.n (lk rfl) (V.mv (v := .p (.sl _ 8 _)) rfl (Sd.n (lk rfl) (V.mv (v := .p (.v (.int .i64 ((_ : Nat) : Int)))) rfl (Sd.n (lk rfl) (V.ixSlS (mi := n) ty39 ty42 (s := 8) rfl (by decide) rfl rfl (by omega) (by omega) (Sd.n (lk rfl) (V.faRp ty42 rfl ty23 (lk rfl) rfl (by omega) (Sd.n (lk rfl) (V.ldRp ty23 rfl rfl (lk rfl) (v := .bs (oB l n)) (by exact oR_k l n 6 (by decide)) (Sd.n (lk rfl) (V.len ty23 (v := .p (.bs _)) rfl rfl (Sd.n (lk rfl) (V.pb (r := .v (.int .i64 _)) (by decide) rfl rfl (Sd.n (lk rfl) (V.addI rfl rfl (by omega) (Sd.n (lk rfl) (V.mv (v := .p (.sl _ 8 _)) rfl (Sd.n (lk rfl) (V.mv (v := .p (.v (.int .i64 ((_ : Nat) : Int)))) rfl (Sd.n (lk rfl) (V.ixSlS (mi := n) ty39 ty42 (s := 8) rfl (by decide) rfl rfl (by omega) (by omega) (Sd.n (lk rfl) (V.faRp ty42 rfl ty36 (lk rfl) rfl (by omega) (Sd.n (lk rfl) (V.faRp ty36 rfl ty23 (lk rfl) rfl (by omega) (Sd.n (lk rfl) (V.ldRp ty23 rfl rfl (lk rfl) (v := .bs (oY l n)) (by exact oR_k l n 5 (by decide)) (Sd.n (lk rfl) (V.len ty23 (v := .p (.bs _)) rfl rfl (Sd.n (lk rfl) (V.pb (r := .v (.int .i64 _)) (by decide) rfl rfl (Sd.n (lk rfl) (V.addI rfl rfl (by omega) (Sd.n (lk rfl) (V.mv (v := .p (.sl _ 8 _)) rfl (Sd.n (lk rfl) (V.mv (v := .p (.v (.int .i64 ((_ : Nat) : Int)))) rfl (Sd.n (lk rfl) (V.ixSlS (mi := n) ty39 ty42 (s := 8) rfl (by decide) rfl rfl (by omega) (by omega) (Sd.n (lk rfl) (V.faRp ty42 rfl ty36 (lk rfl) rfl (by omega) (Sd.n (lk rfl) (V.faRp ty36 rfl ty23 (lk rfl) rfl (by omega) ?_)))))))))))))))))))))))))))))))))))))))))))))))
   refine Sd.n (lk rfl) (V.ldRp ty23 rfl rfl (lk rfl) (v := .bs (oG l n)) (by exact oR_k l n 1 (by decide)) (Sd.n (lk rfl) (V.len ty23 (v := .p (.bs _)) rfl rfl (Sd.n (lk rfl) (V.pb (r := .v (.int .i64 _)) (by decide) rfl rfl (Sd.n (lk rfl) (V.addI rfl rfl (by omega) (Sd.n (lk rfl) (V.ai rfl (Sd.e (HT.region S_lgreat_ok (Sq (V.mv (v := .p (.v (.int .i64 ((_ : Nat) : Int)))) rfl (Sq (V.addI rfl rfl (by omega) (Sq (V.ai rfl (So.e ?_))))))))))))))))))
   refine ⟨n + 1, by omega, by omega, ⟨⟨⟨le_int (by rfl), trivial⟩, ⟨le_int (by omega), trivial⟩, ⟨.refl _, trivial⟩, ⟨.refl _, trivial⟩, trivial⟩, trivial⟩⟩
  ·refine HT.exit ?_
   refine HT.seq (HT.region S_lgreat_ok (Sq (V.mi rfl (Sq (V.bin (a := .v (.int .i64 _)) (b := .v (.int .i64 300000)) (r := .v (.bool _)) rfl rfl rfl trivial (Sq (V.as (v := .p (.v (.bool _))) rfl (So.e ?_))))))))
   refine HT.ret ?_
   exact rt1 h (le_bool (by (refine decide_eq_decide.2 ⟨fun q => great_1 (by omega) q, fun q => ?_⟩; omega)))
 ·have h1 := of_decide_eq_false h1
  refine So.gn (b := false) rfl rfl rfl (lk rfl) (lk rfl) (Sq (V.pkFalse (u := .p (.v (.bool false))) rfl rfl (So.e ?_)))
  refine R.condF rfl ?_
  refine HT.exit ?_
  refine HT.seq (HT.region S_lgreat_ok (Sq (V.mi rfl (Sq (V.bin (a := .v (.int .i64 _)) (b := .v (.int .i64 300000)) (r := .v (.bool _)) rfl rfl rfl trivial (Sq (V.as (v := .p (.v (.bool _))) rfl (So.e ?_))))))))
  refine HT.ret ?_
  exact rt1 h (le_bool (by (refine decide_eq_decide.2 ⟨fun q => great_1 (by omega) q, fun q => ?_⟩; (have e9 : n = l.length := (by omega); subst e9; exact q))))
def dnew1Sp : Sp := ⟨[], mkE (α := (List UInt8)) (fun G => [.p (.bs G)]) (fun G => []) (fun G => 0 < G.length /\ G.length <= 32) (fun G => [.ptr 1 0]) (fun G => [(1, ⟨58, 1, 5, true, .cells [.p (.bs G), .p (.v (.int .i64 0)), .own 2 0 ((([] : PLs)).length), .own 3 0 (0), .own 4 0 (0)]⟩), (2, ⟨45, 3, (([] : PLs)).length * 3, true, .rows (pR (([] : PLs)))⟩), (3, ⟨23, 1, 0, true, .rows (tV (([] : List (List UInt8))))⟩), (4, ⟨4, 1, 0, true, .rows (fdV (([] : PKs)))⟩)])⟩
def S_dnew1 : FuncId -> Option Sp := fun _ => none
theorem S_dnew1_ok : ∀ f s, S_dnew1 f = some s -> FOK Tryd.prog gl f s := fun f s h => by cases h
theorem dnew1_ok : FOK Tryd.prog gl 20 dnew1Sp := by
 refine FOK.ofE (tyOf_ok Tryd.prog) (slots := [2]) (nt := 16) Tryd.func20 rfl rfl rfl rfl (by decide) 1 (fun _ => rfl) (by decide) (fun _ => ⟨trivial, trivial⟩) ?_
 rintro G kk hlen hpre h
 have hl0 : (G).length <= 9223372036854775807 := hlen.1
 replace hpre : 0 < G.length /\ G.length <= 32 := hpre
 show HT (cx Tryd.prog 16 (tyOf Tryd.prog) gl []) _ [(0, .p (.bs G))] [] _
 refine HT.seq (HT.region S_dnew1_ok (Sq (V.as (v := _) rfl (So.e (HT.seq (HT.seq (HT.region S_dnew1_ok (Sq (V.mv (v := .p (.bs _)) rfl (Sq (V.len ty23 (v := .p (.bs _)) rfl rfl (Sq (V.bin (a := .v (.int .i64 _)) (b := .v (.int .i64 1)) (r := .v (.bool _)) rfl rfl rfl trivial (Sq (V.mv (v := .p (.v (.bool _))) rfl ?_)))))))))))))))
 refine So.gd rfl rfl (lk rfl) (lk rfl) (fun h1 => ?_) (fun h1 => ?_)
 ·have h1 := of_decide_eq_false h1
  refine A.v rfl (V.mv (v := .p (.bs _)) rfl (So.gy rfl rfl (lk rfl) (lk rfl) (A.v rfl (V.len ty23 (v := .p (.bs _)) rfl rfl (So.gy rfl rfl (lk rfl) (lk rfl) (A.v rfl (V.bin (a := .v (.int .i64 _)) (b := .v (.int .i64 32)) (r := .v (.bool _)) rfl rfl rfl trivial (Sq (V.pkFalse (u := .p (.v (.bool _))) rfl rfl (So.e ?_))))))))))
  refine R.cd rfl rfl (fun h2 => ?_) (fun h2 => ?_)
  ·refine HT.seq ?_
   exfalso; omega
  ·refine HT.skip (HT.seq (HT.region S_dnew1_ok (So.n (lk rfl) (A.bsl 1 ty23 ty5 rfl (lk rfl) (lk rfl) (fun _ => rfl) rfl rfl trivial trivial rfl (N := 0) rfl (c := .bs []) rfl (Sq (V.mv (v := .p (.bs _)) rfl (So.n (lk rfl) (A.apOwn ty23 ty5 rfl rfl rfl rfl (u := .p (.bs _)) rfl rfl rfl rfl (by omega) rfl rfl rfl (So.n (lk rfl) (A.bldS ty58 rfl rfl ⟨by exact trivial, trivial⟩ rfl (f := fun j => ([.bs G, .v (.int .i64 0), .v (.slice none 0 0), .v (.slice none 0 0), .v (.slice none 0 0)] : List PV).getD j (.v undef)) (by exact allP_spec (P := fun j => _ = _) ⟨⟨⟨⟨⟨trivial, (congrArg (fun x => BV.p (PV.bs x)) (tkn G))⟩, rfl⟩, rfl⟩, rfl⟩, rfl⟩) (So.n (lk rfl) (A.boxAg 1 1 (n := 5) rfl (by intro j hj; (match j, hj with | 0, _ => (trivial) | 1, _ => (trivial) | 2, _ => (trivial) | 3, _ => (trivial) | 4, _ => (trivial))) rfl trivial (Sq (V.as (v := .ptr 1 0) rfl (So.e ?_)))))))))))))))
   refine R.tell [] [(1, ⟨58, 1, 5, true, .cells [.p (.bs G), .p (.v (.int .i64 0)), .p (.v (.slice none 0 0)), .p (.v (.slice none 0 0)), .p (.v (.slice none 0 0))]⟩)] [2] [] (fr0 := [(2, .ptr 1 0)]) (O0 := []) rfl rfl ⟨⟨⟨.refl _, rfl⟩, trivial⟩, ⟨⟨_, rfl, .inr ⟨rfl, rfl, rfl, rfl, rfl, fun j hj => by match j, hj with | 0, _ => exact .refl _ | 1, _ => exact .refl _ | 2, _ => exact .refl _ | 3, _ => exact .refl _ | 4, _ => exact .refl _⟩, ⟨trivial, trivial, trivial, trivial, trivial, trivial⟩⟩, trivial⟩⟩ ?_
   refine HT.phanC 1 2 45 3 (.rows (pR [])) (c' := .cells [.p (.bs _), .p (.v (.int .i64 _)), .own 2 0 0, .p (.v (.slice none 0 0)), .p (.v (.slice none 0 0))]) rfl rfl rfl trivial rfl (allP_spec (P := fun j => _ ∨ _) ⟨⟨⟨⟨⟨trivial, .inl rfl⟩, .inl rfl⟩, .inr ⟨rfl, rfl⟩⟩, .inl rfl⟩, .inl rfl⟩) rfl ?_
   refine HT.phanC 1 3 23 1 (.rows (tV [])) (c' := .cells [.p (.bs _), .p (.v (.int .i64 _)), .own 2 0 0, .own 3 0 0, .p (.v (.slice none 0 0))]) rfl rfl rfl trivial rfl (allP_spec (P := fun j => _ ∨ _) ⟨⟨⟨⟨⟨trivial, .inl rfl⟩, .inl rfl⟩, .inl rfl⟩, .inr ⟨rfl, rfl⟩⟩, .inl rfl⟩) rfl ?_
   refine HT.phanC 1 4 4 1 (.rows (fdV [])) (c' := .cells [.p (.bs _), .p (.v (.int .i64 _)), .own 2 0 0, .own 3 0 0, .own 4 0 0]) rfl rfl rfl trivial rfl (allP_spec (P := fun j => _ ∨ _) ⟨⟨⟨⟨⟨trivial, .inl rfl⟩, .inl rfl⟩, .inl rfl⟩, .inl rfl⟩, .inr ⟨rfl, rfl⟩⟩) rfl ?_
   refine HT.ret ?_
   exact ret_ok (sg [(1, 1), (2, 2), (3, 3), (4, 4)]) h rfl rfl rfl ⟨⟨trivial, trivial, rfl, rfl, rfl, trivial⟩, trivial, trivial, trivial, trivial⟩ ⟨rfl, trivial⟩ rfl ⟨⟨⟨.refl _, rfl⟩, trivial⟩, ⟨⟨_, rfl, .inl (by rfl), ⟨trivial, trivial, rfl, rfl, rfl, trivial⟩⟩, ⟨_, rfl, .inr (ob_rows (by rfl) (by omega)), trivial⟩, ⟨_, rfl, .inr (ob_rows (by rfl) (by omega)), trivial⟩, ⟨_, rfl, .inr (ob_rows (by rfl) (by omega)), trivial⟩, trivial⟩⟩
 ·have h1 := of_decide_eq_true h1
  refine So.gn (b := true) rfl rfl rfl (lk rfl) (lk rfl) (So.gn (b := true) rfl rfl rfl (lk rfl) (lk rfl) (Sq (V.pkTrue (u := .p (.v (.bool true))) rfl rfl (So.e ?_))))
  refine R.condT rfl ?_
  refine HT.seq ?_
  exfalso; omega
def dnew0Sp : Sp := ⟨[], mkE (α := (List UInt8)) (fun G => [.p (.bs G)]) (fun G => []) (fun G => ¬ (0 < G.length /\ G.length <= 32)) (fun G => [.p (.v (.pointer none))]) (fun G => [])⟩
def S_dnew0 : FuncId -> Option Sp := fun _ => none
theorem S_dnew0_ok : ∀ f s, S_dnew0 f = some s -> FOK Tryd.prog gl f s := fun f s h => by cases h
theorem dnew0_ok : FOK Tryd.prog gl 20 dnew0Sp := by
 refine FOK.ofE (tyOf_ok Tryd.prog) (slots := [2]) (nt := 16) Tryd.func20 rfl rfl rfl rfl (by decide) 1 (fun _ => rfl) (by decide) (fun _ => ⟨trivial, trivial⟩) ?_
 rintro G kk hlen hpre h
 have hl0 : (G).length <= 9223372036854775807 := hlen.1
 replace hpre : ¬ (0 < G.length /\ G.length <= 32) := hpre
 show HT (cx Tryd.prog 16 (tyOf Tryd.prog) gl []) _ [(0, .p (.bs G))] [] _
 refine HT.seq (HT.region S_dnew0_ok (Sq (V.as (v := _) rfl (So.e (HT.seq (HT.seq (HT.region S_dnew0_ok (Sq (V.mv (v := .p (.bs _)) rfl (Sq (V.len ty23 (v := .p (.bs _)) rfl rfl (Sq (V.bin (a := .v (.int .i64 _)) (b := .v (.int .i64 1)) (r := .v (.bool _)) rfl rfl rfl trivial (Sq (V.mv (v := .p (.v (.bool _))) rfl ?_)))))))))))))))
 refine So.gd rfl rfl (lk rfl) (lk rfl) (fun h1 => ?_) (fun h1 => ?_)
 ·have h1 := of_decide_eq_false h1
  refine A.v rfl (V.mv (v := .p (.bs _)) rfl (So.gy rfl rfl (lk rfl) (lk rfl) (A.v rfl (V.len ty23 (v := .p (.bs _)) rfl rfl (So.gy rfl rfl (lk rfl) (lk rfl) (A.v rfl (V.bin (a := .v (.int .i64 _)) (b := .v (.int .i64 32)) (r := .v (.bool _)) rfl rfl rfl trivial (Sq (V.pkFalse (u := .p (.v (.bool _))) rfl rfl (So.e ?_))))))))))
  refine R.cd rfl rfl (fun h2 => ?_) (fun h2 => ?_)
  ·refine HT.seq (HT.region S_dnew0_ok (Sq (V.as (v := _) rfl (So.e ?_))))
   refine HT.ret ?_
   exact rt1 h (.refl _)
  ·refine HT.skip (HT.seq ?_)
   exfalso; omega
 ·have h1 := of_decide_eq_true h1
  refine So.gn (b := true) rfl rfl rfl (lk rfl) (lk rfl) (So.gn (b := true) rfl rfl rfl (lk rfl) (lk rfl) (Sq (V.pkTrue (u := .p (.v (.bool true))) rfl rfl (So.e ?_))))
  refine R.condT rfl ?_
  refine HT.seq (HT.region S_dnew0_ok (Sq (V.as (v := _) rfl (So.e ?_))))
  refine HT.ret ?_
  exact rt1 h (.refl _)
def lawPlays0Sp : Sp := ⟨[], mkE (α := (List UInt8) × (List OpR)) (fun (G, l) => [.p (.bs G), .p (.sl (l.length) 8 (oR l))]) (fun (G, l) => []) (fun (G, l) => ¬ (0 < G.length /\ G.length <= 32)) (fun (G, l) => [.p (.v (.bool true))]) (fun (G, l) => [])⟩
def S_lawPlays0 : FuncId -> Option Sp := fun f => if f = 7 then some headSp else if f = 8 then some hnewSp else if f = 20 then some dnew0Sp else none
theorem S_lawPlays0_ok : ∀ f s, S_lawPlays0 f = some s -> FOK Tryd.prog gl f s := sI head_ok (sI hnew_ok (sI dnew0_ok sN))
theorem lawPlays0_ok : FOK Tryd.prog gl 6 lawPlays0Sp := by
 refine FOK.ofE (tyOf_ok Tryd.prog) (slots := [4]) (nt := 225) Tryd.func6 rfl rfl rfl rfl (by decide) 2 (fun ⟨_, _⟩ => rfl) (by decide) (fun ⟨_, _⟩ => ⟨trivial, trivial, trivial⟩) ?_
 rintro ⟨G, l⟩ kk hlen hpre h
 have hl0 : (G).length <= 9223372036854775807 := hlen.1
 have hl1 : l.length <= 9223372036854775807 := hlen.2.1
 replace hpre : ¬ (0 < G.length /\ G.length <= 32) := hpre
 show HT (cx Tryd.prog 225 (tyOf Tryd.prog) gl []) _ [(0, .p (.bs G)), (1, .p (.sl (l.length) 8 (oR l)))] [] _
 refine HT.seq (HT.region S_lawPlays0_ok (Sq (V.as (v := .p (.v (.bool false))) rfl (So.e (HT.seq (HT.region S_lawPlays0_ok ?_))))))
 refine So.n (lk rfl) (A.call0 [] 1 rfl rfl rfl rfl trivial trivial () trivial trivial (by trivial) tT (.inl rfl) (v := .p (.v (.bool true))) rfl (O' := _) rfl (fun h1 => ?_))
 refine Sq (V.as (v := .p (.v (.bool true))) rfl (So.e (HT.seq (HT.region S_lawPlays0_ok (Sq (V.mv (v := .p (.bs _)) rfl ?_))))))
 refine So.n (lk rfl) (A.call0 [.p (.bs _)] 1 rfl rfl rfl rfl ⟨trivial, trivial⟩ trivial (.inr G) ⟨.refl _, trivial⟩ trivial (by (simp; omega)) tT (.inl rfl) (v := _) rfl (O' := _) rfl (fun h2 => ?_))
 refine Sq (V.as (v := _) rfl (So.e (HT.seq (HT.region S_lawPlays0_ok (Sq (V.mv (v := .p (.bs _)) rfl ?_))))))
 refine So.n (lk rfl) (A.call0 [.p (.bs _)] 1 rfl rfl rfl rfl ⟨trivial, trivial⟩ trivial G ⟨.refl _, trivial⟩ trivial (by omega) tT (.inl rfl) (v := _) rfl (O' := _) rfl (fun h3 => ?_))
 refine Sq (V.as (v := _) rfl (So.e (HT.seq (HT.seq (HT.region S_lawPlays0_ok (Sq (V.mv (v := _) rfl (Sq (V.eqPtr ty25 rfl rfl rfl rfl (Sq (V.mv (v := .p (.v (.bool true))) rfl (So.gn (b := true) rfl rfl rfl (lk rfl) (lk rfl) (So.gn (b := true) rfl rfl rfl (lk rfl) (lk rfl) (Sq (V.pkTrue (u := .p (.v (.bool true))) rfl rfl (Sq (V.mv (v := .p (.v (.bool true))) rfl (So.gn (b := true) rfl rfl rfl (lk rfl) (lk rfl) (So.gn (b := true) rfl rfl rfl (lk rfl) (lk rfl) (Sq (V.pkTrue (u := .p (.v (.bool true))) rfl rfl (So.e ?_))))))))))))))))))))))
 refine R.condT rfl ?_
 refine HT.seq (HT.region S_lawPlays0_ok (Sq (V.mv (v := .p (.v (.bool true))) rfl (Sq (V.mv (v := .p (.v (.bool true))) rfl (So.gy rfl rfl (lk rfl) (lk rfl) (A.v rfl (V.mv (v := _) rfl (So.gy rfl rfl (lk rfl) (lk rfl) (A.v rfl (V.eqPtr ty25 rfl rfl rfl rfl (So.gy rfl rfl (lk rfl) (lk rfl) (A.v rfl (V.mv (v := _) rfl (So.gy rfl rfl (lk rfl) (lk rfl) (A.v rfl (V.eqPtr ty53 rfl rfl rfl rfl (So.gy rfl rfl (lk rfl) (lk rfl) (A.v rfl (V.eqBool ty4 rfl rfl (Sq (V.pkTrue (u := .p (.v (.bool _))) rfl rfl (Sq (V.as (v := .p (.v (.bool _))) rfl (So.e ?_)))))))))))))))))))))))))
 refine HT.ret ?_
 exact rt1 h (le_bool (by first | rfl))
def htakeTSp : Sp := ⟨[1, 3], mkE (α := (List UInt8) × Int × PLs × PKs × Int × (List UInt8)) (fun (G, e, L, p, k, b) => [.ptr 1 0, .p (.v (.int .i64 k)), .p (.bs b), .mv 33 1 0]) (fun (G, e, L, p, k, b) => [(1, ⟨63, 4, 4, true, .cells [.p (.bs G), .p (.v (.int .i64 e)), .own 2 0 ((L).length), .own 3 0 ((p).length)]⟩), (2, ⟨45, 3, (L).length * 3, true, .rows (pR L)⟩), (3, ⟨64, 1, (p).length, true, .rows (kV p)⟩)]) (fun (G, e, L, p, k, b) => L.length <= 1000 /\ 0 <= e /\ e <= 1000000 /\ b.length <= 1000000000) (fun (G, e, L, p, k, b) => [.p (.v (.int .i64 ((takeH e L k b (lookT G e b)).n))), .p (.v (.int .i64 ((takeH e L k b (lookT G e b)).r)))]) (fun (G, e, L, p, k, b) => [(1, ⟨63, 4, 4, true, .cells [.p (.bs G), .p (.v (.int .i64 ((takeH e L k b (lookT G e b)).e))), .own 2 0 (((takeH e L k b (lookT G e b)).L).length), .own 3 0 ((p).length)]⟩), (2, ⟨45, 3, ((takeH e L k b (lookT G e b)).L).length * 3, true, .rows (pR ((takeH e L k b (lookT G e b)).L))⟩), (3, ⟨64, 1, (p).length, true, .rows (kV p)⟩)])⟩
def S_htakeT : FuncId -> Option Sp := fun f => if f = 33 then some hlookTSp else if f = 30 then some cloneSp else none
theorem S_htakeT_ok : ∀ f s, S_htakeT f = some s -> FOK Tryd.prog gl f s := sI hlookT_ok (sI clone_ok sN)
theorem S_htakeT_det : ∀ f s, S_htakeT f = some s -> SpDet s.sp := dI (dI dN)
theorem htakeT_ok : FOK Tryd.prog gl 31 htakeTSp := by
 refine FOK.ofE (tyOf_ok Tryd.prog) (slots := [8, 9]) (nt := 65) Tryd.func31 rfl rfl rfl rfl (by decide) 4 (fun ⟨_, _, _, _, _, _⟩ => rfl) (by decide) (fun ⟨_, _, _, _, _, _⟩ => ⟨rfl, trivial, trivial, rfl, trivial⟩) ?_
 rintro ⟨G, e, L, p, k, b⟩ kk hlen hpre h
 have hl2 : (b).length <= 9223372036854775807 := hlen.2.2.1
 replace hpre : L.length <= 1000 /\ 0 <= e /\ e <= 1000000 /\ b.length <= 1000000000 := hpre
 show HT (cx Tryd.prog 65 (tyOf Tryd.prog) gl [1, 3]) _ [(0, .ptr 1 0), (1, .p (.v (.int .i64 k))), (2, .p (.bs b)), (3, .mv 33 1 0)] [(1, ⟨63, 4, 4, true, .cells [.p (.bs G), .p (.v (.int .i64 e)), .own 2 0 ((L).length), .own 3 0 ((p).length)]⟩), (2, ⟨45, 3, (L).length * 3, true, .rows (pR L)⟩), (3, ⟨64, 1, (p).length, true, .rows (kV p)⟩)] _
 refine HT.seq (HT.region S_htakeT_ok (Sq (V.as (v := .p (.v (.int .i64 0))) rfl (Sq (V.as (v := .p (.v (.int .i64 0))) rfl (So.e (HT.seq (HT.region S_htakeT_ok (Sq (V.mv (v := .mv 33 1 0) rfl (Sq (V.mv (v := .p (.bs _)) rfl ?_))))))))))))
 refine So.n (lk rfl) (A.callV [.ptr 1 _, .p (.bs _)] [(1, ⟨_, _, _, _, .cells [.p (.bs _), .p (.v (.int .i64 _)), .own 2 0 _, .own 3 0 _]⟩), (2, ⟨_, _, _, _, .rows _⟩), (3, ⟨_, _, _, _, .rows _⟩)] (sg [(1, 1), (2, 2), (3, 3)]) 4 rfl rfl rfl rfl ⟨rfl, rfl, rfl, trivial⟩ rfl ⟨⟨trivial, trivial, rfl, rfl, trivial⟩, trivial, trivial, trivial⟩ ⟨rfl, trivial, trivial⟩ ⟨lk rfl, lk rfl, trivial⟩ rfl (_, _, _, _, _) ⟨.refl _, .refl _, trivial⟩ ⟨⟨_, rfl, .inl rfl, ⟨trivial, trivial, rfl, rfl, trivial⟩⟩, ⟨_, rfl, .inl rfl, trivial⟩, ⟨_, rfl, .inl rfl, trivial⟩, trivial⟩ (by trivial) tT ⟨⟨_, _, rfl, rfl, rfl, Nat.le_refl _⟩, ⟨_, _, rfl, rfl, rfl, Nat.le_refl _⟩, ⟨_, _, rfl, rfl, rfl, Nat.le_refl _⟩, trivial⟩ (.inl rfl) rfl (v := .tup 3 _) rfl (O' := (1, ⟨_, _, _, _, .cells _⟩) :: (2, ⟨_, _, _, _, .rows _⟩) :: (3, ⟨_, _, _, _, .rows _⟩) :: _) rfl (fun h1 => ?_))
 refine Sq (V.mv (v := .tup 3 _) rfl (Sq (V.ext rfl (lk rfl) (v := .p (.v (.bool _))) rfl (Sq (V.ext rfl (lk rfl) (v := .p (.v (.bool _))) rfl (Sq (V.ei rfl rfl (Sq (V.as (v := .p (.v (.bool _))) rfl (Sq (V.as (v := .p (.v (.bool _))) rfl (Sq (V.ai rfl (So.e (HT.seq (HT.block (HT.seq (HT.region S_htakeT_ok (Sq (V.mi rfl (Sq (V.bin (a := .v (.int .i64 _)) (b := .v (.int .i64 0)) (r := .v (.bool _)) rfl rfl rfl trivial (Sq (V.as (v := .p (.v (.bool _))) rfl (So.e ?_)))))))))))))))))))))))))
 refine R.cond rfl rfl (fun h2 => ?_) (fun h2 => ?_)
 ·have h2 := of_decide_eq_false (bnT h2)
  refine HT.seq (HT.region S_htakeT_ok (Sq (V.mi rfl (Sq (V.as (v := .p (.v (.int .i64 0))) rfl (Sq (V.ai rfl (So.e ?_))))))))
  refine HT.ret ?_
  have hR := th_1 (e := e) (L := L) (k := k) (b := b) (l := (lookT G e b)) (by assumption)
  exact ret_ok (sg [(1, 1), (2, 2), (3, 3)]) h rfl rfl rfl ⟨⟨trivial, trivial, rfl, rfl, trivial⟩, trivial, trivial, trivial⟩ ⟨trivial, trivial, trivial⟩ rfl ⟨⟨⟨le_int (by (rw [hR]; done)), trivial⟩, ⟨le_int (by (rw [hR]; done)), trivial⟩, trivial⟩, ⟨⟨_, rfl, .inl (by rw [hR]; rfl), ⟨trivial, trivial, rfl, rfl, trivial⟩⟩, ⟨_, rfl, .inr (ob_rows (by rw [hR]; done) (by intro j hj; rw [hR]; done)), trivial⟩, ⟨_, rfl, .inl rfl, trivial⟩, trivial⟩⟩
 ·have h2 := of_decide_eq_true (bnF h2)
  refine HT.seq (HT.region S_htakeT_ok (Sq (V.mv (v := .p (.v (.bool _))) rfl (Sq (V.not rfl (Sq (V.as (v := .p (.v (.bool _))) rfl (So.e ?_))))))))
  refine R.cond rfl rfl (fun h3 => ?_) (fun h3 => ?_)
  ·refine HT.seq ?_
   refine HT.region S_htakeT_ok (Sq (V.as (v := .p (.v (.int .i64 0))) rfl (Sq (V.as (v := .p (.v (.int .i64 221))) rfl (So.e ?_)))))
   refine HT.ret ?_
   have hR := th_2 (e := e) (L := L) (k := k) (b := b) (l := (lookT G e b)) (by omega) (by exact (Bool.not_eq_true' _).mp (by assumption))
   exact ret_ok (sg [(1, 1), (2, 2), (3, 3)]) h rfl rfl rfl ⟨⟨trivial, trivial, rfl, rfl, trivial⟩, trivial, trivial, trivial⟩ ⟨trivial, trivial, trivial⟩ rfl ⟨⟨⟨le_int (by (rw [hR]; done)), trivial⟩, ⟨le_int (by (rw [hR]; done)), trivial⟩, trivial⟩, ⟨⟨_, rfl, .inl (by rw [hR]; rfl), ⟨trivial, trivial, rfl, rfl, trivial⟩⟩, ⟨_, rfl, .inr (ob_rows (by rw [hR]; done) (by intro j hj; rw [hR]; done)), trivial⟩, ⟨_, rfl, .inl rfl, trivial⟩, trivial⟩⟩
  ·refine HT.seq ?_
   refine HT.region S_htakeT_ok (Sq (V.mv (v := .ptr 1 0) rfl (Sq (V.ncPtr rfl (Sq (V.fa ty63 rfl ty56 rfl rfl (Sq (V.ld ty56 rfl rfl rfl (v := .own 2 0 _) rfl (Sq (V.len ty56 (v := .own 2 0 _) rfl rfl (Sq (V.bin (a := .v (.int .i64 _)) (b := .v (.int .i64 1000)) (r := .v (.bool _)) rfl rfl rfl trivial (Sq (V.as (v := .p (.v (.bool _))) rfl (So.e ?_)))))))))))))))
   refine R.cd rfl rfl (fun h4 => ?_) (fun h4 => ?_)
   ·refine HT.seq (HT.region S_htakeT_ok (Sq (V.as (v := .p (.v (.int .i64 0))) rfl (Sq (V.as (v := .p (.v (.int .i64 2))) rfl (So.e ?_))))))
    refine HT.ret ?_
    have hR := th_3 (e := e) (L := L) (k := k) (b := b) (l := (lookT G e b)) (by omega) (by exact (Bool.not_eq_false' _).mp (by assumption)) (by omega)
    exact ret_ok (sg [(1, 1), (2, 2), (3, 3)]) h rfl rfl rfl ⟨⟨trivial, trivial, rfl, rfl, trivial⟩, trivial, trivial, trivial⟩ ⟨trivial, trivial, trivial⟩ rfl ⟨⟨⟨le_int (by (rw [hR]; done)), trivial⟩, ⟨le_int (by (rw [hR]; done)), trivial⟩, trivial⟩, ⟨⟨_, rfl, .inl (by rw [hR]; rfl), ⟨trivial, trivial, rfl, rfl, trivial⟩⟩, ⟨_, rfl, .inr (ob_rows (by rw [hR]; done) (by intro j hj; rw [hR]; done)), trivial⟩, ⟨_, rfl, .inl rfl, trivial⟩, trivial⟩⟩
   ·refine HT.skip (HT.seq ?_)
    refine HT.planS S_htakeT_ok S_htakeT_det mixed [] [⟨[0, 1, 2, 3, 4, 5, 6, 7, 8, 9, 10, 11], 12, [0, 1, 2, 3, 4]⟩, ⟨[0, 1, 2, 3, 4], 13, [0, 1, 2, 3, 4]⟩, ⟨[0, 1, 2, 3, 4], 14, [0]⟩, ⟨[0, 15, 16], 17, []⟩] (by kernel_rfl) ?_
    refine Pl.lk ?_
    refine Sj rfl (V.mv (v := .ptr 1 0) rfl (Sj rfl (V.mv (v := .ptr 1 0) rfl (Sj rfl (V.ncPtr rfl (Sj rfl (V.fa ty63 rfl ty56 rfl rfl (Sj rfl (V.ld ty56 rfl rfl rfl (v := .own 2 0 _) rfl (Sj rfl (V.mi rfl (Sj rfl (V.mv (v := .ptr 1 0) rfl (Sj rfl (V.ncPtr rfl (Sj rfl (V.fa ty63 rfl ty2 rfl rfl (Sj rfl (V.ld ty2 rfl rfl rfl (v := .p (.v (.int .i64 _))) rfl (Sj rfl (V.mv (v := .p (.bs _)) rfl ?_)))))))))))))))))))))
    refine Sj rfl (V.call [.p (.bs _)] 4 rfl rfl rfl rfl ⟨trivial, trivial⟩ ⟨lk rfl, lk rfl, trivial⟩ _ ⟨.refl _, trivial⟩ trivial (by omega) tT (.inl ⟨trivial, trivial⟩) (v := .p (.bs _)) rfl (fun h5 => ?_))
    refine Si.e ?_
    refine ⟨flEq_nil, fun ff => ?_⟩
    refine Lo.n rfl (lk rfl) (A.bldS ty45 rfl rfl ⟨by exact rfl, by exact rfl, by exact trivial, trivial⟩ rfl (f := fun j => ([.v (.int .i64 k), .v (.int .i64 e), .bs b] : List PV).getD j (.v undef)) (by exact allP_spec (P := fun j => _ = _) ⟨⟨⟨trivial, rfl⟩, rfl⟩, (congrArg (fun x => BV.p (PV.bs x)) (take_full b))⟩) ?_)
    refine ⟨_, fun ff => ff, ap0d, rfl, FG.id, ?_⟩
    show planA _ _ _ _ _ [(0, .ptr 1 0), (1, .ptr 1 0), (2, .ptr 1 0), (3, .ptr 1 2), (4, .own 2 0 _)] _ _ _
    refine Pl.lk ?_
    refine Sj rfl (V.mv (v := .ptr 1 0) rfl (Sj rfl (V.mv (v := .ptr 1 0) rfl (Sj rfl (V.ncPtr rfl (Sj rfl (V.fa ty63 rfl ty56 rfl rfl (Sj rfl (V.ld ty56 rfl rfl rfl (v := .own 2 0 _) rfl (Si.e ?_))))))))))
    refine ⟨(flEq_cons rfl (flEq_cons rfl (flEq_cons rfl (flEq_cons rfl (flEq_cons rfl flEq_nil))))), fun ff => ?_⟩
    refine Lo.n rfl (lk rfl) (A.bsl 4 ty56 ty45 rfl (lk rfl) (lk rfl) (fun h => Bool.noConfusion (show false = true from h)) rfl rfl ⟨lk rfl, lk rfl, trivial⟩ ⟨(fun j hj => by match j, hj with | 0, _ => (trivial) | 1, _ => (trivial) | 2, _ => (trivial)), trivial⟩ rfl (N := 3) rfl (c := .rows _) rfl ?_)
    refine ⟨_, fun ff => ff, ap0d, rfl, FG.id, ?_⟩
    show planA _ _ _ _ _ [(0, .ptr 1 0), (1, .ptr 1 0), (2, .ptr 1 0), (3, .ptr 1 2), (4, .own 2 0 _)] _ _ _
    refine Pl.lk ?_
    refine Sj rfl (V.mv (v := .ptr 1 0) rfl (Sj rfl (V.mv (v := .ptr 1 0) rfl (Sj rfl (V.ncPtr rfl (Sj rfl (V.fa ty63 rfl ty56 rfl rfl (Sj rfl (V.ld ty56 rfl rfl rfl (v := .own 2 0 _) rfl (Si.e ?_))))))))))
    refine ⟨(flEq_cons rfl (flEq_cons rfl (flEq_cons rfl (flEq_cons rfl (flEq_cons rfl flEq_nil))))), fun ff => ?_⟩
    refine Lo.n rfl (lk rfl) (A.apRows ty56 ty45 rfl rfl rfl (lk rfl) (lk rfl) rfl rfl (u := .own 4 0 _) rfl rfl (by intro j hj; match j, hj with | 0, _ => rfl | 1, _ => rfl | 2, _ => trivial) rfl (by (simp; omega)) rfl rfl rfl ?_)
    refine ⟨_, fun ff => Fr.kill 2 ff, ap1d, rfl, (FG.kill 2 (flP_cons rfl flP_nil)), ?_⟩
    show planA _ _ _ _ _ [(0, .ptr 1 0)] _ _ _
    refine Pl.l0 ?_
    refine Sj rfl (V.mv (v := .ptr 1 0) rfl (Sj rfl (V.ncPtr rfl (Sj rfl (V.fa ty63 rfl ty56 rfl rfl (Si.e ?_))))))
    refine ⟨(flEq_cons rfl flEq_nil), ?_⟩
    refine Lo.s rfl (A.sto ty56 rfl rfl rfl (v := .own 2 0 _) rfl trivial rfl (lk rfl) rfl rfl ?_)
    refine Pl.e ?_
    refine Si.e ?_
    refine ⟨flEq_nil, ?_⟩
    refine HT.seq (HT.seq (HT.region S_htakeT_ok (Sq (V.mv (v := .p (.v (.bool _))) rfl (So.e ?_)))))
    refine R.cond rfl rfl (fun h6 => ?_) (fun h6 => ?_)
    ·refine HT.region S_htakeT_ok ?_
     refine Sq (V.mv (v := .ptr 1 0) rfl (Sq (V.ncPtr rfl (Sq (V.fa ty63 rfl ty2 rfl rfl (Sq (V.ld ty2 rfl rfl rfl (v := .p (.v (.int .i64 _))) rfl (Sq (V.addI rfl rfl (by omega) (Sq (V.ncPtr rfl (Sq (V.fa ty63 rfl ty2 rfl rfl (So.s (A.sto ty2 rfl rfl rfl (v := .p (.v (.int .i64 _))) rfl rfl rfl (lk rfl) rfl rfl (So.e (HT.seq (HT.region S_htakeT_ok (Sq (V.mv (v := .ptr 1 0) rfl (Sq (V.ncPtr rfl (Sq (V.fa ty63 rfl ty56 rfl rfl (Sq (V.ld ty56 rfl rfl rfl (v := .own 2 0 _) rfl (Sq (V.len ty56 (v := .own 2 0 _) rfl rfl (Sq (V.subI rfl rfl (by omega) (Sq (V.ai rfl (Sq (V.as (v := .p (.v (.int .i64 0))) rfl (So.e ?_)))))))))))))))))))))))))))))))))))
     refine HT.ret ?_
     have hR := th_4 (e := e) (L := L) (k := k) (b := b) (l := (lookT G e b)) (by omega) (by exact (Bool.not_eq_false' _).mp (by assumption)) (by omega) (by assumption)
     exact ret_ok (sg [(1, 1), (2, 2), (3, 3)]) h rfl rfl rfl ⟨⟨trivial, trivial, rfl, rfl, trivial⟩, trivial, trivial, trivial⟩ ⟨trivial, trivial, trivial⟩ rfl ⟨⟨⟨le_int (by (rw [hR]; dsimp only; omega)), trivial⟩, ⟨le_int (by (rw [hR]; done)), trivial⟩, trivial⟩, ⟨⟨_, rfl, .inl (by rw [hR, List.length_append]; rfl), ⟨trivial, trivial, rfl, rfl, trivial⟩⟩, ⟨_, rfl, .inr (ob_rows (by rw [hR, List.length_append]; rfl) (by intro j hj; rw [hR]; exact pR_up2 L k e b j hj)), trivial⟩, ⟨_, rfl, .inl rfl, trivial⟩, trivial⟩⟩
    ·refine HT.skip ?_
     refine HT.seq (HT.region S_htakeT_ok (Sq (V.mv (v := .ptr 1 0) rfl (Sq (V.ncPtr rfl (Sq (V.fa ty63 rfl ty56 rfl rfl (Sq (V.ld ty56 rfl rfl rfl (v := .own 2 0 _) rfl (Sq (V.len ty56 (v := .own 2 0 _) rfl rfl (Sq (V.subI rfl rfl (by omega) (Sq (V.ai rfl (Sq (V.as (v := .p (.v (.int .i64 0))) rfl (So.e ?_))))))))))))))))))
     refine HT.ret ?_
     have hR := th_5 (e := e) (L := L) (k := k) (b := b) (l := (lookT G e b)) (by omega) (by exact (Bool.not_eq_false' _).mp (by assumption)) (by omega) (by assumption)
     exact ret_ok (sg [(1, 1), (2, 2), (3, 3)]) h rfl rfl rfl ⟨⟨trivial, trivial, rfl, rfl, trivial⟩, trivial, trivial, trivial⟩ ⟨trivial, trivial, trivial⟩ rfl ⟨⟨⟨le_int (by (rw [hR]; dsimp only; omega)), trivial⟩, ⟨le_int (by (rw [hR]; done)), trivial⟩, trivial⟩, ⟨⟨_, rfl, .inl (by rw [hR, List.length_append]; rfl), ⟨trivial, trivial, rfl, rfl, trivial⟩⟩, ⟨_, rfl, .inr (ob_rows (by rw [hR, List.length_append]; rfl) (by intro j hj; rw [hR]; exact pR_up2 L k e b j hj)), trivial⟩, ⟨_, rfl, .inl rfl, trivial⟩, trivial⟩⟩
def hTextSp : Sp := ⟨[1, 3], mkE (α := (List UInt8) × Int × PLs × PKs × (List UInt8)) (fun (G, e, L, p, b) => [.ptr 1 0, .p (.bs b)]) (fun (G, e, L, p, b) => [(1, ⟨63, 4, 4, true, .cells [.p (.bs G), .p (.v (.int .i64 e)), .own 2 0 ((L).length), .own 3 0 ((p).length)]⟩), (2, ⟨45, 3, (L).length * 3, true, .rows (pR L)⟩), (3, ⟨64, 1, (p).length, true, .rows (kV p)⟩)]) (fun (G, e, L, p, b) => L.length <= 1000 /\ 0 <= e /\ e <= 1000000 /\ b.length <= 1000000000) (fun (G, e, L, p, b) => [.p (.v (.int .i64 ((takeH e L 3 b (lookT G e b)).n))), .p (.v (.int .i64 ((takeH e L 3 b (lookT G e b)).r)))]) (fun (G, e, L, p, b) => [(1, ⟨63, 4, 4, true, .cells [.p (.bs G), .p (.v (.int .i64 ((takeH e L 3 b (lookT G e b)).e))), .own 2 0 (((takeH e L 3 b (lookT G e b)).L).length), .own 3 0 ((p).length)]⟩), (2, ⟨45, 3, ((takeH e L 3 b (lookT G e b)).L).length * 3, true, .rows (pR ((takeH e L 3 b (lookT G e b)).L))⟩), (3, ⟨64, 1, (p).length, true, .rows (kV p)⟩)])⟩
def S_hText : FuncId -> Option Sp := fun f => if f = 31 then some htakeTSp else none
theorem S_hText_ok : ∀ f s, S_hText f = some s -> FOK Tryd.prog gl f s := sI htakeT_ok sN
theorem hText_ok : FOK Tryd.prog gl 13 hTextSp := by
 refine FOK.ofE (tyOf_ok Tryd.prog) (slots := [4, 5]) (nt := 13) Tryd.func13 rfl rfl rfl rfl (by decide) 2 (fun ⟨_, _, _, _, _⟩ => rfl) (by decide) (fun ⟨_, _, _, _, _⟩ => ⟨rfl, trivial, trivial⟩) ?_
 rintro ⟨G, e, L, p, b⟩ kk hlen hpre h
 have hl1 : (b).length <= 9223372036854775807 := hlen.2.1
 replace hpre : L.length <= 1000 /\ 0 <= e /\ e <= 1000000 /\ b.length <= 1000000000 := hpre
 show HT (cx Tryd.prog 13 (tyOf Tryd.prog) gl [1, 3]) _ [(0, .ptr 1 0), (1, .p (.bs b))] [(1, ⟨63, 4, 4, true, .cells [.p (.bs G), .p (.v (.int .i64 e)), .own 2 0 ((L).length), .own 3 0 ((p).length)]⟩), (2, ⟨45, 3, (L).length * 3, true, .rows (pR L)⟩), (3, ⟨64, 1, (p).length, true, .rows (kV p)⟩)] _
 refine HT.seq (HT.region S_hText_ok (Sq (V.as (v := .p (.v (.int .i64 0))) rfl (Sq (V.as (v := .p (.v (.int .i64 0))) rfl (So.e (HT.seq (HT.region S_hText_ok (Sq (V.mv (v := .ptr 1 0) rfl (Sq (V.mv (v := .p (.bs _)) rfl (Sq (V.mv (v := .ptr 1 0) rfl (So.n (lk rfl) (A.mkv (t := 1) (off := 0) rfl rfl rfl ?_))))))))))))))))
 refine So.n (lk rfl) (A.call [.ptr 1 _, .p (.v (.int .i64 _)), .p (.bs _), .mv 33 1 _] [(1, ⟨_, _, _, _, .cells [.p (.bs _), .p (.v (.int .i64 _)), .own 2 0 _, .own 3 0 _]⟩), (2, ⟨_, _, _, _, .rows _⟩), (3, ⟨_, _, _, _, .rows _⟩)] (sg [(1, 1), (2, 2), (3, 3)]) 4 rfl rfl rfl rfl ⟨rfl, rfl, rfl, trivial⟩ rfl ⟨⟨trivial, trivial, rfl, rfl, trivial⟩, trivial, trivial, trivial⟩ ⟨rfl, trivial, trivial, rfl, trivial⟩ ⟨lk rfl, lk rfl, trivial⟩ rfl (G, e, L, p, 3, b) ⟨.refl _, .refl _, .refl _, .refl _, trivial⟩ ⟨⟨_, rfl, .inl rfl, ⟨trivial, trivial, rfl, rfl, trivial⟩⟩, ⟨_, rfl, .inl rfl, trivial⟩, ⟨_, rfl, .inl rfl, trivial⟩, trivial⟩ (by omega) tT ⟨⟨_, _, rfl, rfl, rfl, Nat.le_refl _⟩, ⟨_, _, rfl, rfl, rfl, Nat.le_refl _⟩, trivial⟩ (.inl rfl) rfl (v := .tup 2 _) rfl (O' := (1, ⟨_, _, _, _, .cells _⟩) :: (6, ⟨_, _, _, _, .rows _⟩) :: (3, ⟨_, _, _, _, .rows _⟩) :: _) rfl (fun h1 => ?_))
 refine Sq (V.ei rfl rfl (Sq (V.ei rfl rfl (Sq (V.ai rfl (Sq (V.ai rfl (So.e ?_))))))))
 refine HT.ret ?_
 exact ret_ok (sg [(1, 1), (2, 6), (3, 3)]) h rfl rfl rfl ⟨⟨trivial, trivial, rfl, rfl, trivial⟩, trivial, trivial, trivial⟩ ⟨trivial, trivial, trivial⟩ rfl ⟨⟨⟨le_int (by rfl), trivial⟩, ⟨le_int (by rfl), trivial⟩, trivial⟩, ⟨⟨_, rfl, .inl (by rfl), ⟨trivial, trivial, rfl, rfl, trivial⟩⟩, ⟨_, rfl, .inr (ob_rows (by rfl) (by simp; done)), trivial⟩, ⟨_, rfl, .inr (ob_rows (by rfl) (by simp; done)), trivial⟩, trivial⟩⟩
def faheadSp : Sp := ⟨[], mkE (α := (List UInt8) × Int × Int × Int × (List UInt8)) (fun (g, ep, fr, gn, cl) => [.agg 5 (fun j => ([.bs g, .v (.int .i64 ep), .v (.int .i64 fr), .v (.int .i64 gn), .bs cl] : List PV).getD j (.v undef))]) (fun (g, ep, fr, gn, cl) => []) (fun (g, ep, fr, gn, cl) => True) (fun (g, ep, fr, gn, cl) => [.own 2 0 ((aheadF g ep fr gn cl).length)]) (fun (g, ep, fr, gn, cl) => [(2, ⟨5, 1, (aheadF g ep fr gn cl).length, true, .bs (aheadF g ep fr gn cl)⟩)])⟩
def S_fahead : FuncId -> Option Sp := fun f => if f = 48 then some fsealSp else if f = 63 then some fwhereSp else if f = 58 then some wplaceSp else if f = 60 then some wnumSp else none
theorem S_fahead_ok : ∀ f s, S_fahead f = some s -> FOK Tryd.prog gl f s := sI fseal_ok (sI fwhere_ok (sI wplace_ok (sI wnum_ok sN)))
theorem fahead_ok : FOK Tryd.prog gl 49 faheadSp := by
 refine FOK.ofE (tyOf_ok Tryd.prog) (slots := [2]) (nt := 21) Tryd.func49 rfl rfl rfl rfl (by decide) 1 (fun ⟨_, _, _, _, _⟩ => rfl) (by decide) (fun ⟨_, _, _, _, _⟩ => ⟨trivial, trivial⟩) ?_
 rintro ⟨g, ep, fr, gn, cl⟩ kk hlen hpre h
 replace hpre : True := hpre
 show HT (cx Tryd.prog 21 (tyOf Tryd.prog) gl []) _ [(0, .agg 5 (fun j => ([.bs g, .v (.int .i64 ep), .v (.int .i64 fr), .v (.int .i64 gn), .bs cl] : List PV).getD j (.v undef)))] [] _
 have h8 := nu_len ep 8
 have h4 := nu_len fr 4
 have htg := tx_len g
 have hp3 : (txF g ++ nuF ep 8 ++ nuF fr 4).length = (txF g).length + (nuF ep 8).length + (nuF fr 4).length := by rw [List.length_append, List.length_append]
 have hgn := nu_len gn 4
 refine HT.seq (HT.region S_fahead_ok (So.n (lk rfl) (A.boxAg 1 1 (n := 5) rfl (by intro j hj; (match j, hj with | 0, _ => (trivial) | 1, _ => (trivial) | 2, _ => (trivial) | 3, _ => (trivial) | 4, _ => (trivial))) rfl trivial (Sq (V.as (v := .p (.v (.slice none 0 0))) rfl (So.e (HT.seq (HT.seq (HT.region S_fahead_ok (Sq (V.ldPtrA ty69 rfl rfl rfl rfl (lk rfl) ?_)))))))))))
 refine So.n (lk rfl) (A.call0 [.agg 5 _] 2 rfl rfl rfl rfl ⟨trivial, trivial⟩ trivial (g, ep, fr, gn, cl) ⟨le_agg (fun j hj => by match j, hj with | 0, _ => rfl | 1, _ => rfl | 2, _ => rfl | 3, _ => rfl | 4, _ => rfl), trivial⟩ trivial (by trivial) tT (.inl rfl) (v := .p (.v (.bool _))) rfl (O' := _) rfl (fun h1 => ?_))
 refine Sq (V.not rfl (So.e ?_))
 refine R.cond rfl rfl (fun h2 => ?_) (fun h2 => ?_)
 ·have h2 := of_decide_eq_false (bnT h2)
  refine HT.seq (HT.region S_fahead_ok (Sq (V.as (v := .p (.v (.slice none 0 0))) rfl (So.e ?_))))
  refine R.phan 2 2 5 1 (.bs []) rfl rfl rfl ⟨rfl, rfl⟩ ?_
  refine HT.ret ?_
  exact ret_ok (sg [(2, 2)]) h rfl rfl rfl ⟨trivial, trivial⟩ ⟨rfl, trivial⟩ rfl ⟨⟨⟨le_own2 (by rfl) (by (show (_ : Nat) = _; (rw [aheadF_no (by assumption)]; rfl))), rfl⟩, trivial⟩, ⟨⟨_, rfl, .inl (ob_bs (by show (_ : Nat) = _; (rw [aheadF_no (by assumption)]; rfl)) (by show (_ : List UInt8) = _; (rw [aheadF_no (by assumption)]; done))), trivial⟩, trivial⟩⟩
 ·have h2 := of_decide_eq_true (bnF h2)
  refine HT.skip (HT.seq (HT.region S_fahead_ok (So.n (lk rfl) (A.bldG ty86 rfl trivial rfl rfl (So.n (lk rfl) (A.boxG 2 1 [.p (.v (.slice none 0 0))] rfl (by intro j hj; match j, hj with | 0, _ => (exact rfl)) rfl (by intro j hj; match j, hj with | 0, _ => rfl) rfl trivial (Sq (V.as (v := .ptr 2 0) rfl (So.e (HT.seq ?_))))))))))
  refine HT.phanC 2 3 5 1 (.bs []) (c' := .cells [.own 3 0 0]) rfl rfl rfl ⟨rfl, rfl⟩ rfl (allP_spec (P := fun j => _ ∨ _) ⟨trivial, .inr ⟨rfl, rfl⟩⟩) rfl ?_
  refine HT.region S_fahead_ok (Sq (V.mv (v := .ptr 2 0) rfl (Sq (V.ldPtrA ty69 rfl rfl rfl rfl (lk rfl) ?_))))
  refine So.n (lk rfl) (A.call0 [.agg 5 _] 4 rfl rfl rfl rfl ⟨trivial, trivial⟩ trivial (g, ep, fr, gn, cl) ⟨le_agg (fun j hj => by match j, hj with | 0, _ => rfl | 1, _ => rfl | 2, _ => rfl | 3, _ => rfl | 4, _ => rfl), trivial⟩ trivial (by trivial) tT (.inl rfl) (v := .agg 3 _) rfl (O' := _) rfl (fun h3 => ?_))
  refine So.n (lk rfl) (A.call [.ptr 1 _, .agg 3 _] [(1, ⟨_, _, _, _, .cells [.own 2 0 _]⟩), (2, ⟨_, _, _, _, .bs _⟩)] (sg [(1, 2), (2, 3)]) 4 rfl rfl rfl rfl ⟨rfl, rfl, trivial⟩ rfl ⟨⟨rfl, trivial⟩, trivial, trivial⟩ ⟨rfl, trivial, trivial⟩ trivial rfl (nl, g, ep, fr) ⟨.refl _, .refl _, trivial⟩ ⟨⟨_, rfl, .inl rfl, ⟨rfl, trivial⟩⟩, ⟨_, rfl, .inl rfl, trivial⟩, trivial⟩ (by (simp; done)) tT ⟨⟨_, _, rfl, rfl, rfl, Nat.le_refl _⟩, trivial⟩ (.inl rfl) rfl (v := .tup 0 _) rfl (O' := (2, ⟨_, _, _, _, .cells _⟩) :: (6, ⟨_, _, _, _, .bs _⟩) :: _) rfl (fun h4 => ?_))
  refine So.e (HT.seq ?_)
  refine R.tell [] [(2, ⟨86, 1, 1, true, .cells [.own 6 0 ((txF g ++ nuF ep 8 ++ nuF fr 4).length)]⟩), (6, ⟨5, 1, (txF g ++ nuF ep 8 ++ nuF fr 4).length, true, .bs (txF g ++ nuF ep 8 ++ nuF fr 4)⟩)] [1, 2, 3] [1] (fr0 := [(1, .ptr 1 0), (2, .p (.v (.slice none 0 0))), (3, .ptr 2 0)]) (O0 := [(1, ⟨_, _, _, _, .rows _⟩)]) rfl rfl ⟨⟨⟨.refl _, rfl⟩, ⟨.refl _, trivial⟩, ⟨.refl _, rfl⟩, trivial⟩, ⟨⟨_, rfl, .inl (by rfl), ⟨rfl, trivial⟩⟩, ⟨_, rfl, .inl (ob_bs (by rfl) (by rfl)), trivial⟩, ⟨_, rfl, .inl rfl, trivial⟩, trivial⟩⟩ ?_
  refine HT.region S_fahead_ok (Sq (V.mv (v := .ptr 2 0) rfl (Sq (V.fa ty69 rfl ty2 rfl rfl (Sq (V.ld ty2 rfl rfl rfl (v := .p (.v (.int .i64 _))) rfl ?_))))))
  refine So.n (lk rfl) (A.call [.ptr 1 _, .p (.v (.int .i64 _)), .p (.v (.int .i64 _))] [(1, ⟨_, _, _, _, .cells [.own 2 0 _]⟩), (2, ⟨_, _, _, _, .bs _⟩)] (sg [(1, 2), (2, 6)]) 7 rfl rfl rfl rfl ⟨rfl, rfl, trivial⟩ rfl ⟨⟨rfl, trivial⟩, trivial, trivial⟩ ⟨rfl, trivial, trivial, trivial⟩ trivial rfl (txF g ++ nuF ep 8 ++ nuF fr 4, gn, 4) ⟨.refl _, .refl _, .refl _, trivial⟩ ⟨⟨_, rfl, .inl rfl, ⟨rfl, trivial⟩⟩, ⟨_, rfl, .inl rfl, trivial⟩, trivial⟩ (by omega) tT ⟨⟨_, _, rfl, rfl, rfl, Nat.le_refl _⟩, trivial⟩ (.inl rfl) rfl (v := .tup 0 _) rfl (O' := (2, ⟨_, _, _, _, .cells _⟩) :: (9, ⟨_, _, _, _, .bs _⟩) :: _) rfl (fun h5 => ?_))
  refine So.e (HT.seq ?_)
  refine R.tell [] [(2, ⟨86, 1, 1, true, .cells [.own 9 0 ((aheadB g ep fr gn).length)]⟩), (9, ⟨5, 1, (aheadB g ep fr gn).length, true, .bs (aheadB g ep fr gn)⟩)] [2, 3] [] (fr0 := [(2, .p (.v (.slice none 0 0))), (3, .ptr 2 0)]) (O0 := []) rfl rfl ⟨⟨⟨.refl _, trivial⟩, ⟨.refl _, rfl⟩, trivial⟩, ⟨⟨_, rfl, .inl (by rfl), ⟨rfl, trivial⟩⟩, ⟨_, rfl, .inl (ob_bs (by rfl) (by rfl)), trivial⟩, trivial⟩⟩ ?_
  refine HT.region S_fahead_ok (Sq (V.mv (v := .ptr 2 0) rfl (Sq (V.ncPtr rfl (Sq (V.fa ty86 rfl ty23 rfl rfl (Sq (V.ld ty23 rfl rfl rfl (v := .own 9 0 _) rfl (Sq (V.as (v := .own 9 0 _) rfl (So.e ?_)))))))))))
  refine HT.ret ?_
  exact ret_ok (sg [(2, 9)]) h rfl rfl rfl ⟨trivial, trivial⟩ ⟨rfl, trivial⟩ rfl ⟨⟨⟨le_own2 (by rfl) (by (show (_ : Nat) = _; (rw [aheadF_yes (by assumption)]; done))), rfl⟩, trivial⟩, ⟨⟨_, rfl, .inl (ob_bs (by show (_ : Nat) = _; (rw [aheadF_yes (by assumption)]; done)) (by show (_ : List UInt8) = _; (rw [aheadF_yes (by assumption)]; done))), trivial⟩, trivial⟩⟩
def fputsSp : Sp := ⟨[], mkE (α := (List UInt8) × Int × Int × Int × (List UInt8)) (fun (g, ep, fr, gn, cl) => [.agg 5 (fun j => ([.bs g, .v (.int .i64 ep), .v (.int .i64 fr), .v (.int .i64 gn), .bs cl] : List PV).getD j (.v undef))]) (fun (g, ep, fr, gn, cl) => []) (fun (g, ep, fr, gn, cl) => True) (fun (g, ep, fr, gn, cl) => [.own 2 0 ((sealF g ep fr gn cl).length), .p (.v (.int .i64 (sealE g ep fr gn cl)))]) (fun (g, ep, fr, gn, cl) => [(2, ⟨5, 1, (sealF g ep fr gn cl).length, true, .bs (sealF g ep fr gn cl)⟩)])⟩
def S_fputs : FuncId -> Option Sp := fun f => if f = 48 then some fsealSp else if f = 49 then some faheadSp else if f = 45 then some wtextSp else none
theorem S_fputs_ok : ∀ f s, S_fputs f = some s -> FOK Tryd.prog gl f s := sI fseal_ok (sI fahead_ok (sI wtext_ok sN))
theorem fputs_ok : FOK Tryd.prog gl 34 fputsSp := by
 refine FOK.ofE (tyOf_ok Tryd.prog) (slots := [2, 3]) (nt := 21) Tryd.func34 rfl rfl rfl rfl (by decide) 1 (fun ⟨_, _, _, _, _⟩ => rfl) (by decide) (fun ⟨_, _, _, _, _⟩ => ⟨trivial, trivial⟩) ?_
 rintro ⟨g, ep, fr, gn, cl⟩ kk hlen hpre h
 replace hpre : True := hpre
 show HT (cx Tryd.prog 21 (tyOf Tryd.prog) gl []) _ [(0, .agg 5 (fun j => ([.bs g, .v (.int .i64 ep), .v (.int .i64 fr), .v (.int .i64 gn), .bs cl] : List PV).getD j (.v undef)))] [] _
 have hal := ahead_len g ep fr gn
 refine HT.seq (HT.region S_fputs_ok (So.n (lk rfl) (A.boxAg 1 1 (n := 5) rfl (by intro j hj; (match j, hj with | 0, _ => (trivial) | 1, _ => (trivial) | 2, _ => (trivial) | 3, _ => (trivial) | 4, _ => (trivial))) rfl trivial (Sq (V.as (v := .p (.v (.slice none 0 0))) rfl (Sq (V.as (v := .p (.v (.int .i64 0))) rfl (So.e (HT.seq (HT.seq (HT.region S_fputs_ok (Sq (V.ldPtrA ty69 rfl rfl rfl rfl (lk rfl) ?_)))))))))))))
 refine So.n (lk rfl) (A.call0 [.agg 5 _] 2 rfl rfl rfl rfl ⟨trivial, trivial⟩ trivial (g, ep, fr, gn, cl) ⟨le_agg (fun j hj => by match j, hj with | 0, _ => rfl | 1, _ => rfl | 2, _ => rfl | 3, _ => rfl | 4, _ => rfl), trivial⟩ trivial (by trivial) tT (.inl rfl) (v := .p (.v (.bool _))) rfl (O' := _) rfl (fun h1 => ?_))
 refine Sq (V.not rfl (So.e ?_))
 refine R.cond rfl rfl (fun h2 => ?_) (fun h2 => ?_)
 ·have h2 := of_decide_eq_false (bnT h2)
  refine HT.seq (HT.region S_fputs_ok (Sq (V.as (v := .p (.v (.slice none 0 0))) rfl (Sq (V.as (v := .p (.v (.int .i64 181))) rfl (So.e ?_))))))
  refine R.phan 2 2 5 1 (.bs []) rfl rfl rfl ⟨rfl, rfl⟩ ?_
  refine HT.ret ?_
  exact ret_ok (sg [(2, 2)]) h rfl rfl rfl ⟨trivial, trivial⟩ ⟨rfl, trivial, trivial⟩ rfl ⟨⟨⟨le_own2 (by rfl) (by (show (_ : Nat) = _; (rw [sealF_no (by assumption)]; rfl))), rfl⟩, ⟨le_int (by (show (_ : Int) = _; (rw [sealE_no (by assumption)]; done))), trivial⟩, trivial⟩, ⟨⟨_, rfl, .inl (ob_bs (by show (_ : Nat) = _; (rw [sealF_no (by assumption)]; rfl)) (by show (_ : List UInt8) = _; (rw [sealF_no (by assumption)]; done))), trivial⟩, trivial⟩⟩
 ·have h2 := of_decide_eq_true (bnF h2)
  refine HT.skip (HT.seq (HT.region S_fputs_ok (Sq (V.ldPtrA ty69 rfl rfl rfl rfl (lk rfl) ?_))))
  refine So.n (lk rfl) (A.call0 [.agg 5 _] 2 rfl rfl rfl rfl ⟨trivial, trivial⟩ trivial (g, ep, fr, gn, cl) ⟨le_agg (fun j hj => by match j, hj with | 0, _ => rfl | 1, _ => rfl | 2, _ => rfl | 3, _ => rfl | 4, _ => rfl), trivial⟩ trivial (by trivial) tT (.inl rfl) (v := .own 4 0 _) rfl (O' := (4, ⟨5, 1, _, true, .bs _⟩) :: _) rfl (fun h3 => ?_))
  refine So.n (lk rfl) (A.bldG ty86 rfl ⟨by exact trivial, trivial⟩ rfl rfl (So.n (lk rfl) (A.boxG 5 1 [.own 4 0 _] rfl (by intro j hj; match j, hj with | 0, _ => (exact trivial)) rfl (by intro j hj; match j, hj with | 0, _ => rfl) rfl trivial (Sq (V.as (v := .ptr 5 0) rfl (So.e (HT.seq (HT.region S_fputs_ok ?_))))))))
  have haf := aheadF_yes (by assumption : sealP g ep fr gn cl)
  have hafl := congrArg List.length haf
  refine Sq (V.mv (v := .ptr 5 0) rfl (Sq (V.fa ty69 rfl ty23 rfl rfl (Sq (V.ld ty23 rfl rfl rfl (v := .p (.bs _)) rfl (So.n (lk rfl) (A.bsl 6 ty22 ty23 rfl (lk rfl) (lk rfl) (fun _ => rfl) rfl rfl trivial ⟨trivial, trivial⟩ rfl (N := 1) rfl (c := .rows _) rfl ?_)))))))
  refine So.n (lk rfl) (A.call [.ptr 1 _, .p (.sl _ _ _)] [(1, ⟨_, _, _, _, .cells [.own 2 0 _]⟩), (2, ⟨_, _, _, _, .bs _⟩)] (sg [(1, 5), (2, 4)]) 7 rfl rfl rfl rfl ⟨rfl, rfl, trivial⟩ rfl ⟨⟨rfl, trivial⟩, trivial, trivial⟩ ⟨rfl, trivial, trivial⟩ trivial rfl (aheadF g ep fr gn cl, [cl]) ⟨.refl _, le_sl rfl (by intro j hj; match j, hj with | 0, _ => rfl), trivial⟩ ⟨⟨_, rfl, .inl rfl, ⟨rfl, trivial⟩⟩, ⟨_, rfl, .inl rfl, trivial⟩, trivial⟩ (by (simp; omega)) tT ⟨⟨_, _, rfl, rfl, rfl, Nat.le_refl _⟩, trivial⟩ (.inr ⟨fun _ hj => absurd hj (Nat.not_lt_zero _), by simp [Hp.scal, OC.scal, PV.scal, BV.scal]⟩) rfl (v := .tup 0 _) rfl (O' := (5, ⟨_, _, _, _, .cells _⟩) :: (9, ⟨_, _, _, _, .bs _⟩) :: _) rfl (fun h4 => ?_))
  refine So.e (HT.seq ?_)
  refine R.tell [] [(5, ⟨86, 1, 1, true, .cells [.own 9 0 ((aheadB g ep fr gn ++ txF cl).length)]⟩), (9, ⟨5, 1, (aheadB g ep fr gn ++ txF cl).length, true, .bs (aheadB g ep fr gn ++ txF cl)⟩)] [2, 3, 4] [] (fr0 := [(2, .p (.v (.slice none 0 0))), (3, .p (.v (.int .i64 _))), (4, .ptr 5 0)]) (O0 := []) rfl rfl ⟨⟨⟨.refl _, trivial⟩, ⟨.refl _, trivial⟩, ⟨.refl _, rfl⟩, trivial⟩, ⟨⟨_, rfl, .inl (by (rw [txL_1, haf]; rfl)), ⟨rfl, trivial⟩⟩, ⟨_, rfl, .inl (ob_bs (by (rw [txL_1, haf])) (by (rw [txL_1, haf]))), trivial⟩, trivial⟩⟩ ?_
  refine HT.region S_fputs_ok (Sq (V.mv (v := .ptr 5 0) rfl (Sq (V.ncPtr rfl (Sq (V.fa ty86 rfl ty23 rfl rfl (Sq (V.ld ty23 rfl rfl rfl (v := .own 9 0 _) rfl (Sq (V.as (v := .own 9 0 _) rfl (Sq (V.as (v := .p (.v (.int .i64 0))) rfl (So.e ?_)))))))))))))
  refine HT.ret ?_
  exact ret_ok (sg [(2, 9)]) h rfl rfl rfl ⟨trivial, trivial⟩ ⟨rfl, trivial, trivial⟩ rfl ⟨⟨⟨le_own2 (by rfl) (by (show (_ : Nat) = _; (rw [sealF_yes (by assumption)]; done))), rfl⟩, ⟨le_int (by (show (_ : Int) = _; (rw [sealE_yes (by assumption)]; done))), trivial⟩, trivial⟩, ⟨⟨_, rfl, .inl (ob_bs (by show (_ : Nat) = _; (rw [sealF_yes (by assumption)]; done)) (by show (_ : List UInt8) = _; (rw [sealF_yes (by assumption)]; done))), trivial⟩, trivial⟩⟩
def lsealSp : Sp := ⟨[], mkE (α := (List UInt8) × Int × Int × Int × (List UInt8)) (fun (g, ep, fr, kd, bd) => [.agg 5 (fun j => ([.bs g, .v (.int .i64 ep), .v (.int .i64 fr), .v (.int .i64 kd), .bs bd] : List PV).getD j (.v undef))]) (fun (g, ep, fr, kd, bd) => []) (fun (g, ep, fr, kd, bd) => True) (fun (g, ep, fr, kd, bd) => [.p (.bs (sealF g ep fr 0 bd))]) (fun (g, ep, fr, kd, bd) => [])⟩
def S_lseal : FuncId -> Option Sp := fun f => if f = 34 then some fputsSp else none
theorem S_lseal_ok : ∀ f s, S_lseal f = some s -> FOK Tryd.prog gl f s := sI fputs_ok sN
theorem lseal_ok : FOK Tryd.prog gl 14 lsealSp := by
 refine FOK.ofE (tyOf_ok Tryd.prog) (slots := [2]) (nt := 19) Tryd.func14 rfl rfl rfl rfl (by decide) 1 (fun ⟨_, _, _, _, _⟩ => rfl) (by decide) (fun ⟨_, _, _, _, _⟩ => ⟨trivial, trivial⟩) ?_
 rintro ⟨g, ep, fr, kd, bd⟩ kk hlen hpre h
 replace hpre : True := hpre
 show HT (cx Tryd.prog 19 (tyOf Tryd.prog) gl []) _ [(0, .agg 5 (fun j => ([.bs g, .v (.int .i64 ep), .v (.int .i64 fr), .v (.int .i64 kd), .bs bd] : List PV).getD j (.v undef)))] [] _
 refine HT.seq (HT.region S_lseal_ok (So.n (lk rfl) (A.boxAg 1 1 (n := 5) rfl (by intro j hj; (match j, hj with | 0, _ => (trivial) | 1, _ => (trivial) | 2, _ => (trivial) | 3, _ => (trivial) | 4, _ => (trivial))) rfl trivial (Sq (V.as (v := .p (.v (.slice none 0 0))) rfl (So.e (HT.seq (HT.region S_lseal_ok (Sq (V.fa ty36 rfl ty23 rfl rfl (Sq (V.ld ty23 rfl rfl rfl (v := .p (.bs _)) rfl (Sq (V.fa ty36 rfl ty2 rfl rfl (Sq (V.ld ty2 rfl rfl rfl (v := .p (.v (.int .i64 _))) rfl (Sq (V.fa ty36 rfl ty3 rfl rfl (Sq (V.ld ty3 rfl rfl rfl (v := .p (.v (.int .i64 _))) rfl (Sq (V.fa ty36 rfl ty23 rfl rfl (Sq (V.ld ty23 rfl rfl rfl (v := .p (.bs _)) rfl (So.n (lk rfl) (A.bldS ty69 rfl rfl ⟨by exact trivial, by exact rfl, by exact rfl, by exact trivial, trivial⟩ rfl (f := fun j => ([.bs g, .v (.int .i64 ep), .v (.int .i64 fr), .v (.int .i64 0), .bs bd] : List PV).getD j (.v undef)) (by exact allP_spec (P := fun j => _ = _) ⟨⟨⟨⟨⟨trivial, rfl⟩, rfl⟩, rfl⟩, rfl⟩, rfl⟩) ?_))))))))))))))))))))))))))
 refine So.n (lk rfl) (A.call0 [.agg 5 _] 2 rfl rfl rfl rfl ⟨trivial, trivial⟩ trivial (g, ep, fr, 0, bd) ⟨le_agg (fun j hj => by match j, hj with | 0, _ => rfl | 1, _ => rfl | 2, _ => rfl | 3, _ => rfl | 4, _ => rfl), trivial⟩ trivial (by trivial) tT (.inl rfl) (v := .tup 2 _) rfl (O' := (4, ⟨5, 1, _, true, .bs _⟩) :: _) rfl (fun h1 => ?_))
 refine Sq (V.mv (v := .tup 2 _) rfl (Sq (V.ext rfl (lk rfl) (v := .own 4 0 _) rfl (Sq (V.ei rfl rfl (Sq (V.as (v := .own 4 0 _) rfl (Sq (V.ai rfl (So.e ?_))))))))))
 refine HT.frzS 4 rfl rfl rfl ?_
 refine HT.seq (HT.region S_lseal_ok (Sq (V.mv (v := .p (.bs _)) rfl (Sq (V.as (v := .p (.bs _)) rfl (So.e ?_))))))
 refine HT.ret ?_
 exact rt1 h (le_bs (by exact take_full _))
def hanySp : Sp := ⟨[], mkE (α := (List UInt8)) (fun b => [.p (.bs b)]) (fun b => []) (fun b => True) (fun b => [.p (.v (.bool ((lookA b).now))), .p (.v (.bool ((lookA b).ends))), .p (.v (.int .i64 ((lookA b).r)))]) (fun b => [])⟩
def S_hany : FuncId -> Option Sp := fun _ => none
theorem S_hany_ok : ∀ f s, S_hany f = some s -> FOK Tryd.prog gl f s := fun f s h => by cases h
theorem hany_ok : FOK Tryd.prog gl 43 hanySp := by
 refine FOK.ofE (tyOf_ok Tryd.prog) (slots := [2, 3, 4]) (nt := 13) Tryd.func43 rfl rfl rfl rfl (by decide) 1 (fun _ => rfl) (by decide) (fun _ => ⟨trivial, trivial⟩) ?_
 rintro b kk hlen hpre h
 have hl0 : (b).length <= 9223372036854775807 := hlen.1
 replace hpre : True := hpre
 show HT (cx Tryd.prog 13 (tyOf Tryd.prog) gl []) _ [(0, .p (.bs b))] [] _
 refine HT.seq (HT.region S_hany_ok (Sq (V.as (v := .p (.v (.bool false))) rfl (Sq (V.as (v := .p (.v (.bool false))) rfl (Sq (V.as (v := .p (.v (.int .i64 0))) rfl (So.e (HT.seq (HT.seq (HT.region S_hany_ok (Sq (V.mv (v := .p (.bs _)) rfl (Sq (V.len ty23 (v := .p (.bs _)) rfl rfl (Sq (V.bin (a := .v (.int .i64 _)) (b := .v (.int .i64 0)) (r := .v (.bool _)) rfl rfl rfl trivial (Sq (V.mv (v := .p (.v (.bool _))) rfl ?_)))))))))))))))))))
 refine So.gd rfl rfl (lk rfl) (lk rfl) (fun h1 => ?_) (fun h1 => ?_)
 ·have h1 := of_decide_eq_false h1
  refine A.v rfl (V.mv (v := .p (.bs _)) rfl (So.gy rfl rfl (lk rfl) (lk rfl) (A.v rfl (V.len ty23 (v := .p (.bs _)) rfl rfl (So.gy rfl rfl (lk rfl) (lk rfl) (A.v rfl (V.bin (a := .v (.int .i64 _)) (b := .v (.int .i64 1048576)) (r := .v (.bool _)) rfl rfl rfl trivial (Sq (V.pkFalse (u := .p (.v (.bool _))) rfl rfl (So.e ?_))))))))))
  refine R.cd rfl rfl (fun h2 => ?_) (fun h2 => ?_)
  ·refine HT.seq (HT.region S_hany_ok (Sq (V.as (v := .p (.v (.bool false))) rfl (Sq (V.as (v := .p (.v (.bool false))) rfl (Sq (V.as (v := .p (.v (.int .i64 1))) rfl (So.e ?_))))))))
   refine HT.ret ?_
   have hR := la_1 (b := b) (by omega)
   exact rt3 h (le_bool (by (rw [hR]; done))) (le_bool (by (rw [hR]; done))) (le_int (by (rw [hR]; done)))
  ·refine HT.skip (HT.seq (HT.region S_hany_ok (Sq (V.as (v := .p (.v (.bool true))) rfl (Sq (V.as (v := .p (.v (.bool false))) rfl (Sq (V.as (v := .p (.v (.int .i64 0))) rfl (So.e ?_)))))))))
   refine HT.ret ?_
   have hR := la_2 (b := b) (by omega)
   exact rt3 h (le_bool (by (rw [hR]; done))) (le_bool (by (rw [hR]; done))) (le_int (by (rw [hR]; done)))
 ·have h1 := of_decide_eq_true h1
  refine So.gn (b := true) rfl rfl rfl (lk rfl) (lk rfl) (So.gn (b := true) rfl rfl rfl (lk rfl) (lk rfl) (Sq (V.pkTrue (u := .p (.v (.bool true))) rfl rfl (So.e ?_))))
  refine R.condT rfl ?_
  refine HT.seq (HT.region S_hany_ok (Sq (V.as (v := .p (.v (.bool false))) rfl (Sq (V.as (v := .p (.v (.bool false))) rfl (Sq (V.as (v := .p (.v (.int .i64 1))) rfl (So.e ?_))))))))
  refine HT.ret ?_
  have hR := la_1 (b := b) (by omega)
  exact rt3 h (le_bool (by (rw [hR]; done))) (le_bool (by (rw [hR]; done))) (le_int (by (rw [hR]; done)))
def htakeASp : Sp := ⟨[1, 3], mkE (α := (List UInt8) × Int × PLs × PKs × Int × (List UInt8)) (fun (G, e, L, p, k, b) => [.ptr 1 0, .p (.v (.int .i64 k)), .p (.bs b), .clo 43 []]) (fun (G, e, L, p, k, b) => [(1, ⟨63, 4, 4, true, .cells [.p (.bs G), .p (.v (.int .i64 e)), .own 2 0 ((L).length), .own 3 0 ((p).length)]⟩), (2, ⟨45, 3, (L).length * 3, true, .rows (pR L)⟩), (3, ⟨64, 1, (p).length, true, .rows (kV p)⟩)]) (fun (G, e, L, p, k, b) => L.length <= 1000 /\ 0 <= e /\ e <= 1000000 /\ b.length <= 1000000000) (fun (G, e, L, p, k, b) => [.p (.v (.int .i64 ((takeH e L k b (lookA b)).n))), .p (.v (.int .i64 ((takeH e L k b (lookA b)).r)))]) (fun (G, e, L, p, k, b) => [(1, ⟨63, 4, 4, true, .cells [.p (.bs G), .p (.v (.int .i64 ((takeH e L k b (lookA b)).e))), .own 2 0 (((takeH e L k b (lookA b)).L).length), .own 3 0 ((p).length)]⟩), (2, ⟨45, 3, ((takeH e L k b (lookA b)).L).length * 3, true, .rows (pR ((takeH e L k b (lookA b)).L))⟩), (3, ⟨64, 1, (p).length, true, .rows (kV p)⟩)])⟩
def S_htakeA : FuncId -> Option Sp := fun f => if f = 43 then some hanySp else if f = 30 then some cloneSp else none
theorem S_htakeA_ok : ∀ f s, S_htakeA f = some s -> FOK Tryd.prog gl f s := sI hany_ok (sI clone_ok sN)
theorem S_htakeA_det : ∀ f s, S_htakeA f = some s -> SpDet s.sp := dI (dI dN)
theorem htakeA_ok : FOK Tryd.prog gl 31 htakeASp := by
 refine FOK.ofE (tyOf_ok Tryd.prog) (slots := [8, 9]) (nt := 65) Tryd.func31 rfl rfl rfl rfl (by decide) 4 (fun ⟨_, _, _, _, _, _⟩ => rfl) (by decide) (fun ⟨_, _, _, _, _, _⟩ => ⟨rfl, trivial, trivial, trivial, trivial⟩) ?_
 rintro ⟨G, e, L, p, k, b⟩ kk hlen hpre h
 have hl2 : (b).length <= 9223372036854775807 := hlen.2.2.1
 replace hpre : L.length <= 1000 /\ 0 <= e /\ e <= 1000000 /\ b.length <= 1000000000 := hpre
 show HT (cx Tryd.prog 65 (tyOf Tryd.prog) gl [1, 3]) _ [(0, .ptr 1 0), (1, .p (.v (.int .i64 k))), (2, .p (.bs b)), (3, .clo 43 [])] [(1, ⟨63, 4, 4, true, .cells [.p (.bs G), .p (.v (.int .i64 e)), .own 2 0 ((L).length), .own 3 0 ((p).length)]⟩), (2, ⟨45, 3, (L).length * 3, true, .rows (pR L)⟩), (3, ⟨64, 1, (p).length, true, .rows (kV p)⟩)] _
 refine HT.seq (HT.region S_htakeA_ok (Sq (V.as (v := .p (.v (.int .i64 0))) rfl (Sq (V.as (v := .p (.v (.int .i64 0))) rfl (So.e (HT.seq (HT.region S_htakeA_ok (Sq (V.mv (v := .clo 43 []) rfl (Sq (V.mv (v := .p (.bs _)) rfl ?_))))))))))))
 refine So.n (lk rfl) (A.call0 [.p (.bs _)] 4 rfl rfl rfl rfl ⟨trivial, trivial⟩ ⟨lk rfl, lk rfl, trivial⟩ _ ⟨.refl _, trivial⟩ trivial (by trivial) tT (.inl rfl) (v := .tup 3 _) rfl (O' := _) rfl (fun h1 => ?_))
 refine Sq (V.mv (v := .tup 3 _) rfl (Sq (V.ext rfl (lk rfl) (v := .p (.v (.bool _))) rfl (Sq (V.ext rfl (lk rfl) (v := .p (.v (.bool _))) rfl (Sq (V.ei rfl rfl (Sq (V.as (v := .p (.v (.bool _))) rfl (Sq (V.as (v := .p (.v (.bool _))) rfl (Sq (V.ai rfl (So.e (HT.seq (HT.block (HT.seq (HT.region S_htakeA_ok (Sq (V.mi rfl (Sq (V.bin (a := .v (.int .i64 _)) (b := .v (.int .i64 0)) (r := .v (.bool _)) rfl rfl rfl trivial (Sq (V.as (v := .p (.v (.bool _))) rfl (So.e ?_)))))))))))))))))))))))))
 refine R.cond rfl rfl (fun h2 => ?_) (fun h2 => ?_)
 ·have h2 := of_decide_eq_false (bnT h2)
  refine HT.seq (HT.region S_htakeA_ok (Sq (V.mi rfl (Sq (V.as (v := .p (.v (.int .i64 0))) rfl (Sq (V.ai rfl (So.e ?_))))))))
  refine HT.ret ?_
  have hR := th_1 (e := e) (L := L) (k := k) (b := b) (l := (lookA b)) (by assumption)
  exact ret_ok (sg [(1, 1), (2, 2), (3, 3)]) h rfl rfl rfl ⟨⟨trivial, trivial, rfl, rfl, trivial⟩, trivial, trivial, trivial⟩ ⟨trivial, trivial, trivial⟩ rfl ⟨⟨⟨le_int (by (rw [hR]; done)), trivial⟩, ⟨le_int (by (rw [hR]; done)), trivial⟩, trivial⟩, ⟨⟨_, rfl, .inl (by rw [hR]; rfl), ⟨trivial, trivial, rfl, rfl, trivial⟩⟩, ⟨_, rfl, .inr (ob_rows (by rw [hR]; done) (by intro j hj; rw [hR]; done)), trivial⟩, ⟨_, rfl, .inl rfl, trivial⟩, trivial⟩⟩
 ·have h2 := of_decide_eq_true (bnF h2)
  refine HT.seq (HT.region S_htakeA_ok (Sq (V.mv (v := .p (.v (.bool _))) rfl (Sq (V.not rfl (Sq (V.as (v := .p (.v (.bool _))) rfl (So.e ?_))))))))
  refine R.cond rfl rfl (fun h3 => ?_) (fun h3 => ?_)
  ·refine HT.seq ?_
   refine HT.region S_htakeA_ok (Sq (V.as (v := .p (.v (.int .i64 0))) rfl (Sq (V.as (v := .p (.v (.int .i64 221))) rfl (So.e ?_)))))
   refine HT.ret ?_
   have hR := th_2 (e := e) (L := L) (k := k) (b := b) (l := (lookA b)) (by omega) (by exact (Bool.not_eq_true' _).mp (by assumption))
   exact ret_ok (sg [(1, 1), (2, 2), (3, 3)]) h rfl rfl rfl ⟨⟨trivial, trivial, rfl, rfl, trivial⟩, trivial, trivial, trivial⟩ ⟨trivial, trivial, trivial⟩ rfl ⟨⟨⟨le_int (by (rw [hR]; done)), trivial⟩, ⟨le_int (by (rw [hR]; done)), trivial⟩, trivial⟩, ⟨⟨_, rfl, .inl (by rw [hR]; rfl), ⟨trivial, trivial, rfl, rfl, trivial⟩⟩, ⟨_, rfl, .inr (ob_rows (by rw [hR]; done) (by intro j hj; rw [hR]; done)), trivial⟩, ⟨_, rfl, .inl rfl, trivial⟩, trivial⟩⟩
  ·refine HT.seq ?_
   refine HT.region S_htakeA_ok (Sq (V.mv (v := .ptr 1 0) rfl (Sq (V.ncPtr rfl (Sq (V.fa ty63 rfl ty56 rfl rfl (Sq (V.ld ty56 rfl rfl rfl (v := .own 2 0 _) rfl (Sq (V.len ty56 (v := .own 2 0 _) rfl rfl (Sq (V.bin (a := .v (.int .i64 _)) (b := .v (.int .i64 1000)) (r := .v (.bool _)) rfl rfl rfl trivial (Sq (V.as (v := .p (.v (.bool _))) rfl (So.e ?_)))))))))))))))
   refine R.cd rfl rfl (fun h4 => ?_) (fun h4 => ?_)
   ·refine HT.seq (HT.region S_htakeA_ok (Sq (V.as (v := .p (.v (.int .i64 0))) rfl (Sq (V.as (v := .p (.v (.int .i64 2))) rfl (So.e ?_))))))
    refine HT.ret ?_
    have hR := th_3 (e := e) (L := L) (k := k) (b := b) (l := (lookA b)) (by omega) (by exact (Bool.not_eq_false' _).mp (by assumption)) (by omega)
    exact ret_ok (sg [(1, 1), (2, 2), (3, 3)]) h rfl rfl rfl ⟨⟨trivial, trivial, rfl, rfl, trivial⟩, trivial, trivial, trivial⟩ ⟨trivial, trivial, trivial⟩ rfl ⟨⟨⟨le_int (by (rw [hR]; done)), trivial⟩, ⟨le_int (by (rw [hR]; done)), trivial⟩, trivial⟩, ⟨⟨_, rfl, .inl (by rw [hR]; rfl), ⟨trivial, trivial, rfl, rfl, trivial⟩⟩, ⟨_, rfl, .inr (ob_rows (by rw [hR]; done) (by intro j hj; rw [hR]; done)), trivial⟩, ⟨_, rfl, .inl rfl, trivial⟩, trivial⟩⟩
   ·refine HT.skip (HT.seq ?_)
    refine HT.planS S_htakeA_ok S_htakeA_det mixed [] [⟨[0, 1, 2, 3, 4, 5, 6, 7, 8, 9, 10, 11], 12, [0, 1, 2, 3, 4]⟩, ⟨[0, 1, 2, 3, 4], 13, [0, 1, 2, 3, 4]⟩, ⟨[0, 1, 2, 3, 4], 14, [0]⟩, ⟨[0, 15, 16], 17, []⟩] (by kernel_rfl) ?_
    refine Pl.lk ?_
    refine Sj rfl (V.mv (v := .ptr 1 0) rfl (Sj rfl (V.mv (v := .ptr 1 0) rfl (Sj rfl (V.ncPtr rfl (Sj rfl (V.fa ty63 rfl ty56 rfl rfl (Sj rfl (V.ld ty56 rfl rfl rfl (v := .own 2 0 _) rfl (Sj rfl (V.mi rfl (Sj rfl (V.mv (v := .ptr 1 0) rfl (Sj rfl (V.ncPtr rfl (Sj rfl (V.fa ty63 rfl ty2 rfl rfl (Sj rfl (V.ld ty2 rfl rfl rfl (v := .p (.v (.int .i64 _))) rfl (Sj rfl (V.mv (v := .p (.bs _)) rfl ?_)))))))))))))))))))))
    refine Sj rfl (V.call [.p (.bs _)] 4 rfl rfl rfl rfl ⟨trivial, trivial⟩ ⟨lk rfl, lk rfl, trivial⟩ _ ⟨.refl _, trivial⟩ trivial (by omega) tT (.inl ⟨trivial, trivial⟩) (v := .p (.bs _)) rfl (fun h5 => ?_))
    refine Si.e ?_
    refine ⟨flEq_nil, fun ff => ?_⟩
    refine Lo.n rfl (lk rfl) (A.bldS ty45 rfl rfl ⟨by exact rfl, by exact rfl, by exact trivial, trivial⟩ rfl (f := fun j => ([.v (.int .i64 k), .v (.int .i64 e), .bs b] : List PV).getD j (.v undef)) (by exact allP_spec (P := fun j => _ = _) ⟨⟨⟨trivial, rfl⟩, rfl⟩, (congrArg (fun x => BV.p (PV.bs x)) (take_full b))⟩) ?_)
    refine ⟨_, fun ff => ff, ap0d, rfl, FG.id, ?_⟩
    show planA _ _ _ _ _ [(0, .ptr 1 0), (1, .ptr 1 0), (2, .ptr 1 0), (3, .ptr 1 2), (4, .own 2 0 _)] _ _ _
    refine Pl.lk ?_
    refine Sj rfl (V.mv (v := .ptr 1 0) rfl (Sj rfl (V.mv (v := .ptr 1 0) rfl (Sj rfl (V.ncPtr rfl (Sj rfl (V.fa ty63 rfl ty56 rfl rfl (Sj rfl (V.ld ty56 rfl rfl rfl (v := .own 2 0 _) rfl (Si.e ?_))))))))))
    refine ⟨(flEq_cons rfl (flEq_cons rfl (flEq_cons rfl (flEq_cons rfl (flEq_cons rfl flEq_nil))))), fun ff => ?_⟩
    refine Lo.n rfl (lk rfl) (A.bsl 4 ty56 ty45 rfl (lk rfl) (lk rfl) (fun h => Bool.noConfusion (show false = true from h)) rfl rfl ⟨lk rfl, lk rfl, trivial⟩ ⟨(fun j hj => by match j, hj with | 0, _ => (trivial) | 1, _ => (trivial) | 2, _ => (trivial)), trivial⟩ rfl (N := 3) rfl (c := .rows _) rfl ?_)
    refine ⟨_, fun ff => ff, ap0d, rfl, FG.id, ?_⟩
    show planA _ _ _ _ _ [(0, .ptr 1 0), (1, .ptr 1 0), (2, .ptr 1 0), (3, .ptr 1 2), (4, .own 2 0 _)] _ _ _
    refine Pl.lk ?_
    refine Sj rfl (V.mv (v := .ptr 1 0) rfl (Sj rfl (V.mv (v := .ptr 1 0) rfl (Sj rfl (V.ncPtr rfl (Sj rfl (V.fa ty63 rfl ty56 rfl rfl (Sj rfl (V.ld ty56 rfl rfl rfl (v := .own 2 0 _) rfl (Si.e ?_))))))))))
    refine ⟨(flEq_cons rfl (flEq_cons rfl (flEq_cons rfl (flEq_cons rfl (flEq_cons rfl flEq_nil))))), fun ff => ?_⟩
    refine Lo.n rfl (lk rfl) (A.apRows ty56 ty45 rfl rfl rfl (lk rfl) (lk rfl) rfl rfl (u := .own 4 0 _) rfl rfl (by intro j hj; match j, hj with | 0, _ => rfl | 1, _ => rfl | 2, _ => trivial) rfl (by (simp; omega)) rfl rfl rfl ?_)
    refine ⟨_, fun ff => Fr.kill 2 ff, ap1d, rfl, (FG.kill 2 (flP_cons rfl flP_nil)), ?_⟩
    show planA _ _ _ _ _ [(0, .ptr 1 0)] _ _ _
    refine Pl.l0 ?_
    refine Sj rfl (V.mv (v := .ptr 1 0) rfl (Sj rfl (V.ncPtr rfl (Sj rfl (V.fa ty63 rfl ty56 rfl rfl (Si.e ?_))))))
    refine ⟨(flEq_cons rfl flEq_nil), ?_⟩
    refine Lo.s rfl (A.sto ty56 rfl rfl rfl (v := .own 2 0 _) rfl trivial rfl (lk rfl) rfl rfl ?_)
    refine Pl.e ?_
    refine Si.e ?_
    refine ⟨flEq_nil, ?_⟩
    refine HT.seq (HT.seq (HT.region S_htakeA_ok (Sq (V.mv (v := .p (.v (.bool _))) rfl (So.e ?_)))))
    refine R.cond rfl rfl (fun h6 => ?_) (fun h6 => ?_)
    ·refine HT.region S_htakeA_ok ?_
     refine Sq (V.mv (v := .ptr 1 0) rfl (Sq (V.ncPtr rfl (Sq (V.fa ty63 rfl ty2 rfl rfl (Sq (V.ld ty2 rfl rfl rfl (v := .p (.v (.int .i64 _))) rfl (Sq (V.addI rfl rfl (by omega) (Sq (V.ncPtr rfl (Sq (V.fa ty63 rfl ty2 rfl rfl (So.s (A.sto ty2 rfl rfl rfl (v := .p (.v (.int .i64 _))) rfl rfl rfl (lk rfl) rfl rfl (So.e (HT.seq (HT.region S_htakeA_ok (Sq (V.mv (v := .ptr 1 0) rfl (Sq (V.ncPtr rfl (Sq (V.fa ty63 rfl ty56 rfl rfl (Sq (V.ld ty56 rfl rfl rfl (v := .own 2 0 _) rfl (Sq (V.len ty56 (v := .own 2 0 _) rfl rfl (Sq (V.subI rfl rfl (by omega) (Sq (V.ai rfl (Sq (V.as (v := .p (.v (.int .i64 0))) rfl (So.e ?_)))))))))))))))))))))))))))))))))))
     refine HT.ret ?_
     have hR := th_4 (e := e) (L := L) (k := k) (b := b) (l := (lookA b)) (by omega) (by exact (Bool.not_eq_false' _).mp (by assumption)) (by omega) (by assumption)
     exact ret_ok (sg [(1, 1), (2, 2), (3, 3)]) h rfl rfl rfl ⟨⟨trivial, trivial, rfl, rfl, trivial⟩, trivial, trivial, trivial⟩ ⟨trivial, trivial, trivial⟩ rfl ⟨⟨⟨le_int (by (rw [hR]; dsimp only; omega)), trivial⟩, ⟨le_int (by (rw [hR]; done)), trivial⟩, trivial⟩, ⟨⟨_, rfl, .inl (by rw [hR, List.length_append]; rfl), ⟨trivial, trivial, rfl, rfl, trivial⟩⟩, ⟨_, rfl, .inr (ob_rows (by rw [hR, List.length_append]; rfl) (by intro j hj; rw [hR]; exact pR_up2 L k e b j hj)), trivial⟩, ⟨_, rfl, .inl rfl, trivial⟩, trivial⟩⟩
    ·refine HT.skip ?_
     refine HT.seq (HT.region S_htakeA_ok (Sq (V.mv (v := .ptr 1 0) rfl (Sq (V.ncPtr rfl (Sq (V.fa ty63 rfl ty56 rfl rfl (Sq (V.ld ty56 rfl rfl rfl (v := .own 2 0 _) rfl (Sq (V.len ty56 (v := .own 2 0 _) rfl rfl (Sq (V.subI rfl rfl (by omega) (Sq (V.ai rfl (Sq (V.as (v := .p (.v (.int .i64 0))) rfl (So.e ?_))))))))))))))))))
     refine HT.ret ?_
     have hR := th_5 (e := e) (L := L) (k := k) (b := b) (l := (lookA b)) (by omega) (by exact (Bool.not_eq_false' _).mp (by assumption)) (by omega) (by assumption)
     exact ret_ok (sg [(1, 1), (2, 2), (3, 3)]) h rfl rfl rfl ⟨⟨trivial, trivial, rfl, rfl, trivial⟩, trivial, trivial, trivial⟩ ⟨trivial, trivial, trivial⟩ rfl ⟨⟨⟨le_int (by (rw [hR]; dsimp only; omega)), trivial⟩, ⟨le_int (by (rw [hR]; done)), trivial⟩, trivial⟩, ⟨⟨_, rfl, .inl (by rw [hR, List.length_append]; rfl), ⟨trivial, trivial, rfl, rfl, trivial⟩⟩, ⟨_, rfl, .inr (ob_rows (by rw [hR, List.length_append]; rfl) (by intro j hj; rw [hR]; exact pR_up2 L k e b j hj)), trivial⟩, ⟨_, rfl, .inl rfl, trivial⟩, trivial⟩⟩
def hWelcomeSp : Sp := ⟨[1, 3], mkE (α := (List UInt8) × Int × PLs × PKs × (List UInt8)) (fun (G, e, L, p, b) => [.ptr 1 0, .p (.bs b)]) (fun (G, e, L, p, b) => [(1, ⟨63, 4, 4, true, .cells [.p (.bs G), .p (.v (.int .i64 e)), .own 2 0 ((L).length), .own 3 0 ((p).length)]⟩), (2, ⟨45, 3, (L).length * 3, true, .rows (pR L)⟩), (3, ⟨64, 1, (p).length, true, .rows (kV p)⟩)]) (fun (G, e, L, p, b) => L.length <= 1000 /\ 0 <= e /\ e <= 1000000 /\ b.length <= 1000000000) (fun (G, e, L, p, b) => [.p (.v (.int .i64 ((takeH e L 2 b (lookA b)).n))), .p (.v (.int .i64 ((takeH e L 2 b (lookA b)).r)))]) (fun (G, e, L, p, b) => [(1, ⟨63, 4, 4, true, .cells [.p (.bs G), .p (.v (.int .i64 ((takeH e L 2 b (lookA b)).e))), .own 2 0 (((takeH e L 2 b (lookA b)).L).length), .own 3 0 ((p).length)]⟩), (2, ⟨45, 3, ((takeH e L 2 b (lookA b)).L).length * 3, true, .rows (pR ((takeH e L 2 b (lookA b)).L))⟩), (3, ⟨64, 1, (p).length, true, .rows (kV p)⟩)])⟩
def S_hWelcome : FuncId -> Option Sp := fun f => if f = 31 then some htakeASp else none
theorem S_hWelcome_ok : ∀ f s, S_hWelcome f = some s -> FOK Tryd.prog gl f s := sI htakeA_ok sN
theorem hWelcome_ok : FOK Tryd.prog gl 23 hWelcomeSp := by
 refine FOK.ofE (tyOf_ok Tryd.prog) (slots := [4, 5]) (nt := 11) Tryd.func23 rfl rfl rfl rfl (by decide) 2 (fun ⟨_, _, _, _, _⟩ => rfl) (by decide) (fun ⟨_, _, _, _, _⟩ => ⟨rfl, trivial, trivial⟩) ?_
 rintro ⟨G, e, L, p, b⟩ kk hlen hpre h
 have hl1 : (b).length <= 9223372036854775807 := hlen.2.1
 replace hpre : L.length <= 1000 /\ 0 <= e /\ e <= 1000000 /\ b.length <= 1000000000 := hpre
 show HT (cx Tryd.prog 11 (tyOf Tryd.prog) gl [1, 3]) _ [(0, .ptr 1 0), (1, .p (.bs b))] [(1, ⟨63, 4, 4, true, .cells [.p (.bs G), .p (.v (.int .i64 e)), .own 2 0 ((L).length), .own 3 0 ((p).length)]⟩), (2, ⟨45, 3, (L).length * 3, true, .rows (pR L)⟩), (3, ⟨64, 1, (p).length, true, .rows (kV p)⟩)] _
 refine HT.seq (HT.region S_hWelcome_ok (Sq (V.as (v := .p (.v (.int .i64 0))) rfl (Sq (V.as (v := .p (.v (.int .i64 0))) rfl (So.e (HT.seq (HT.region S_hWelcome_ok (Sq (V.mv (v := .ptr 1 0) rfl (Sq (V.mv (v := .p (.bs _)) rfl ?_))))))))))))
 refine So.n (lk rfl) (A.call [.ptr 1 _, .p (.v (.int .i64 _)), .p (.bs _), .clo 43 []] [(1, ⟨_, _, _, _, .cells [.p (.bs _), .p (.v (.int .i64 _)), .own 2 0 _, .own 3 0 _]⟩), (2, ⟨_, _, _, _, .rows _⟩), (3, ⟨_, _, _, _, .rows _⟩)] (sg [(1, 1), (2, 2), (3, 3)]) 4 rfl rfl rfl rfl ⟨rfl, rfl, rfl, trivial⟩ rfl ⟨⟨trivial, trivial, rfl, rfl, trivial⟩, trivial, trivial, trivial⟩ ⟨rfl, trivial, trivial, trivial, trivial⟩ ⟨lk rfl, lk rfl, trivial⟩ rfl (G, e, L, p, 2, b) ⟨.refl _, .refl _, .refl _, .refl _, trivial⟩ ⟨⟨_, rfl, .inl rfl, ⟨trivial, trivial, rfl, rfl, trivial⟩⟩, ⟨_, rfl, .inl rfl, trivial⟩, ⟨_, rfl, .inl rfl, trivial⟩, trivial⟩ (by omega) tT ⟨⟨_, _, rfl, rfl, rfl, Nat.le_refl _⟩, ⟨_, _, rfl, rfl, rfl, Nat.le_refl _⟩, trivial⟩ (.inl rfl) rfl (v := .tup 2 _) rfl (O' := (1, ⟨_, _, _, _, .cells _⟩) :: (6, ⟨_, _, _, _, .rows _⟩) :: (3, ⟨_, _, _, _, .rows _⟩) :: _) rfl (fun h1 => ?_))
 refine Sq (V.ei rfl rfl (Sq (V.ei rfl rfl (Sq (V.ai rfl (Sq (V.ai rfl (So.e ?_))))))))
 refine HT.ret ?_
 exact ret_ok (sg [(1, 1), (2, 6), (3, 3)]) h rfl rfl rfl ⟨⟨trivial, trivial, rfl, rfl, trivial⟩, trivial, trivial, trivial⟩ ⟨trivial, trivial, trivial⟩ rfl ⟨⟨⟨le_int (by rfl), trivial⟩, ⟨le_int (by rfl), trivial⟩, trivial⟩, ⟨⟨_, rfl, .inl (by rfl), ⟨trivial, trivial, rfl, rfl, trivial⟩⟩, ⟨_, rfl, .inr (ob_rows (by rfl) (by simp; done)), trivial⟩, ⟨_, rfl, .inr (ob_rows (by rfl) (by simp; done)), trivial⟩, trivial⟩⟩
def hatSp : Sp := ⟨[1, 2, 3], mkE (α := (List UInt8) × Int × PLs × PKs × Int) (fun (G, e, L, p, i) => [.ptr 1 0, .p (.v (.int .i64 i))]) (fun (G, e, L, p, i) => [(1, ⟨63, 4, 4, true, .cells [.p (.bs G), .p (.v (.int .i64 e)), .own 2 0 ((L).length), .own 3 0 ((p).length)]⟩), (2, ⟨45, 3, (L).length * 3, true, .rows (pR L)⟩), (3, ⟨64, 1, (p).length, true, .rows (kV p)⟩)]) (fun (G, e, L, p, i) => few L /\ L.length <= 1000) (fun (G, e, L, p, i) => [.agg 3 (fun j => ([.v (.int .i64 (atK L i)), .v (.int .i64 (atE L i)), .bs (atB L i)] : List PV).getD j (.v undef)), .p (.v (.int .i64 (atR L i)))]) (fun (G, e, L, p, i) => [(1, ⟨63, 4, 4, true, .cells [.p (.bs G), .p (.v (.int .i64 e)), .own 2 0 ((L).length), .own 3 0 ((p).length)]⟩), (2, ⟨45, 3, (L).length * 3, true, .rows (pR L)⟩), (3, ⟨64, 1, (p).length, true, .rows (kV p)⟩)])⟩
def S_hat : FuncId -> Option Sp := fun f => if f = 30 then some cloneSp else none
theorem S_hat_ok : ∀ f s, S_hat f = some s -> FOK Tryd.prog gl f s := sI clone_ok sN
theorem hat_ok : FOK Tryd.prog gl 18 hatSp := by
 refine FOK.ofEC (tyOf_ok Tryd.prog) (rvs := [.cell 4 45, .tmp 5]) (nt := 31) Tryd.func18 rfl rfl rfl rfl (by decide) 2 (fun ⟨_, _, _, _, _⟩ => rfl) (by decide) (fun ⟨_, _, _, _, _⟩ => ⟨rfl, trivial, trivial⟩) ?_
 rintro ⟨G, e, L, p, i⟩ kk hlen hpre h
 replace hpre : few L /\ L.length <= 1000 := hpre
 show HT (cx Tryd.prog 31 (tyOf Tryd.prog) gl [1, 2, 3]) _ [(0, .ptr 1 0), (1, .p (.v (.int .i64 i)))] [(1, ⟨63, 4, 4, true, .cells [.p (.bs G), .p (.v (.int .i64 e)), .own 2 0 ((L).length), .own 3 0 ((p).length)]⟩), (2, ⟨45, 3, (L).length * 3, true, .rows (pR L)⟩), (3, ⟨64, 1, (p).length, true, .rows (kV p)⟩)] _
 refine HT.seq (HT.region S_hat_ok (So.n (lk rfl) (A.alloc 4 1 ty45 rfl ⟨lk rfl, lk rfl, lk rfl, trivial⟩ (f := fun j => ([.v (.int .i64 0), .v (.int .i64 0), .v (.slice none 0 0)] : List PV).getD j (.v undef)) (fun j hj => by match j, hj with | 0, _ => rfl | 1, _ => rfl | 2, _ => rfl) (Sq (V.as (v := .p (.v (.int .i64 0))) rfl (So.e (HT.seq (HT.seq (HT.region S_hat_ok (Sq (V.mi rfl (Sq (V.bin (a := .v (.int .i64 _)) (b := .v (.int .i64 0)) (r := .v (.bool _)) rfl rfl rfl trivial (Sq (V.mv (v := .p (.v (.bool _))) rfl ?_)))))))))))))))
 refine So.gd rfl rfl (lk rfl) (lk rfl) (fun h1 => ?_) (fun h1 => ?_)
 ·have h1 := of_decide_eq_false h1
  refine A.v rfl (V.mi rfl (So.gy rfl rfl (lk rfl) (lk rfl) (A.v rfl (V.mv (v := .ptr 1 0) rfl (So.gy rfl rfl (lk rfl) (lk rfl) (A.v rfl (V.ncPtr rfl (So.gy rfl rfl (lk rfl) (lk rfl) (A.v rfl (V.fa ty63 rfl ty56 rfl rfl (So.gy rfl rfl (lk rfl) (lk rfl) (A.v rfl (V.ld ty56 rfl rfl rfl (v := .own 2 0 _) rfl (So.gy rfl rfl (lk rfl) (lk rfl) (A.v rfl (V.len ty56 (v := .own 2 0 _) rfl rfl (So.gy rfl rfl (lk rfl) (lk rfl) (A.v rfl (V.bin (a := .v (.int .i64 _)) (b := .v (.int .i64 _)) (r := .v (.bool _)) rfl rfl rfl trivial (Sq (V.pkFalse (u := .p (.v (.bool _))) rfl rfl (So.e ?_))))))))))))))))))))))
  refine R.cd rfl rfl (fun h2 => ?_) (fun h2 => ?_)
  ·refine HT.seq (HT.region S_hat_ok (So.n (lk rfl) (A.bldS ty45 rfl rfl trivial rfl (f := fun j => ([.v (.int .i64 0), .v (.int .i64 0), .v (.slice none 0 0)] : List PV).getD j (.v undef)) (by exact allP_spec (P := fun j => _ = _) ⟨⟨⟨trivial, rfl⟩, rfl⟩, rfl⟩) (So.s (A.stoAg ty45 rfl (n := 3) rfl (by decide) (by intro j hj; (match j, hj with | 0, _ => (trivial) | 1, _ => (trivial) | 2, _ => (trivial))) rfl rfl rfl (Sq (V.as (v := .p (.v (.int .i64 1))) rfl (So.e ?_))))))))
   refine HT.ret ?_
   have hA := at_no (L := L) (i := i) (fun q => by omega)
   obtain ⟨hA0, hA1, hA2, hA3⟩ := hA
   exact retC_ok (sg [(1, 1), (2, 2), (3, 3)]) [(4, .ptr 4 0), (5, .p (.v (.int .i64 (atR L i))))] [(4, ⟨45, 1, 3, true, .rows (fun j => ([.v (.int .i64 (atK L i)), .v (.int .i64 (atE L i)), .bs (atB L i)] : List PV).getD j (.v undef))⟩), (1, ⟨63, 4, 4, true, .cells [.p (.bs G), .p (.v (.int .i64 e)), .own 2 0 ((L).length), .own 3 0 ((p).length)]⟩), (2, ⟨45, 3, (L).length * 3, true, .rows (pR L)⟩), (3, ⟨64, 1, (p).length, true, .rows (kV p)⟩)] h ⟨⟨⟨.refl _, rfl⟩, ⟨le_int (by exact hA3.symm), trivial⟩, trivial⟩, ⟨⟨_, rfl, .inr (ob_rowsL (by intro j hj; match j, hj with | 0, _ => exact le_int hA0.symm | 1, _ => exact le_int hA1.symm | 2, _ => (exact le_nil hA2))), trivial⟩, ⟨_, rfl, .inl (by rfl), ⟨trivial, trivial, rfl, rfl, trivial⟩⟩, ⟨_, rfl, .inl rfl, trivial⟩, ⟨_, rfl, .inl rfl, trivial⟩, trivial⟩⟩ ⟨rvA_cell ty45 rfl rfl rfl rfl (Nat.le_refl _) (le_agg (fun j _ => by (dsimp only; rw [Nat.zero_add]))), .refl _, trivial⟩ ⟨rfl, rfl, rfl, trivial⟩ rfl ⟨⟨trivial, trivial, rfl, rfl, trivial⟩, trivial, trivial, trivial⟩ ⟨trivial, trivial, trivial⟩ rfl
  ·refine HT.skip (HT.seq (HT.region S_hat_ok ?_))
   have hpl := hpre.1 i.toNat (by omega)
   refine Sq (V.mv (v := .ptr 1 0) rfl (Sq (V.ncPtr rfl (Sq (V.fa ty63 rfl ty56 rfl rfl (Sq (V.ld ty56 rfl rfl rfl (v := .own 2 0 _) rfl (Sq (V.mi rfl (Sq (V.ixOwnS0 (mi := i.toNat) ty56 ty45 (s := 3) rfl rfl rfl rfl rfl (by omega) (by omega) (Sq (V.ldPtrA ty45 rfl rfl rfl rfl (by (simp; omega)) (So.n (lk rfl) (A.alloc 5 1 ty45 rfl ⟨lk rfl, lk rfl, lk rfl, trivial⟩ (f := fun j => ([.v (.int .i64 0), .v (.int .i64 0), .v (.slice none 0 0)] : List PV).getD j (.v undef)) (fun j hj => by match j, hj with | 0, _ => rfl | 1, _ => rfl | 2, _ => rfl) (So.s (A.stoAg ty45 rfl (n := 3) rfl (by decide) (by intro j hj; exact pR_oneB _ _) rfl rfl rfl (So.e (HT.seq ?_)))))))))))))))))))
   refine R.tell [] [(5, ⟨45, 1, 3, true, .rows (fun j => ([.v (.int .i64 (pK L i.toNat)), .v (.int .i64 (pE L i.toNat)), .bs (pB L i.toNat)] : List PV).getD j (.v undef))⟩)] [4, 5, 6] [1, 2, 3, 4] (fr0 := [(4, .ptr 4 0), (5, .p (.v (.int .i64 _))), (6, .ptr 5 0)]) (O0 := [(1, ⟨_, _, _, _, .cells [.p (.bs _), .p (.v (.int .i64 _)), .own 2 0 _, .own 3 0 _]⟩), (2, ⟨_, _, _, _, .rows _⟩), (3, ⟨_, _, _, _, .rows _⟩), (4, ⟨_, _, _, _, .rows _⟩)]) rfl rfl ⟨⟨⟨.refl _, rfl⟩, ⟨.refl _, trivial⟩, ⟨.refl _, rfl⟩, trivial⟩, ⟨⟨_, rfl, .inr (ob_rowsL (by intro j hj; match j, hj with | 0, _ => exact le_eqB (pR_0 L _) | 1, _ => exact le_eqB (pR_1 L _) | 2, _ => exact le_eqB (pR_2 L _))), trivial⟩, ⟨_, rfl, .inl rfl, ⟨trivial, trivial, rfl, rfl, trivial⟩⟩, ⟨_, rfl, .inl rfl, trivial⟩, ⟨_, rfl, .inl rfl, trivial⟩, ⟨_, rfl, .inl rfl, trivial⟩, trivial⟩⟩ ?_
   refine HT.region S_hat_ok (Sq (V.fa ty45 rfl ty23 rfl rfl (Sq (V.ld ty23 rfl rfl rfl (v := .p (.bs _)) rfl ?_))))
   refine So.n (lk rfl) (A.call0 [.p (.bs _)] 6 rfl rfl rfl rfl ⟨trivial, trivial⟩ ⟨lk rfl, lk rfl, lk rfl, trivial⟩ _ ⟨.refl _, trivial⟩ trivial (by omega) tT (.inl rfl) (v := .own 7 0 _) rfl (O' := (7, ⟨5, 1, _, true, .bs _⟩) :: _) rfl (fun h3 => ?_))
   refine Sq (V.fa ty45 rfl ty23 rfl rfl (So.s (A.stoF ty23 rfl rfl rfl rfl rfl rfl rfl (v := .p (.bs _)) rfl trivial rfl (lk rfl) rfl rfl (So.e (HT.seq (HT.region S_hat_ok (Sq (V.ldPtrA ty45 rfl rfl rfl rfl (lk rfl) (So.s (A.stoAg ty45 rfl (n := 3) rfl (by decide) (by intro j hj; (match j, hj with | 0, _ => (trivial) | 1, _ => (trivial) | 2, _ => (trivial))) rfl rfl rfl (Sq (V.as (v := .p (.v (.int .i64 0))) rfl (So.e ?_)))))))))))))
   refine HT.ret ?_
   have hA := at_yes (L := L) (i := i) ⟨by omega, by omega⟩
   obtain ⟨hA0, hA1, hA2, hA3⟩ := hA
   exact retC_ok (sg [(1, 1), (2, 2), (3, 3)]) [(4, .ptr 4 0), (5, .p (.v (.int .i64 (atR L i))))] [(4, ⟨45, 1, 3, true, .rows (fun j => ([.v (.int .i64 (atK L i)), .v (.int .i64 (atE L i)), .bs (atB L i)] : List PV).getD j (.v undef))⟩), (1, ⟨63, 4, 4, true, .cells [.p (.bs G), .p (.v (.int .i64 e)), .own 2 0 ((L).length), .own 3 0 ((p).length)]⟩), (2, ⟨45, 3, (L).length * 3, true, .rows (pR L)⟩), (3, ⟨64, 1, (p).length, true, .rows (kV p)⟩)] h ⟨⟨⟨.refl _, rfl⟩, ⟨le_int (by exact hA3.symm), trivial⟩, trivial⟩, ⟨⟨_, rfl, .inr (ob_rowsL (by intro j hj; match j, hj with | 0, _ => exact le_int hA0.symm | 1, _ => exact le_int hA1.symm | 2, _ => (exact le_bs ((take_full _).trans hA2.symm)))), trivial⟩, ⟨_, rfl, .inl (by rfl), ⟨trivial, trivial, rfl, rfl, trivial⟩⟩, ⟨_, rfl, .inl rfl, trivial⟩, ⟨_, rfl, .inl rfl, trivial⟩, trivial⟩⟩ ⟨rvA_cell ty45 rfl rfl rfl rfl (Nat.le_refl _) (le_agg (fun j _ => by (dsimp only; rw [Nat.zero_add]))), .refl _, trivial⟩ ⟨rfl, rfl, rfl, trivial⟩ rfl ⟨⟨trivial, trivial, rfl, rfl, trivial⟩, trivial, trivial, trivial⟩ ⟨trivial, trivial, trivial⟩ rfl
 ·have h1 := of_decide_eq_true h1
  refine So.gn (b := true) rfl rfl rfl (lk rfl) (lk rfl) (So.gn (b := true) rfl rfl rfl (lk rfl) (lk rfl) (So.gn (b := true) rfl rfl rfl (lk rfl) (lk rfl) (So.gn (b := true) rfl rfl rfl (lk rfl) (lk rfl) (So.gn (b := true) rfl rfl rfl (lk rfl) (lk rfl) (So.gn (b := true) rfl rfl rfl (lk rfl) (lk rfl) (Sq (V.pkTrue (u := .p (.v (.bool true))) rfl rfl (So.e ?_))))))))
  refine R.condT rfl ?_
  refine HT.seq (HT.region S_hat_ok (So.n (lk rfl) (A.bldS ty45 rfl rfl trivial rfl (f := fun j => ([.v (.int .i64 0), .v (.int .i64 0), .v (.slice none 0 0)] : List PV).getD j (.v undef)) (by exact allP_spec (P := fun j => _ = _) ⟨⟨⟨trivial, rfl⟩, rfl⟩, rfl⟩) (So.s (A.stoAg ty45 rfl (n := 3) rfl (by decide) (by intro j hj; (match j, hj with | 0, _ => (trivial) | 1, _ => (trivial) | 2, _ => (trivial))) rfl rfl rfl (Sq (V.as (v := .p (.v (.int .i64 1))) rfl (So.e ?_))))))))
  refine HT.ret ?_
  have hA := at_no (L := L) (i := i) (fun q => by omega)
  obtain ⟨hA0, hA1, hA2, hA3⟩ := hA
  exact retC_ok (sg [(1, 1), (2, 2), (3, 3)]) [(4, .ptr 4 0), (5, .p (.v (.int .i64 (atR L i))))] [(4, ⟨45, 1, 3, true, .rows (fun j => ([.v (.int .i64 (atK L i)), .v (.int .i64 (atE L i)), .bs (atB L i)] : List PV).getD j (.v undef))⟩), (1, ⟨63, 4, 4, true, .cells [.p (.bs G), .p (.v (.int .i64 e)), .own 2 0 ((L).length), .own 3 0 ((p).length)]⟩), (2, ⟨45, 3, (L).length * 3, true, .rows (pR L)⟩), (3, ⟨64, 1, (p).length, true, .rows (kV p)⟩)] h ⟨⟨⟨.refl _, rfl⟩, ⟨le_int (by exact hA3.symm), trivial⟩, trivial⟩, ⟨⟨_, rfl, .inr (ob_rowsL (by intro j hj; match j, hj with | 0, _ => exact le_int hA0.symm | 1, _ => exact le_int hA1.symm | 2, _ => (exact le_nil hA2))), trivial⟩, ⟨_, rfl, .inl (by rfl), ⟨trivial, trivial, rfl, rfl, trivial⟩⟩, ⟨_, rfl, .inl rfl, trivial⟩, ⟨_, rfl, .inl rfl, trivial⟩, trivial⟩⟩ ⟨rvA_cell ty45 rfl rfl rfl rfl (Nat.le_refl _) (le_agg (fun j _ => by (dsimp only; rw [Nat.zero_add]))), .refl _, trivial⟩ ⟨rfl, rfl, rfl, trivial⟩ rfl ⟨⟨trivial, trivial, rfl, rfl, trivial⟩, trivial, trivial, trivial⟩ ⟨trivial, trivial, trivial⟩ rfl
end Go.Vh
