/- What is proved: each function of the seat's program does what its contract says, wherever it is called; no condition. -/
import Derived.Test.YtdpdgejnfhjomaaDoorWalk0
import Derived.Test.YtdpdgejnfhjomaaDoorWalk1
set_option linter.unusedVariables false
set_option linter.unusedSimpArgs false
namespace Go.Vh
open Go Go.Vc Go.Proofs Go.Vw
def lawStaleSp : Sp := ⟨[], mkE (α := UInt8 × UInt8 × UInt8) (fun (cm, kn, eh) => [.p (.u8 cm), .p (.u8 kn), .p (.u8 eh)]) (fun (cm, kn, eh) => []) (fun (cm, kn, eh) => True) (fun (cm, kn, eh) => [.p (.v (.bool true))]) (fun (cm, kn, eh) => [])⟩
def S_lawStale : FuncId → Option Sp := fun f => if f = 7 then some headSp else if f = 8 then some hnewSp else if f = 12 then some lmsgSp else if f = 11 then some hPostSp else if f = 14 then some lsealSp else if f = 13 then some hTextSp else if f = 15 then some hepochSp else none
theorem S_lawStale_ok : ∀ f s, S_lawStale f = some s → FOK Tryd.prog gl f s := fun f s h => by
 unfold S_lawStale at h
 split at h
 ·rename_i e; cases h; subst e; exact head_ok
 split at h
 ·rename_i e; cases h; subst e; exact hnew_ok
 split at h
 ·rename_i e; cases h; subst e; exact lmsg_ok
 split at h
 ·rename_i e; cases h; subst e; exact hPost_ok
 split at h
 ·rename_i e; cases h; subst e; exact lseal_ok
 split at h
 ·rename_i e; cases h; subst e; exact hText_ok
 split at h
 ·rename_i e; cases h; subst e; exact hepoch_ok
 cases h
set_option maxHeartbeats 1000000 in
set_option maxRecDepth 20000 in
theorem lawStale_ok : FOK Tryd.prog gl 4 lawStaleSp := by
 refine FOK.ofE (tyOf_ok Tryd.prog) (slots := [6]) (nt := 90) Tryd.func4 rfl rfl rfl rfl (by decide) 3 (fun ⟨_, _, _⟩ => rfl) (by decide) (fun ⟨_, _, _⟩ => ⟨trivial, trivial, trivial, trivial⟩) ?_
 rintro ⟨cm, kn, eh⟩ kk hlen hpre h
 replace hpre : True := hpre
 show HT (cx Tryd.prog 90 (tyOf Tryd.prog) gl []) _ [(0, .p (.u8 cm)), (1, .p (.u8 kn)), (2, .p (.u8 eh))] [] _
 have hm8 := mod8u cm
 have hm10 := mod10u eh
 have hm4 := mod4u kn
 refine HT.seq (HT.region S_lawStale_ok (So.q rfl rfl (V.as (v := .p (.v (.bool false))) rfl (So.e (HT.seq (HT.region S_lawStale_ok ?_))))))
 refine So.n (lk rfl) (A.call0 [] 1 rfl rfl rfl rfl trivial trivial () trivial trivial (by trivial) (Φ := fun _ => True) (fun _ _ => trivial) (.inl rfl) (v := .p (.v (.bool true))) rfl (O' := _) rfl (fun h1 => ?_))
 refine So.q rfl rfl (V.as (v := .p (.v (.bool true))) rfl (So.e (HT.seq (HT.region S_lawStale_ok (So.n (lk rfl) (A.bsl 1 ty23 ty5 rfl (lk rfl) (lk rfl) (fun _ => rfl) rfl rfl trivial ⟨trivial, trivial⟩ rfl (N := 1) rfl (c := .bs [_]) rfl (So.n (lk rfl) (A.cvM ty23 ty5 rfl (by omega) rfl rfl ?_))))))))
 refine So.n (lk rfl) (A.frzC S_lawStale_ok 1 rfl rfl rfl (K.call0 [.p (.bs _)] 1 rfl rfl rfl rfl ⟨trivial, trivial⟩ trivial (.inl [103]) ⟨.refl _, trivial⟩ trivial (by (simp; done)) (Φ := fun _ => True) (fun _ _ => trivial) (.inl rfl) (v := .ptr 2 0) rfl (O' := (2, ⟨63, 4, _, true, .cells _⟩) :: (3, ⟨45, 3, _, true, .rows _⟩) :: _) rfl (fun h2 => ?_)))
 refine So.q rfl rfl (V.as (v := .ptr 2 0) rfl (So.e (HT.seq (HT.region S_lawStale_ok (So.q rfl rfl (V.mv (v := .p (.u8 _)) rfl (So.q rfl rfl (V.bin (a := .u8 _) (b := .u8 8) (r := .u8 _) rfl rfl rfl (by (simp; done)) (So.q rfl rfl (V.cvN ty2 ty5 (a := .u8 _) (r := .v (.int .i64 _)) rfl rfl (So.q rfl rfl (V.as (v := .p (.v (.int .i64 _))) rfl (So.e (HT.seq ?_))))))))))))))
 refine HT.seq (HT.region S_lawStale_ok (So.q rfl rfl (V.mv (v := .ptr 2 0) rfl (So.q rfl rfl (V.eqPtr ty25 rfl rfl rfl rfl (So.e ?_))))))
 show HT _ _ _ _ _
 refine R.condF rfl ?_
 refine HT.skip (HT.seq (HT.seq (HT.region S_lawStale_ok (So.q rfl rfl (V.as (v := .p (.v (.int .i64 0))) rfl (So.e (HT.block ?_)))))))
 refine R.loop (σ := Nat) (fun i => [(10, .p (.v (.int .i64 ((i : Int)))))]) (fun i => [(2, ⟨63, 4, 4, true, .cells [.p (.bs ([103])), .p (.v (.int .i64 ((i : Int)))), .own 3 0 ((staleL i).length), .p (.v (.slice none 0 0))]⟩), (3, ⟨45, 3, (staleL i).length * 3, true, .rows (pR (staleL i))⟩)]) [1, 2, 7, 8, 9] [] (fun i => i ≤ (cm % 8).toNat) (fun i => (cm % 8).toNat - i) (0) (fr0 := [(1, .p (.u8 _)), (2, .p (.u8 _)), (7, .p (.v (.bool true))), (8, .ptr 2 0), (9, .p (.v (.int .i64 _)))]) (O0 := []) rfl rfl (by omega) ⟨⟨⟨le_int (by rfl), trivial⟩, ⟨.refl _, trivial⟩, ⟨.refl _, trivial⟩, ⟨.refl _, trivial⟩, ⟨.refl _, rfl⟩, ⟨.refl _, trivial⟩, trivial⟩, ⟨⟨_, rfl, .inl (by rfl), ⟨trivial, trivial, rfl, trivial, trivial⟩⟩, ⟨_, rfl, .inr (ob_rows (by rfl) (by ((try dsimp only); (intro j hj; rfl)))), trivial⟩, trivial⟩⟩ (fun i hP0 => ?_)
 refine HT.seq (HT.seq (HT.region S_lawStale_ok (So.q rfl rfl (V.mv (v := .p (.v (.int .i64 ((_ : Nat) : Int)))) rfl (So.q rfl rfl (V.mv (v := .p (.v (.int .i64 _))) rfl (So.q rfl rfl (V.bin (a := (.v (.int .i64 ((_ : Nat) : Int)))) (b := .v (.int .i64 _)) (r := .v (.bool _)) rfl rfl rfl trivial (So.e ?_)))))))))
 show HT _ _ _ _ _
 refine R.cond rfl rfl (fun h3 => ?_) (fun h3 => ?_)
 ·have h3 := of_decide_eq_true h3
  refine HT.skip (HT.seq (HT.block (HT.seq (HT.region S_lawStale_ok ?_))))
  have hsl := stale_len i
  have hgl := gMsg_len (i : Int) 4
  have hst := stale_s (n := i) (by omega)
  have hr0 : (takeH (i : Int) (staleL i) 1 (gMsg (i : Int) 4) (lookM [103] (i : Int) (gMsg (i : Int) 4))).r = 0 := congrArg HB.r hst
  refine So.q rfl rfl (V.mv (v := .ptr 2 0) rfl (So.n (lk rfl) (A.bsl 4 ty23 ty5 rfl (lk rfl) (lk rfl) (fun _ => rfl) rfl rfl trivial ⟨trivial, trivial⟩ rfl (N := 1) rfl (c := .bs [_]) rfl (So.n (lk rfl) (A.cvM ty23 ty5 rfl (by omega) rfl rfl (So.q rfl rfl (V.mv (v := .p (.v (.int .i64 ((_ : Nat) : Int)))) rfl (So.n (lk rfl) (A.bldS ty36 rfl rfl ⟨by exact trivial, by exact rfl, by exact rfl, trivial⟩ rfl (f := fun j => ([.bs [103], .v (.int .i64 (i : Int)), .v (.int .i64 0), .v (.int .i64 4), .v (.slice none 0 0)] : List PV).getD j (.v undef)) (by exact allP_spec (P := fun j => _ = _) ⟨⟨⟨⟨⟨trivial, rfl⟩, rfl⟩, rfl⟩, rfl⟩, rfl⟩) ?_)))))))))
  refine So.n (lk rfl) (A.call0 [.agg 5 _] 4 rfl rfl rfl rfl ⟨trivial, trivial⟩ trivial ([103], (i : Int), 0, 4, []) ⟨.agg _ _ _ (fun j hj => by match j, hj with | 0, _ => exact .refl _ | 1, _ => exact .refl _ | 2, _ => exact .refl _ | 3, _ => exact .refl _ | 4, _ => exact .nilBs), trivial⟩ trivial (by trivial) (Φ := fun _ => True) (fun _ _ => trivial) (.inl rfl) (v := .p (.bs _)) rfl (O' := _) rfl (fun h4 => ?_))
  refine So.n (lk rfl) (A.call [.ptr 1 _, .p (.bs _)] [(1, ⟨_, _, _, _, .cells [.p (.bs _), .p (.v (.int .i64 ((_ : Nat) : Int))), .own 2 0 _, .p (.v (.slice none 0 0))]⟩), (2, ⟨_, _, _, _, .rows _⟩)] (sg [(1, 2), (2, 3)]) 4 rfl rfl rfl rfl ⟨rfl, rfl, trivial⟩ rfl ⟨⟨trivial, trivial, rfl, trivial, trivial⟩, trivial, trivial⟩ ⟨rfl, trivial, trivial⟩ trivial rfl ([103], (i : Int), staleL i, gMsg (i : Int) 4) ⟨.refl _, .refl _, trivial⟩ ⟨⟨_, rfl, .inl rfl, ⟨trivial, trivial, rfl, trivial, trivial⟩⟩, ⟨_, rfl, .inl rfl, trivial⟩, trivial⟩ (by omega) (Φ := fun _ => True) (fun _ _ => trivial) ⟨⟨_, _, rfl, rfl, rfl, Nat.le_refl _⟩, trivial⟩ (.inl rfl) rfl (v := .tup 2 _) rfl (O' := (2, ⟨_, _, _, _, .cells _⟩) :: (6, ⟨_, _, _, _, .rows _⟩) :: _) rfl (fun h5 => ?_))
  refine So.q rfl rfl (V.mv (v := .tup 2 _) rfl (So.q rfl rfl (V.ext rfl (lk rfl) (v := .p (.v (.int .i64 _))) rfl (So.q rfl rfl (V.ext rfl (lk rfl) (v := .p (.v (.int .i64 _))) rfl (So.q rfl rfl (V.as (v := .p (.v (.int .i64 _))) rfl (So.q rfl rfl (V.as (v := .p (.v (.int .i64 _))) rfl (So.e (HT.seq (HT.region S_lawStale_ok (So.q rfl rfl (V.mv (v := .p (.v (.int .i64 _))) rfl (So.q rfl rfl (V.bin (a := .v (.int .i64 _)) (b := .v (.int .i64 0)) (r := .v (.bool _)) rfl rfl rfl trivial ?_))))))))))))))))
  refine So.e ?_
  show HT _ _ _ _ _
  refine R.cond rfl rfl (fun h6 => ?_) (fun h6 => ?_)
  ·have h6 := of_decide_eq_false (bnT h6)
   refine HT.seq ?_
   exact absurd hr0 (by assumption)
  ·have h6 := of_decide_eq_true (bnF h6)
   refine HT.skip ?_
   show HT _ _ _ _ _
   refine HT.swap 6 3 rfl rfl rfl ?_
   show HT _ _ _ _ _
   refine R.norm [1, 2, 7, 8, 9, 10] [2, 3] (fr0 := [(1, .p (.u8 _)), (2, .p (.u8 _)), (7, .p (.v (.bool true))), (8, .ptr 2 0), (9, .p (.v (.int .i64 _))), (10, .p (.v (.int .i64 ((_ : Nat) : Int))))]) (O0 := [(2, ⟨_, _, _, _, .cells [.p (.bs _), .p (.v (.int .i64 _)), .own 3 0 _, .p (.v (.slice none 0 0))]⟩), (3, ⟨_, _, _, _, .rows _⟩)]) rfl rfl ⟨⟨⟨.refl _, trivial⟩, ⟨.refl _, trivial⟩, ⟨.refl _, trivial⟩, ⟨.refl _, rfl⟩, ⟨.refl _, trivial⟩, ⟨.refl _, trivial⟩, trivial⟩, ⟨⟨_, rfl, .inl rfl, ⟨trivial, trivial, rfl, trivial, trivial⟩⟩, ⟨_, rfl, .inl rfl, trivial⟩, trivial⟩⟩ ?_
   refine HT.region S_lawStale_ok (So.q rfl rfl (V.mv (v := .p (.v (.int .i64 ((_ : Nat) : Int)))) rfl (So.q rfl rfl (V.addI rfl rfl (by omega) (So.q rfl rfl (V.as (v := .p (.v (.int .i64 _))) rfl (So.e ?_)))))))
   refine ⟨i + 1, by omega, by omega, ⟨⟨⟨le_int (by rfl), trivial⟩, ⟨.refl _, trivial⟩, ⟨.refl _, trivial⟩, ⟨.refl _, trivial⟩, ⟨.refl _, rfl⟩, ⟨.refl _, trivial⟩, trivial⟩, ⟨⟨_, rfl, .inl (by (rw [hst]; done)), ⟨trivial, trivial, rfl, trivial, trivial⟩⟩, ⟨_, rfl, .inr (ob_rows (by (rw [hst]; done)) (by (rw [hst]; intro j hj; rfl))), trivial⟩, trivial⟩⟩⟩
 ·have h3 := of_decide_eq_false h3
  refine HT.exit ?_
  show HT _ _ _ _ _
  refine HT.seq (HT.region S_lawStale_ok ?_)
  obtain rfl : i = (cm % 8).toNat := by omega
  have hsl := stale_len (cm % 8).toNat
  have hgl := gMsg_len ((eh % 10).toNat : Int) (1 + ((kn % 4).toNat : Int))
  have hgs := gSeal_len ((eh % 10).toNat : Int)
  obtain ⟨hX1, hX2, hX3⟩ := stale_x (n := (cm % 8).toNat) (by omega) (ep := ((eh % 10).toNat : Int)) (by omega) (by omega)
  obtain ⟨hY1, hY2⟩ := stale_y (n := (cm % 8).toNat) (ep := ((eh % 10).toNat : Int)) (kd := (1 + ((kn % 4).toNat : Int))) (by omega) (by omega) (by omega) (by omega) hX1 hX2
  refine So.n (lk rfl) (A.bsl 4 ty23 ty5 rfl (lk rfl) (lk rfl) (fun _ => rfl) rfl rfl trivial ⟨trivial, trivial⟩ rfl (N := 1) rfl (c := .bs [_]) rfl (So.n (lk rfl) (A.cvM ty23 ty5 rfl (by omega) rfl rfl (So.q rfl rfl (V.mv (v := .p (.u8 _)) rfl (So.q rfl rfl (V.bin (a := .u8 _) (b := .u8 10) (r := .u8 _) rfl rfl rfl (by (simp; done)) (So.q rfl rfl (V.cvN ty2 ty5 (a := .u8 _) (r := .v (.int .i64 _)) rfl rfl (So.q rfl rfl (V.mv (v := .p (.u8 _)) rfl (So.q rfl rfl (V.bin (a := .u8 _) (b := .u8 4) (r := .u8 _) rfl rfl rfl (by (simp; done)) (So.q rfl rfl (V.cvN ty3 ty5 (a := .u8 _) (r := .v (.int .i64 _)) rfl rfl (So.q rfl rfl (V.addI rfl rfl (by omega) (So.n (lk rfl) (A.bldS ty36 rfl rfl ⟨by exact trivial, by exact rfl, by exact rfl, trivial⟩ rfl (f := fun j => ([.bs [103], .v (.int .i64 ((eh % 10).toNat : Int)), .v (.int .i64 0), .v (.int .i64 (1 + ((kn % 4).toNat : Int))), .v (.slice none 0 0)] : List PV).getD j (.v undef)) (by exact allP_spec (P := fun j => _ = _) ⟨⟨⟨⟨⟨trivial, rfl⟩, rfl⟩, rfl⟩, rfl⟩, rfl⟩) ?_)))))))))))))))))))
  refine So.n (lk rfl) (A.alloc 4 1 ty36 rfl trivial (f := fun j => ([.v (.slice none 0 0), .v (.int .i64 0), .v (.int .i64 0), .v (.int .i64 0), .v (.slice none 0 0)] : List PV).getD j (.v undef)) (fun j hj => by match j, hj with | 0, _ => rfl | 1, _ => rfl | 2, _ => rfl | 3, _ => rfl | 4, _ => rfl) (So.s (A.stoAg ty36 rfl (n := 5) rfl (by decide) (by intro j hj; (match j, hj with | 0, _ => (trivial) | 1, _ => (trivial) | 2, _ => (trivial) | 3, _ => (trivial) | 4, _ => (trivial))) rfl rfl rfl (So.e (HT.seq (HT.region S_lawStale_ok (So.q rfl rfl (V.mv (v := .ptr 2 0) rfl (So.q rfl rfl (V.ldPtrA ty36 rfl rfl rfl rfl (lk rfl) ?_))))))))))
  refine So.n (lk rfl) (A.call0 [.agg 5 _] 5 rfl rfl rfl rfl ⟨trivial, trivial⟩ trivial ([103], ((eh % 10).toNat : Int), 0, (1 + ((kn % 4).toNat : Int)), []) ⟨.agg _ _ _ (fun j hj => by match j, hj with | 0, _ => exact .refl _ | 1, _ => exact .refl _ | 2, _ => exact .refl _ | 3, _ => exact .refl _ | 4, _ => exact .nilBs), trivial⟩ trivial (by trivial) (Φ := fun _ => True) (fun _ _ => trivial) (.inl rfl) (v := .p (.bs _)) rfl (O' := _) rfl (fun h7 => ?_))
  refine So.n (lk rfl) (A.call [.ptr 1 _, .p (.bs _)] [(1, ⟨_, _, _, _, .cells [.p (.bs _), .p (.v (.int .i64 ((_ : Nat) : Int))), .own 2 0 _, .p (.v (.slice none 0 0))]⟩), (2, ⟨_, _, _, _, .rows _⟩)] (sg [(1, 2), (2, 3)]) 5 rfl rfl rfl rfl ⟨rfl, rfl, trivial⟩ rfl ⟨⟨trivial, trivial, rfl, trivial, trivial⟩, trivial, trivial⟩ ⟨rfl, trivial, trivial⟩ trivial rfl ([103], ((cm % 8).toNat : Nat), staleL (cm % 8).toNat, gSeal ((eh % 10).toNat : Int)) ⟨.refl _, .refl _, trivial⟩ ⟨⟨_, rfl, .inl rfl, ⟨trivial, trivial, rfl, trivial, trivial⟩⟩, ⟨_, rfl, .inl rfl, trivial⟩, trivial⟩ (by omega) (Φ := fun _ => True) (fun _ _ => trivial) ⟨⟨_, _, rfl, rfl, rfl, Nat.le_refl _⟩, trivial⟩ (.inl rfl) rfl (v := .tup 2 _) rfl (O' := (2, ⟨_, _, _, _, .cells _⟩) :: (7, ⟨_, _, _, _, .rows _⟩) :: _) rfl (fun h8 => ?_))
  refine So.q rfl rfl (V.mv (v := .tup 2 _) rfl (So.q rfl rfl (V.ext rfl (lk rfl) (v := .p (.v (.int .i64 _))) rfl (So.q rfl rfl (V.ext rfl (lk rfl) (v := .p (.v (.int .i64 _))) rfl (So.q rfl rfl (V.as (v := .p (.v (.int .i64 _))) rfl (So.q rfl rfl (V.as (v := .p (.v (.int .i64 _))) rfl (So.e (HT.seq (HT.region S_lawStale_ok (So.q rfl rfl (V.mv (v := .ptr 2 0) rfl (So.q rfl rfl (V.ldPtrA ty36 rfl rfl rfl rfl (lk rfl) ?_))))))))))))))))
  refine So.n (lk rfl) (A.call0 [.agg 5 _] 8 rfl rfl rfl rfl ⟨trivial, trivial⟩ trivial ([103], ((eh % 10).toNat : Int), 0, (1 + ((kn % 4).toNat : Int)), []) ⟨.agg _ _ _ (fun j hj => by match j, hj with | 0, _ => exact .refl _ | 1, _ => exact .refl _ | 2, _ => exact .refl _ | 3, _ => exact .refl _ | 4, _ => exact .nilBs), trivial⟩ trivial (by trivial) (Φ := fun _ => True) (fun _ _ => trivial) (.inl rfl) (v := .p (.bs _)) rfl (O' := _) rfl (fun h9 => ?_))
  refine So.n (lk rfl) (A.call [.ptr 1 _, .p (.bs _)] [(1, ⟨_, _, _, _, .cells [.p (.bs _), .p (.v (.int .i64 _)), .own 2 0 _, .p (.v (.slice none 0 0))]⟩), (2, ⟨_, _, _, _, .rows _⟩)] (sg [(1, 2), (2, 7)]) 8 rfl rfl rfl rfl ⟨rfl, rfl, trivial⟩ rfl ⟨⟨trivial, trivial, rfl, trivial, trivial⟩, trivial, trivial⟩ ⟨rfl, trivial, trivial⟩ trivial rfl ([103], (takeH ((cm % 8).toNat : Nat) (staleL (cm % 8).toNat) 3 (gSeal ((eh % 10).toNat : Int)) (lookT [103] ((cm % 8).toNat : Nat) (gSeal ((eh % 10).toNat : Int)))).e, (takeH ((cm % 8).toNat : Nat) (staleL (cm % 8).toNat) 3 (gSeal ((eh % 10).toNat : Int)) (lookT [103] ((cm % 8).toNat : Nat) (gSeal ((eh % 10).toNat : Int)))).L, gMsg ((eh % 10).toNat : Int) (1 + ((kn % 4).toNat : Int))) ⟨.refl _, .refl _, trivial⟩ ⟨⟨_, rfl, .inl rfl, ⟨trivial, trivial, rfl, trivial, trivial⟩⟩, ⟨_, rfl, .inl rfl, trivial⟩, trivial⟩ (by omega) (Φ := fun _ => True) (fun _ _ => trivial) ⟨⟨_, _, rfl, rfl, rfl, Nat.le_refl _⟩, trivial⟩ (.inl rfl) rfl (v := .tup 2 _) rfl (O' := (2, ⟨_, _, _, _, .cells _⟩) :: (10, ⟨_, _, _, _, .rows _⟩) :: _) rfl (fun h10 => ?_))
  refine So.q rfl rfl (V.mv (v := .tup 2 _) rfl (So.q rfl rfl (V.ext rfl (lk rfl) (v := .p (.v (.int .i64 _))) rfl (So.q rfl rfl (V.ext rfl (lk rfl) (v := .p (.v (.int .i64 _))) rfl (So.q rfl rfl (V.as (v := .p (.v (.int .i64 _))) rfl (So.q rfl rfl (V.as (v := .p (.v (.int .i64 _))) rfl (So.e (HT.seq (HT.region S_lawStale_ok (So.q rfl rfl (V.as (v := .p (.v (.int .i64 0))) rfl (So.e ?_)))))))))))))))
  show HT _ _ _ _ _
  refine HT.seq (HT.seq (HT.region S_lawStale_ok (So.q rfl rfl (V.faPtr ty36 rfl ty2 (lk rfl) rfl rfl (lk rfl) (So.q rfl rfl (V.ldPtr ty2 rfl rfl rfl (lk rfl) (v := .p (.v (.int .i64 _))) rfl (So.q rfl rfl (V.mv (v := .p (.v (.int .i64 _))) rfl (So.q rfl rfl (V.bin (a := .v (.int .i64 _)) (b := .v (.int .i64 _)) (r := .v (.bool _)) rfl rfl rfl trivial (So.e ?_)))))))))))
  show HT _ _ _ _ _
  refine R.cond rfl rfl (fun h11 => ?_) (fun h11 => ?_)
  ·have h11 := of_decide_eq_false (bnT h11)
   refine HT.region S_lawStale_ok (So.q rfl rfl (V.as (v := .p (.v (.int .i64 221))) rfl (So.e (HT.seq (HT.region S_lawStale_ok (So.q rfl rfl (V.mv (v := .p (.v (.bool true))) rfl (So.q rfl rfl (V.mv (v := .p (.v (.bool true))) rfl (So.gy rfl rfl (lk rfl) (lk rfl) (A.v rfl (V.mv (v := .p (.v (.int .i64 _))) rfl (So.gy rfl rfl (lk rfl) (lk rfl) ?_)))))))))))))
   refine A.v rfl (V.mv (v := .p (.v (.int .i64 _))) rfl (So.gy rfl rfl (lk rfl) (lk rfl) (A.v rfl (V.bin (a := .v (.int .i64 _)) (b := .v (.int .i64 _)) (r := .v (.bool _)) rfl rfl rfl trivial (So.q rfl rfl (V.pkTrue (u := .p (.v (.bool _))) rfl rfl (So.q rfl rfl (V.mv (v := .p (.v (.bool _))) rfl ?_))))))))
   refine So.gd rfl rfl (lk rfl) (lk rfl) (fun h12 => ?_) (fun h12 => ?_)
   ·have h12 := of_decide_eq_true h12
    refine A.v rfl (V.mv (v := .p (.v (.int .i64 _))) rfl (So.gy rfl rfl (lk rfl) (lk rfl) (A.v rfl (V.mv (v := .p (.v (.int .i64 _))) rfl (So.gy rfl rfl (lk rfl) (lk rfl) (A.v rfl (V.bin (a := .v (.int .i64 _)) (b := .v (.int .i64 _)) (r := .v (.bool _)) rfl rfl rfl trivial (So.q rfl rfl (V.pkTrue (u := .p (.v (.bool _))) rfl rfl (So.q rfl rfl (V.mv (v := .p (.v (.bool _))) rfl ?_)))))))))))
    refine So.gd rfl rfl (lk rfl) (lk rfl) (fun h13 => ?_) (fun h13 => ?_)
    ·have h13 := of_decide_eq_true h13
     refine A.v rfl (V.mv (v := .ptr 2 0) rfl (So.gy rfl rfl (lk rfl) (lk rfl) ?_))
     refine A.call [.ptr 1 _] [(1, ⟨_, _, _, _, .cells [.p (.bs _), .p (.v (.int .i64 _)), .own 2 0 _, .p (.v (.slice none 0 0))]⟩), (2, ⟨_, _, _, _, .rows _⟩)] (sg [(1, 2), (2, 10)]) 11 rfl rfl rfl rfl ⟨rfl, rfl, trivial⟩ rfl ⟨⟨trivial, trivial, rfl, trivial, trivial⟩, trivial, trivial⟩ ⟨rfl, trivial⟩ trivial rfl ([103], (takeH (takeH ((cm % 8).toNat : Nat) (staleL (cm % 8).toNat) 3 (gSeal ((eh % 10).toNat : Int)) (lookT [103] ((cm % 8).toNat : Nat) (gSeal ((eh % 10).toNat : Int)))).e (takeH ((cm % 8).toNat : Nat) (staleL (cm % 8).toNat) 3 (gSeal ((eh % 10).toNat : Int)) (lookT [103] ((cm % 8).toNat : Nat) (gSeal ((eh % 10).toNat : Int)))).L 1 (gMsg ((eh % 10).toNat : Int) (1 + ((kn % 4).toNat : Int))) (lookM [103] (takeH ((cm % 8).toNat : Nat) (staleL (cm % 8).toNat) 3 (gSeal ((eh % 10).toNat : Int)) (lookT [103] ((cm % 8).toNat : Nat) (gSeal ((eh % 10).toNat : Int)))).e (gMsg ((eh % 10).toNat : Int) (1 + ((kn % 4).toNat : Int))))).e, (takeH (takeH ((cm % 8).toNat : Nat) (staleL (cm % 8).toNat) 3 (gSeal ((eh % 10).toNat : Int)) (lookT [103] ((cm % 8).toNat : Nat) (gSeal ((eh % 10).toNat : Int)))).e (takeH ((cm % 8).toNat : Nat) (staleL (cm % 8).toNat) 3 (gSeal ((eh % 10).toNat : Int)) (lookT [103] ((cm % 8).toNat : Nat) (gSeal ((eh % 10).toNat : Int)))).L 1 (gMsg ((eh % 10).toNat : Int) (1 + ((kn % 4).toNat : Int))) (lookM [103] (takeH ((cm % 8).toNat : Nat) (staleL (cm % 8).toNat) 3 (gSeal ((eh % 10).toNat : Int)) (lookT [103] ((cm % 8).toNat : Nat) (gSeal ((eh % 10).toNat : Int)))).e (gMsg ((eh % 10).toNat : Int) (1 + ((kn % 4).toNat : Int))))).L) ⟨.refl _, trivial⟩ ⟨⟨_, rfl, .inl rfl, ⟨trivial, trivial, rfl, trivial, trivial⟩⟩, ⟨_, rfl, .inl rfl, trivial⟩, trivial⟩ (by trivial) (Φ := fun _ => True) (fun _ _ => trivial) ⟨⟨_, _, rfl, rfl, rfl, Nat.le_refl _⟩, ⟨_, _, rfl, rfl, rfl, Nat.le_refl _⟩, trivial⟩ (.inl rfl) rfl (v := .p (.v (.int .i64 _))) rfl (O' := (2, ⟨_, _, _, _, .cells _⟩) :: (10, ⟨_, _, _, _, .rows _⟩) :: _) rfl (fun h14 => ?_)
     refine So.gy rfl rfl (lk rfl) (lk rfl) (A.v rfl (V.mv (v := .p (.v (.int .i64 _))) rfl (So.gy rfl rfl (lk rfl) (lk rfl) (A.v rfl (V.bin (a := .v (.int .i64 _)) (b := .v (.int .i64 _)) (r := .v (.bool _)) rfl rfl rfl trivial (So.q rfl rfl (V.pkTrue (u := .p (.v (.bool _))) rfl rfl (So.q rfl rfl (V.as (v := .p (.v (.bool _))) rfl (So.e ?_))))))))))
     show HT _ _ _ _ _
     refine HT.ret ?_
     exact ret_ok (sg []) h rfl rfl rfl trivial ⟨trivial, trivial⟩ rfl ⟨⟨⟨le_bool (by exact decide_eq_true (by exact hY2)), trivial⟩, trivial⟩, trivial⟩
    ·have h13 := of_decide_eq_false h13
     exact absurd (by (rw [hY1, if_neg (by omega)]; done)) h13
   ·have h12 := of_decide_eq_false h12
    exact absurd (by (rw [hX3, if_neg (by omega)]; done)) h12
  ·have h11 := of_decide_eq_true (bnF h11)
   refine HT.skip (HT.seq (HT.region S_lawStale_ok (So.q rfl rfl (V.mv (v := .p (.v (.bool true))) rfl (So.q rfl rfl (V.mv (v := .p (.v (.bool true))) rfl (So.gy rfl rfl (lk rfl) (lk rfl) (A.v rfl (V.mv (v := .p (.v (.int .i64 _))) rfl (So.gy rfl rfl (lk rfl) (lk rfl) (A.v rfl (V.mv (v := .p (.v (.int .i64 _))) rfl (So.gy rfl rfl (lk rfl) (lk rfl) ?_)))))))))))))
   refine A.v rfl (V.bin (a := .v (.int .i64 _)) (b := .v (.int .i64 _)) (r := .v (.bool _)) rfl rfl rfl trivial (So.q rfl rfl (V.pkTrue (u := .p (.v (.bool _))) rfl rfl (So.q rfl rfl (V.mv (v := .p (.v (.bool _))) rfl ?_)))))
   refine So.gd rfl rfl (lk rfl) (lk rfl) (fun h15 => ?_) (fun h15 => ?_)
   ·have h15 := of_decide_eq_true h15
    refine A.v rfl (V.mv (v := .p (.v (.int .i64 _))) rfl (So.gy rfl rfl (lk rfl) (lk rfl) (A.v rfl (V.mv (v := .p (.v (.int .i64 _))) rfl (So.gy rfl rfl (lk rfl) (lk rfl) (A.v rfl (V.bin (a := .v (.int .i64 _)) (b := .v (.int .i64 _)) (r := .v (.bool _)) rfl rfl rfl trivial (So.q rfl rfl (V.pkTrue (u := .p (.v (.bool _))) rfl rfl (So.q rfl rfl (V.mv (v := .p (.v (.bool _))) rfl ?_)))))))))))
    refine So.gd rfl rfl (lk rfl) (lk rfl) (fun h16 => ?_) (fun h16 => ?_)
    ·have h16 := of_decide_eq_true h16
     refine A.v rfl (V.mv (v := .ptr 2 0) rfl (So.gy rfl rfl (lk rfl) (lk rfl) ?_))
     refine A.call [.ptr 1 _] [(1, ⟨_, _, _, _, .cells [.p (.bs _), .p (.v (.int .i64 _)), .own 2 0 _, .p (.v (.slice none 0 0))]⟩), (2, ⟨_, _, _, _, .rows _⟩)] (sg [(1, 2), (2, 10)]) 11 rfl rfl rfl rfl ⟨rfl, rfl, trivial⟩ rfl ⟨⟨trivial, trivial, rfl, trivial, trivial⟩, trivial, trivial⟩ ⟨rfl, trivial⟩ trivial rfl ([103], (takeH (takeH ((cm % 8).toNat : Nat) (staleL (cm % 8).toNat) 3 (gSeal ((eh % 10).toNat : Int)) (lookT [103] ((cm % 8).toNat : Nat) (gSeal ((eh % 10).toNat : Int)))).e (takeH ((cm % 8).toNat : Nat) (staleL (cm % 8).toNat) 3 (gSeal ((eh % 10).toNat : Int)) (lookT [103] ((cm % 8).toNat : Nat) (gSeal ((eh % 10).toNat : Int)))).L 1 (gMsg ((eh % 10).toNat : Int) (1 + ((kn % 4).toNat : Int))) (lookM [103] (takeH ((cm % 8).toNat : Nat) (staleL (cm % 8).toNat) 3 (gSeal ((eh % 10).toNat : Int)) (lookT [103] ((cm % 8).toNat : Nat) (gSeal ((eh % 10).toNat : Int)))).e (gMsg ((eh % 10).toNat : Int) (1 + ((kn % 4).toNat : Int))))).e, (takeH (takeH ((cm % 8).toNat : Nat) (staleL (cm % 8).toNat) 3 (gSeal ((eh % 10).toNat : Int)) (lookT [103] ((cm % 8).toNat : Nat) (gSeal ((eh % 10).toNat : Int)))).e (takeH ((cm % 8).toNat : Nat) (staleL (cm % 8).toNat) 3 (gSeal ((eh % 10).toNat : Int)) (lookT [103] ((cm % 8).toNat : Nat) (gSeal ((eh % 10).toNat : Int)))).L 1 (gMsg ((eh % 10).toNat : Int) (1 + ((kn % 4).toNat : Int))) (lookM [103] (takeH ((cm % 8).toNat : Nat) (staleL (cm % 8).toNat) 3 (gSeal ((eh % 10).toNat : Int)) (lookT [103] ((cm % 8).toNat : Nat) (gSeal ((eh % 10).toNat : Int)))).e (gMsg ((eh % 10).toNat : Int) (1 + ((kn % 4).toNat : Int))))).L) ⟨.refl _, trivial⟩ ⟨⟨_, rfl, .inl rfl, ⟨trivial, trivial, rfl, trivial, trivial⟩⟩, ⟨_, rfl, .inl rfl, trivial⟩, trivial⟩ (by trivial) (Φ := fun _ => True) (fun _ _ => trivial) ⟨⟨_, _, rfl, rfl, rfl, Nat.le_refl _⟩, ⟨_, _, rfl, rfl, rfl, Nat.le_refl _⟩, trivial⟩ (.inl rfl) rfl (v := .p (.v (.int .i64 _))) rfl (O' := (2, ⟨_, _, _, _, .cells _⟩) :: (10, ⟨_, _, _, _, .rows _⟩) :: _) rfl (fun h17 => ?_)
     refine So.gy rfl rfl (lk rfl) (lk rfl) (A.v rfl (V.mv (v := .p (.v (.int .i64 _))) rfl (So.gy rfl rfl (lk rfl) (lk rfl) (A.v rfl (V.bin (a := .v (.int .i64 _)) (b := .v (.int .i64 _)) (r := .v (.bool _)) rfl rfl rfl trivial (So.q rfl rfl (V.pkTrue (u := .p (.v (.bool _))) rfl rfl (So.q rfl rfl (V.as (v := .p (.v (.bool _))) rfl (So.e ?_))))))))))
     show HT _ _ _ _ _
     refine HT.ret ?_
     exact ret_ok (sg []) h rfl rfl rfl trivial ⟨trivial, trivial⟩ rfl ⟨⟨⟨le_bool (by exact decide_eq_true (by exact hY2)), trivial⟩, trivial⟩, trivial⟩
    ·have h16 := of_decide_eq_false h16
     exact absurd (by (rw [hY1, if_pos (by omega)]; done)) h16
   ·have h15 := of_decide_eq_false h15
    exact absurd (by (rw [hX3, if_pos (by omega)]; done)) h15
end Go.Vh
