/- What is proved: each function of the seat's program does what its contract says, wherever it is called; no condition. -/
import Derived.Test.YtkabppmmdhkmiaaDoorWalk0
set_option linter.unusedVariables false
set_option linter.unusedSimpArgs false
set_option linter.unusedVariables false
set_option linter.unusedSimpArgs false
namespace Go.Vh
open Go Go.Vc Go.Proofs Go.Vw
def fputSp : Sp := ⟨[], mkE (α := (List UInt8) × Int × Int × Int × (List UInt8) × (List UInt8) × (List UInt8) × (List UInt8)) (fun (g, ep, fr, kd, bd, sn, cf, mb) => [.agg 8 (fun j => ([.bs g, .v (.int .i64 ep), .v (.int .i64 fr), .v (.int .i64 kd), .bs bd, .bs sn, .bs cf, .bs mb] : List PV).getD j (.v undef))]) (fun (g, ep, fr, kd, bd, sn, cf, mb) => []) (fun (g, ep, fr, kd, bd, sn, cf, mb) => True) (fun (g, ep, fr, kd, bd, sn, cf, mb) => [.own 2 (0) ((putF g ep fr kd bd sn cf mb).length), .p (.v (.int .i64 (putE g ep fr kd bd sn cf mb)))]) (fun (g, ep, fr, kd, bd, sn, cf, mb) => [(2, ⟨5, 1, (putF g ep fr kd bd sn cf mb).length, true, .bs (putF g ep fr kd bd sn cf mb)⟩)])⟩
def S_fput : FuncId → Option Sp := fun f => if f = 24 then some fmsgSp else if f = 23 then some fbytesSp else if f = 25 then some wtextSp else none
theorem S_fput_ok : ∀ f s, S_fput f = some s → FOK Tryd.prog gl f s := fun f s h => by
  unfold S_fput at h
  split at h
  · rename_i e; cases h; subst e; exact fmsg_ok
  split at h
  · rename_i e; cases h; subst e; exact fbytes_ok
  split at h
  · rename_i e; cases h; subst e; exact wtext_ok
  cases h
set_option maxHeartbeats 1000000 in
set_option maxRecDepth 20000 in
theorem fput_ok : FOK Tryd.prog gl 10 fputSp := by
  refine FOK.ofE (tyOf_ok Tryd.prog) (slots := [2, 3]) (nt := 32) Tryd.func10 rfl rfl rfl rfl (by decide) 1 (fun ⟨_, _, _, _, _, _, _, _⟩ => rfl) (by decide) (fun ⟨_, _, _, _, _, _, _, _⟩ => ⟨trivial, trivial⟩) ?_
  rintro ⟨g, ep, fr, kd, bd, sn, cf, mb⟩ kk hlen hpre h
  replace hpre : True := hpre
  show HT (cx Tryd.prog 32 (tyOf Tryd.prog) gl []) _ [(0, .agg 8 (fun j => ([.bs g, .v (.int .i64 ep), .v (.int .i64 fr), .v (.int .i64 kd), .bs bd, .bs sn, .bs cf, .bs mb] : List PV).getD j (.v undef)))] [] _
  have hbl := body_len g ep fr kd bd
  refine HT.seq ?_
  refine HT.region S_fput_ok ?_
  refine So.n (Nat.le_of_ble_eq_true rfl) (A.boxAg 1 1 (n := 8) rfl (by intro j hj; first | rfl | trivial | (match j, hj with | 0, _ => (first | trivial | rfl) | 1, _ => (first | trivial | rfl) | 2, _ => (first | trivial | rfl) | 3, _ => (first | trivial | rfl) | 4, _ => (first | trivial | rfl) | 5, _ => (first | trivial | rfl) | 6, _ => (first | trivial | rfl) | 7, _ => (first | trivial | rfl)) | (split <;> first | rfl | trivial | (split <;> first | rfl | trivial))) rfl trivial ?_)
  refine So.n (Nat.le_of_ble_eq_true rfl) (A.v rfl (V.as (v := .p (.v (.slice none 0 0))) rfl ?_))
  refine So.n (Nat.le_of_ble_eq_true rfl) (A.v rfl (V.as (v := .p (.v (.int .i64 (0)))) rfl ?_))
  refine So.e ?_
  show HT _ _ _ _ _
  refine HT.seq ?_
  refine HT.seq ?_
  refine HT.region S_fput_ok ?_
  refine So.n (Nat.le_of_ble_eq_true rfl) (A.v rfl (V.ldPtrA ty26 rfl rfl rfl rfl (by first | exact Nat.le_of_ble_eq_true rfl | (first | rfl | omega | (simp; done) | (simp; omega))) ?_))
  refine So.n (Nat.le_of_ble_eq_true rfl) (A.call0 [.agg 8 _] 2 rfl rfl rfl rfl ⟨trivial, trivial⟩ trivial (g, ep, fr, kd, bd, sn, cf, mb) ⟨le_agg (fun j hj => by match j, hj with | 0, _ => rfl | 1, _ => rfl | 2, _ => rfl | 3, _ => rfl | 4, _ => rfl | 5, _ => rfl | 6, _ => rfl | 7, _ => rfl), trivial⟩ trivial (by trivial) (Φ := fun _ => True) (fun _ _ => trivial) (.inl rfl) (v := .p (.v (.bool _))) rfl (O' := _) rfl (fun h1 => ?_))
  refine So.n (Nat.le_of_ble_eq_true rfl) (A.v rfl (V.not rfl ?_))
  refine So.e ?_
  show HT _ _ _ _ _
  refine R.cond rfl rfl (fun h2 => ?_) (fun h2 => ?_)
  · have h2 := of_decide_eq_false (bnT h2)
    refine HT.seq ?_
    refine HT.region S_fput_ok ?_
    refine So.n (Nat.le_of_ble_eq_true rfl) (A.v rfl (V.as (v := .p (.v (.slice none 0 0))) rfl ?_))
    refine So.n (Nat.le_of_ble_eq_true rfl) (A.v rfl (V.as (v := .p (.v (.int .i64 (181)))) rfl ?_))
    refine So.e ?_
    show HT _ _ _ _ _
    refine R.phan 2 2 5 1 (.bs []) rfl rfl rfl ⟨rfl, rfl⟩ ?_
    refine HT.ret ?_
    exact ret_ok (sg [(2, 2)]) h rfl rfl rfl ⟨trivial, trivial⟩ ⟨rfl, trivial, trivial⟩ rfl ⟨⟨⟨le_own2 (by first | rfl | omega) (by first | with_reducible rfl | (show (_ : Nat) = _; first | (rw [putF_no (by assumption)]; done) | (rw [putF_no (by assumption)]; rfl) | (rw [putF_yes (by assumption)]; done) | (rw [putF_yes (by assumption)]; rfl)) | (show (_ : List UInt8) = _; first | (rw [putF_no (by assumption)]; done) | (rw [putF_yes (by assumption)]; done) | (rw [putF_yes (by assumption)]; rfl)) | (show (_ : Int) = _; first | (rw [putE_no (by assumption)]; done) | (rw [putE_yes (by assumption)]; done))), rfl⟩, ⟨le_int (by first | with_reducible rfl | (show (_ : Nat) = _; first | (rw [putF_no (by assumption)]; done) | (rw [putF_no (by assumption)]; rfl) | (rw [putF_yes (by assumption)]; done) | (rw [putF_yes (by assumption)]; rfl)) | (show (_ : List UInt8) = _; first | (rw [putF_no (by assumption)]; done) | (rw [putF_yes (by assumption)]; done) | (rw [putF_yes (by assumption)]; rfl)) | (show (_ : Int) = _; first | (rw [putE_no (by assumption)]; done) | (rw [putE_yes (by assumption)]; done))), trivial⟩, trivial⟩, ⟨⟨_, rfl, .inl (ob_bs (by first | rfl | ((try dsimp only); (first | with_reducible rfl | (show (_ : Nat) = _; first | (rw [putF_no (by assumption)]; done) | (rw [putF_no (by assumption)]; rfl) | (rw [putF_yes (by assumption)]; done) | (rw [putF_yes (by assumption)]; rfl)) | (show (_ : List UInt8) = _; first | (rw [putF_no (by assumption)]; done) | (rw [putF_yes (by assumption)]; done) | (rw [putF_yes (by assumption)]; rfl)) | (show (_ : Int) = _; first | (rw [putE_no (by assumption)]; done) | (rw [putE_yes (by assumption)]; done))))) (by first | rfl | ((try dsimp only); (first | with_reducible rfl | (show (_ : Nat) = _; first | (rw [putF_no (by assumption)]; done) | (rw [putF_no (by assumption)]; rfl) | (rw [putF_yes (by assumption)]; done) | (rw [putF_yes (by assumption)]; rfl)) | (show (_ : List UInt8) = _; first | (rw [putF_no (by assumption)]; done) | (rw [putF_yes (by assumption)]; done) | (rw [putF_yes (by assumption)]; rfl)) | (show (_ : Int) = _; first | (rw [putE_no (by assumption)]; done) | (rw [putE_yes (by assumption)]; done)))))), trivial⟩, trivial⟩⟩
  · have h2 := of_decide_eq_true (bnF h2)
    refine HT.skip ?_
    show HT _ _ _ _ _
    refine HT.seq ?_
    refine HT.region S_fput_ok ?_
    refine So.n (Nat.le_of_ble_eq_true rfl) (A.v rfl (V.faPtr ty26 rfl ty24 (Nat.le_of_ble_eq_true rfl) rfl rfl (by first | exact Nat.le_of_ble_eq_true rfl | first | rfl | omega | (simp; done) | (simp; omega)) ?_))
    refine So.n (Nat.le_of_ble_eq_true rfl) (A.v rfl (V.ldPtrA ty24 rfl rfl rfl rfl (by first | exact Nat.le_of_ble_eq_true rfl | (first | rfl | omega | (simp; done) | (simp; omega))) ?_))
    refine So.n (Nat.le_of_ble_eq_true rfl) (A.call0 [.agg 5 _] 2 rfl rfl rfl rfl ⟨trivial, trivial⟩ trivial (g, ep, fr, kd, bd) ⟨le_agg (fun j hj => by match j, hj with | 0, _ => rfl | 1, _ => rfl | 2, _ => rfl | 3, _ => rfl | 4, _ => rfl), trivial⟩ trivial (by trivial) (Φ := fun _ => True) (fun _ _ => trivial) (.inl rfl) (v := .tup 2 _) rfl (O' := (4, ⟨5, 1, _, true, .bs _⟩) :: _) rfl (fun h3 => ?_))
    refine So.n (Nat.le_of_ble_eq_true rfl) (A.v rfl (V.mv (v := .tup 2 _) rfl ?_))
    refine So.n (Nat.le_of_ble_eq_true rfl) (A.v rfl (V.ext rfl (Nat.le_of_ble_eq_true rfl) (v := .own 4 0 _) rfl ?_))
    refine So.n (Nat.le_of_ble_eq_true rfl) (A.v rfl (V.ext rfl (Nat.le_of_ble_eq_true rfl) (v := .p (.v (.int .i64 _))) rfl ?_))
    refine So.n (Nat.le_of_ble_eq_true rfl) (A.v rfl (V.as (v := .own 4 0 _) rfl ?_))
    refine So.n (Nat.le_of_ble_eq_true rfl) (A.v rfl (V.as (v := .p (.v (.int .i64 _))) rfl ?_))
    refine So.e ?_
    show HT _ _ _ _ _
    refine HT.seq ?_
    refine HT.region S_fput_ok ?_
    refine So.n (Nat.le_of_ble_eq_true rfl) (A.bldG ty54 rfl trivial rfl rfl ?_)
    refine So.n (Nat.le_of_ble_eq_true rfl) (A.boxG 5 1 [.p (.v (.slice none 0 0))] rfl (by intro j hj; match j, hj with | 0, _ => (first | exact trivial | exact rfl)) rfl (by intro j hj; match j, hj with | 0, _ => rfl) rfl trivial ?_)
    refine So.n (Nat.le_of_ble_eq_true rfl) (A.v rfl (V.as (v := .ptr 5 0) rfl ?_))
    refine So.e ?_
    show HT _ _ _ _ _
    refine HT.seq ?_
    refine HT.phanC 5 6 5 1 (.bs []) (c' := .cells [.own 6 0 0]) rfl rfl rfl ⟨rfl, rfl⟩ rfl (allP_spec (P := fun j => _ ∨ _) ⟨trivial, .inr ⟨rfl, rfl⟩⟩) rfl ?_
    show HT _ _ _ _ _
    refine HT.region S_fput_ok ?_
    refine So.n (Nat.le_of_ble_eq_true rfl) (A.v rfl (V.mv (v := .ptr 5 0) rfl ?_))
    refine So.n (Nat.le_of_ble_eq_true rfl) (A.v rfl (V.mv (v := .own 4 0 _) rfl ?_))
    refine So.n (Nat.le_of_ble_eq_true rfl) (A.v rfl (V.faPtr ty26 rfl ty22 (Nat.le_of_ble_eq_true rfl) rfl rfl (by first | exact Nat.le_of_ble_eq_true rfl | first | rfl | omega | (simp; done) | (simp; omega)) ?_))
    refine So.n (Nat.le_of_ble_eq_true rfl) (A.v rfl (V.ldPtr ty22 rfl rfl rfl (by first | exact Nat.le_of_ble_eq_true rfl | (first | rfl | omega | (simp; done) | (simp; omega))) (v := .p (.bs _)) rfl ?_))
    refine So.n (Nat.le_of_ble_eq_true rfl) (A.v rfl (V.faPtr ty26 rfl ty22 (Nat.le_of_ble_eq_true rfl) rfl rfl (by first | exact Nat.le_of_ble_eq_true rfl | first | rfl | omega | (simp; done) | (simp; omega)) ?_))
    refine So.n (Nat.le_of_ble_eq_true rfl) (A.v rfl (V.ldPtr ty22 rfl rfl rfl (by first | exact Nat.le_of_ble_eq_true rfl | (first | rfl | omega | (simp; done) | (simp; omega))) (v := .p (.bs _)) rfl ?_))
    refine So.n (Nat.le_of_ble_eq_true rfl) (A.v rfl (V.faPtr ty26 rfl ty22 (Nat.le_of_ble_eq_true rfl) rfl rfl (by first | exact Nat.le_of_ble_eq_true rfl | first | rfl | omega | (simp; done) | (simp; omega)) ?_))
    refine So.n (Nat.le_of_ble_eq_true rfl) (A.v rfl (V.ldPtr ty22 rfl rfl rfl (by first | exact Nat.le_of_ble_eq_true rfl | (first | rfl | omega | (simp; done) | (simp; omega))) (v := .p (.bs _)) rfl ?_))
    refine So.n (Nat.le_of_ble_eq_true rfl) (A.bsl 7 ty51 ty22 rfl (Nat.le_of_ble_eq_true rfl) (Nat.le_of_ble_eq_true rfl) (fun _ => rfl) rfl rfl trivial ⟨trivial, trivial, trivial, trivial, trivial⟩ rfl (N := 4) rfl (c := .rows _) rfl ?_)
    refine So.n (Nat.le_of_ble_eq_true rfl) (A.call [.ptr 1 _, .p (.sl _ _ _)] [(1, ⟨_, _, _, _, .cells [.own 2 0 _]⟩), (2, ⟨_, _, _, _, .bs _⟩)] (sg [(1, 5), (2, 6)]) 8 rfl rfl rfl rfl ⟨rfl, rfl, trivial⟩ rfl ⟨⟨rfl, trivial⟩, trivial, trivial⟩ ⟨rfl, trivial, trivial⟩ trivial rfl (nl, [bytesF g ep fr kd bd, sn, cf, mb]) ⟨.refl _, le_sl rfl (by intro j hj; match j, hj with | 0, _ => exact congrArg PV.bs (take_full _) | 1, _ => rfl | 2, _ => rfl | 3, _ => rfl), trivial⟩ ⟨⟨_, rfl, .inl rfl, ⟨rfl, trivial⟩⟩, ⟨_, rfl, .inl rfl, trivial⟩, trivial⟩ (by first | omega | (simp only [List.drop_zero, List.take_length]; omega) | (simp; done) | (simp; omega)) (Φ := fun _ => True) (fun _ _ => trivial) ⟨⟨_, _, rfl, rfl, rfl, Nat.le_refl _⟩, trivial⟩ (.inr ⟨fun _ hj => absurd hj (Nat.not_lt_zero _), by simp [Hp.scal, OC.scal, PV.scal, BV.scal]⟩) rfl (v := .tup 0 _) rfl (O' := (5, ⟨_, _, _, _, .cells _⟩) :: (10, ⟨_, _, _, _, .bs _⟩) :: _) rfl (fun h4 => ?_))
    refine So.e ?_
    show HT _ _ _ _ _
    refine HT.seq ?_
    refine R.tell [] [(5, ⟨54, 1, 1, true, .cells [.own 10 (0) ((txF (bodyF g ep fr kd bd) ++ txF sn ++ txF cf ++ txF mb).length)]⟩), (10, ⟨5, 1, (txF (bodyF g ep fr kd bd) ++ txF sn ++ txF cf ++ txF mb).length, true, .bs (txF (bodyF g ep fr kd bd) ++ txF sn ++ txF cf ++ txF mb)⟩)] [2, 3, 6] [] (fr0 := [(2, .p (.v (.slice none 0 0))), (3, .p (.v (.int .i64 _))), (6, .ptr 5 0)]) (O0 := []) rfl rfl ⟨⟨⟨.refl _, trivial⟩, ⟨.refl _, trivial⟩, ⟨.refl _, rfl⟩, trivial⟩, ⟨⟨_, rfl, .inl (by first | rfl | (rw [put_txL (by assumption)]; rfl) | (rw [put_txL (by assumption)])), ⟨rfl, trivial⟩⟩, ⟨_, rfl, .inl (ob_bs (by first | rfl | (rw [put_txL (by assumption)]; rfl) | (rw [put_txL (by assumption)])) (by first | rfl | (rw [put_txL (by assumption)]; rfl) | (rw [put_txL (by assumption)]))), trivial⟩, trivial⟩⟩ ?_
    show HT _ _ _ _ _
    refine HT.region S_fput_ok ?_
    refine So.n (Nat.le_of_ble_eq_true rfl) (A.v rfl (V.mv (v := .ptr 5 0) rfl ?_))
    refine So.n (Nat.le_of_ble_eq_true rfl) (A.v rfl (V.ncPtr rfl ?_))
    refine So.n (Nat.le_of_ble_eq_true rfl) (A.v rfl (V.faPtr ty54 rfl ty22 (Nat.le_of_ble_eq_true rfl) rfl rfl (by first | exact Nat.le_of_ble_eq_true rfl | first | rfl | omega | (simp; done) | (simp; omega)) ?_))
    refine So.n (Nat.le_of_ble_eq_true rfl) (A.v rfl (V.ldPtr ty22 rfl rfl rfl (Nat.le_of_ble_eq_true rfl) (v := .own 10 0 _) rfl ?_))
    refine So.n (Nat.le_of_ble_eq_true rfl) (A.v rfl (V.as (v := .own 10 0 _) rfl ?_))
    refine So.n (Nat.le_of_ble_eq_true rfl) (A.v rfl (V.as (v := .p (.v (.int .i64 (0)))) rfl ?_))
    refine So.e ?_
    show HT _ _ _ _ _
    refine HT.ret ?_
    exact ret_ok (sg [(2, 10)]) h rfl rfl rfl ⟨trivial, trivial⟩ ⟨rfl, trivial, trivial⟩ rfl ⟨⟨⟨le_own2 (by first | rfl | omega) (by first | with_reducible rfl | (show (_ : Nat) = _; first | (rw [putF_no (by assumption)]; done) | (rw [putF_no (by assumption)]; rfl) | (rw [putF_yes (by assumption)]; done) | (rw [putF_yes (by assumption)]; rfl)) | (show (_ : List UInt8) = _; first | (rw [putF_no (by assumption)]; done) | (rw [putF_yes (by assumption)]; done) | (rw [putF_yes (by assumption)]; rfl)) | (show (_ : Int) = _; first | (rw [putE_no (by assumption)]; done) | (rw [putE_yes (by assumption)]; done))), rfl⟩, ⟨le_int (by first | with_reducible rfl | (show (_ : Nat) = _; first | (rw [putF_no (by assumption)]; done) | (rw [putF_no (by assumption)]; rfl) | (rw [putF_yes (by assumption)]; done) | (rw [putF_yes (by assumption)]; rfl)) | (show (_ : List UInt8) = _; first | (rw [putF_no (by assumption)]; done) | (rw [putF_yes (by assumption)]; done) | (rw [putF_yes (by assumption)]; rfl)) | (show (_ : Int) = _; first | (rw [putE_no (by assumption)]; done) | (rw [putE_yes (by assumption)]; done))), trivial⟩, trivial⟩, ⟨⟨_, rfl, .inl (ob_bs (by first | rfl | ((try dsimp only); (first | with_reducible rfl | (show (_ : Nat) = _; first | (rw [putF_no (by assumption)]; done) | (rw [putF_no (by assumption)]; rfl) | (rw [putF_yes (by assumption)]; done) | (rw [putF_yes (by assumption)]; rfl)) | (show (_ : List UInt8) = _; first | (rw [putF_no (by assumption)]; done) | (rw [putF_yes (by assumption)]; done) | (rw [putF_yes (by assumption)]; rfl)) | (show (_ : Int) = _; first | (rw [putE_no (by assumption)]; done) | (rw [putE_yes (by assumption)]; done))))) (by first | rfl | ((try dsimp only); (first | with_reducible rfl | (show (_ : Nat) = _; first | (rw [putF_no (by assumption)]; done) | (rw [putF_no (by assumption)]; rfl) | (rw [putF_yes (by assumption)]; done) | (rw [putF_yes (by assumption)]; rfl)) | (show (_ : List UInt8) = _; first | (rw [putF_no (by assumption)]; done) | (rw [putF_yes (by assumption)]; done) | (rw [putF_yes (by assumption)]; rfl)) | (show (_ : Int) = _; first | (rw [putE_no (by assumption)]; done) | (rw [putE_yes (by assumption)]; done)))))), trivial⟩, trivial⟩⟩
end Go.Vh

set_option linter.unusedVariables false
set_option linter.unusedSimpArgs false
namespace Go.Vh
open Go Go.Vc Go.Proofs Go.Vw
def samesSp : Sp := ⟨[], mkE (α := (List UInt8) × Int × Int × Int × (List UInt8) × (List UInt8) × Int × Int × Int × (List UInt8)) (fun (g, ep, fr, gn, cl, g2, ep2, fr2, gn2, cl2) => [.agg 5 (fun j => ([.bs g, .v (.int .i64 ep), .v (.int .i64 fr), .v (.int .i64 gn), .bs cl] : List PV).getD j (.v undef)), .agg 5 (fun j => ([.bs g2, .v (.int .i64 ep2), .v (.int .i64 fr2), .v (.int .i64 gn2), .bs cl2] : List PV).getD j (.v undef))]) (fun (g, ep, fr, gn, cl, g2, ep2, fr2, gn2, cl2) => []) (fun (g, ep, fr, gn, cl, g2, ep2, fr2, gn2, cl2) => True) (fun (g, ep, fr, gn, cl, g2, ep2, fr2, gn2, cl2) => [.p (.v (.bool (decide (sameSP g ep fr gn cl g2 ep2 fr2 gn2 cl2))))]) (fun (g, ep, fr, gn, cl, g2, ep2, fr2, gn2, cl2) => [])⟩
def S_sames : FuncId → Option Sp := fun _ => none
def samecSp : Sp := ⟨[], mkE (α := (List UInt8) × Int × Int × Int × (List UInt8) × (List UInt8) × Int × Int × Int × (List UInt8)) (fun (g, ep, fr, kd, bd, g2, ep2, fr2, kd2, bd2) => [.agg 5 (fun j => ([.bs g, .v (.int .i64 ep), .v (.int .i64 fr), .v (.int .i64 kd), .bs bd] : List PV).getD j (.v undef)), .agg 5 (fun j => ([.bs g2, .v (.int .i64 ep2), .v (.int .i64 fr2), .v (.int .i64 kd2), .bs bd2] : List PV).getD j (.v undef))]) (fun (g, ep, fr, kd, bd, g2, ep2, fr2, kd2, bd2) => []) (fun (g, ep, fr, kd, bd, g2, ep2, fr2, kd2, bd2) => True) (fun (g, ep, fr, kd, bd, g2, ep2, fr2, kd2, bd2) => [.p (.v (.bool (decide (sameSP g ep fr kd bd g2 ep2 fr2 kd2 bd2))))]) (fun (g, ep, fr, kd, bd, g2, ep2, fr2, kd2, bd2) => [])⟩
def S_samec : FuncId → Option Sp := fun _ => none
def samemSp : Sp := ⟨[], mkE (α := (List UInt8) × Int × Int × Int × (List UInt8) × (List UInt8) × (List UInt8) × (List UInt8) × (List UInt8) × Int × Int × Int × (List UInt8) × (List UInt8) × (List UInt8) × (List UInt8)) (fun (g, ep, fr, kd, bd, sn, cf, mb, g2, ep2, fr2, kd2, bd2, sn2, cf2, mb2) => [.agg 8 (fun j => ([.bs g, .v (.int .i64 ep), .v (.int .i64 fr), .v (.int .i64 kd), .bs bd, .bs sn, .bs cf, .bs mb] : List PV).getD j (.v undef)), .agg 8 (fun j => ([.bs g2, .v (.int .i64 ep2), .v (.int .i64 fr2), .v (.int .i64 kd2), .bs bd2, .bs sn2, .bs cf2, .bs mb2] : List PV).getD j (.v undef))]) (fun (g, ep, fr, kd, bd, sn, cf, mb, g2, ep2, fr2, kd2, bd2, sn2, cf2, mb2) => []) (fun (g, ep, fr, kd, bd, sn, cf, mb, g2, ep2, fr2, kd2, bd2, sn2, cf2, mb2) => True) (fun (g, ep, fr, kd, bd, sn, cf, mb, g2, ep2, fr2, kd2, bd2, sn2, cf2, mb2) => [.p (.v (.bool (decide (sameMP g ep fr kd bd sn cf mb g2 ep2 fr2 kd2 bd2 sn2 cf2 mb2))))]) (fun (g, ep, fr, kd, bd, sn, cf, mb, g2, ep2, fr2, kd2, bd2, sn2, cf2, mb2) => [])⟩
def S_samem : FuncId → Option Sp := fun f => if f = 42 then some samecSp else none
def greatSp : Sp := ⟨[], mkE (α := (List (List UInt8))) (fun l => [.p (.sl (l).length 1 (fun j => .bs ((l).getD j [])))]) (fun l => []) (fun l => True) (fun l => [.p (.v (.bool (greatF l)))]) (fun l => [])⟩
def S_great : FuncId → Option Sp := fun _ => none
theorem S_great_ok : ∀ f s, S_great f = some s → FOK Tryd.prog gl f s := fun f s h => by cases h
set_option maxHeartbeats 1000000 in
set_option maxRecDepth 1000 in
theorem great_ok : FOK Tryd.prog gl 9 greatSp := by
  refine FOK.ofE (tyOf_ok Tryd.prog) (slots := [2]) (nt := 16) Tryd.func9 rfl rfl rfl rfl (by decide) 1 (fun _ => rfl) (by decide) (fun _ => ⟨trivial, trivial⟩) ?_
  rintro l kk hlen hpre h
  have hl0 : (l).length ≤ 9223372036854775807 := hlen.1
  replace hpre : True := hpre
  show HT (cx Tryd.prog 16 (tyOf Tryd.prog) gl []) _ [(0, .p (.sl (l).length 1 (fun j => .bs ((l).getD j []))))] [] _
  refine HT.seq ?_
  refine HT.region S_great_ok ?_
  refine So.n (Nat.le_of_ble_eq_true rfl) (A.v rfl (V.as (v := .p (.v (.bool false))) rfl ?_))
  refine So.e ?_
  show HT _ _ _ _ _
  refine HT.seq ?_
  refine HT.seq ?_
  refine HT.region S_great_ok ?_
  refine So.n (Nat.le_of_ble_eq_true rfl) (A.v rfl (V.as (v := .p (.v (.int .i64 (0)))) rfl ?_))
  refine So.e ?_
  show HT _ _ _ _ _
  refine HT.block ?_
  refine R.loop (σ := Nat) (fun s => [(3, .p (.v (.int .i64 ((s : Int)))))]) (fun s => []) [0] [] (fun s => s ≤ l.length ∧ ∀ k, k < s → (l.getD k []).length ≤ 60000) (fun s => l.length - s) (0) (fr0 := [(0, .p (.sl _ 1 _))]) (O0 := []) rfl rfl (by exact ⟨Nat.zero_le _, fun k hk => absurd hk (Nat.not_lt_zero _)⟩) ⟨⟨⟨le_int (by first | rfl | omega), trivial⟩, ⟨.refl _, trivial⟩, trivial⟩, trivial⟩ (fun s hP0 => ?_)
  refine HT.seq ?_
  refine HT.seq ?_
  refine HT.region S_great_ok ?_
  refine So.n (Nat.le_of_ble_eq_true rfl) (A.v rfl (V.mv (v := .p (.v (.int .i64 ((_ : Nat) : Int)))) rfl ?_))
  refine So.n (Nat.le_of_ble_eq_true rfl) (A.v rfl (V.mv (v := .p (.sl _ 1 _)) rfl ?_))
  refine So.n (Nat.le_of_ble_eq_true rfl) (A.v rfl (V.len ty51 (v := .p (.sl _ 1 _)) rfl rfl ?_))
  refine So.n (Nat.le_of_ble_eq_true rfl) (A.v rfl (V.bin (a := (.v (.int .i64 ((_ : Nat) : Int)))) (b := (.v (.int .i64 _))) (r := .v (.bool _)) rfl rfl rfl trivial ?_))
  refine So.e ?_
  show HT _ _ _ _ _
  refine R.cond rfl rfl (fun h1 => ?_) (fun h1 => ?_)
  · have h1 := of_decide_eq_true h1
    refine HT.skip ?_
    show HT _ _ _ _ _
    refine HT.seq ?_
    refine HT.block ?_
    refine HT.seq ?_
    refine HT.region S_great_ok ?_
    refine So.n (Nat.le_of_ble_eq_true rfl) (A.v rfl (V.mv (v := .p (.sl _ 1 _)) rfl ?_))
    refine So.n (Nat.le_of_ble_eq_true rfl) (A.v rfl (V.mv (v := .p (.v (.int .i64 ((_ : Nat) : Int)))) rfl ?_))
    refine So.n (Nat.le_of_ble_eq_true rfl) (A.v rfl (V.ixSl1 (mi := s) ty51 ty22 rfl rfl rfl (by omega) (by omega) ?_))
    refine So.n (Nat.le_of_ble_eq_true rfl) (A.v rfl (V.ldRp ty22 rfl rfl (Nat.le_of_ble_eq_true rfl) (v := (.bs _)) rfl ?_))
    refine So.n (Nat.le_of_ble_eq_true rfl) (A.v rfl (V.len ty22 (v := .p (.bs _)) rfl rfl ?_))
    refine So.n (Nat.le_of_ble_eq_true rfl) (A.v rfl (V.bin (a := (.v (.int .i64 _))) (b := (.v (.int .i64 (60000)))) (r := .v (.bool _)) rfl rfl rfl trivial ?_))
    refine So.e ?_
    show HT _ _ _ _ _
    refine R.cond rfl rfl (fun h2 => ?_) (fun h2 => ?_)
    · have h2 := of_decide_eq_true h2
      refine HT.seq ?_
      refine HT.region S_great_ok ?_
      refine So.n (Nat.le_of_ble_eq_true rfl) (A.v rfl (V.as (v := .p (.v (.bool true))) rfl ?_))
      refine So.e ?_
      show HT _ _ _ _ _
      refine HT.ret ?_
      exact ret_ok (sg []) h rfl rfl rfl trivial ⟨trivial, trivial⟩ rfl ⟨⟨⟨le_bool (by first | exact great_yes (s := s) (by omega) (by assumption) | exact great_no (s := s) (by assumption) hP0.2), trivial⟩, trivial⟩, trivial⟩
    · have h2 := of_decide_eq_false h2
      refine HT.skip ?_
      show HT _ _ _ _ _
      refine HT.region S_great_ok ?_
      refine So.n (Nat.le_of_ble_eq_true rfl) (A.v rfl (V.mv (v := .p (.v (.int .i64 ((_ : Nat) : Int)))) rfl ?_))
      refine So.n (Nat.le_of_ble_eq_true rfl) (A.v rfl (V.addI rfl rfl (by omega) ?_))
      refine So.n (Nat.le_of_ble_eq_true rfl) (A.v rfl (V.as (v := .p (.v (.int .i64 _))) rfl ?_))
      refine So.e ?_
      refine ⟨s + 1, by exact ⟨by omega, fun k hk => by rcases Nat.lt_or_eq_of_le (Nat.le_of_lt_succ hk) with q | q; exact hP0.2 k q; subst q; omega⟩, by omega, ⟨⟨⟨le_int (by first | rfl | omega | (simp; done) | (simp; omega)), trivial⟩, ⟨.refl _, trivial⟩, trivial⟩, trivial⟩⟩
  · have h1 := of_decide_eq_false h1
    refine HT.exit ?_
    show HT _ _ _ _ _
    refine HT.seq ?_
    refine HT.region S_great_ok ?_
    refine So.n (Nat.le_of_ble_eq_true rfl) (A.v rfl (V.as (v := .p (.v (.bool false))) rfl ?_))
    refine So.e ?_
    show HT _ _ _ _ _
    refine HT.ret ?_
    exact ret_ok (sg []) h rfl rfl rfl trivial ⟨trivial, trivial⟩ rfl ⟨⟨⟨le_bool (by first | exact great_yes (s := s) (by omega) (by assumption) | exact great_no (s := s) (by assumption) hP0.2), trivial⟩, trivial⟩, trivial⟩
end Go.Vh

set_option linter.unusedVariables false
set_option linter.unusedSimpArgs false
namespace Go.Vh
open Go Go.Vc Go.Proofs Go.Vw
def faheadSp : Sp := ⟨[], mkE (α := (List UInt8) × Int × Int × Int × (List UInt8)) (fun (g, ep, fr, gn, cl) => [.agg 5 (fun j => ([.bs g, .v (.int .i64 ep), .v (.int .i64 fr), .v (.int .i64 gn), .bs cl] : List PV).getD j (.v undef))]) (fun (g, ep, fr, gn, cl) => []) (fun (g, ep, fr, gn, cl) => True) (fun (g, ep, fr, gn, cl) => [.own 2 (0) ((aheadF g ep fr gn cl).length)]) (fun (g, ep, fr, gn, cl) => [(2, ⟨5, 1, (aheadF g ep fr gn cl).length, true, .bs (aheadF g ep fr gn cl)⟩)])⟩
def S_fahead : FuncId → Option Sp := fun f => if f = 29 then some fsealSp else if f = 39 then some fwhereSp else if f = 38 then some wplaceSp else if f = 40 then some wnumSp else none
theorem S_fahead_ok : ∀ f s, S_fahead f = some s → FOK Tryd.prog gl f s := fun f s h => by
  unfold S_fahead at h
  split at h
  · rename_i e; cases h; subst e; exact fseal_ok
  split at h
  · rename_i e; cases h; subst e; exact fwhere_ok
  split at h
  · rename_i e; cases h; subst e; exact wplace_ok
  split at h
  · rename_i e; cases h; subst e; exact wnum_ok
  cases h
set_option maxHeartbeats 1000000 in
set_option maxRecDepth 1000 in
theorem fahead_ok : FOK Tryd.prog gl 18 faheadSp := by
  refine FOK.ofE (tyOf_ok Tryd.prog) (slots := [2]) (nt := 21) Tryd.func18 rfl rfl rfl rfl (by decide) 1 (fun ⟨_, _, _, _, _⟩ => rfl) (by decide) (fun ⟨_, _, _, _, _⟩ => ⟨trivial, trivial⟩) ?_
  rintro ⟨g, ep, fr, gn, cl⟩ kk hlen hpre h
  replace hpre : True := hpre
  show HT (cx Tryd.prog 21 (tyOf Tryd.prog) gl []) _ [(0, .agg 5 (fun j => ([.bs g, .v (.int .i64 ep), .v (.int .i64 fr), .v (.int .i64 gn), .bs cl] : List PV).getD j (.v undef)))] [] _
  have h8 := nu_len ep 8
  have h4 := nu_len fr 4
  have htg := tx_len g
  have hp3 : (txF g ++ nuF ep 8 ++ nuF fr 4).length = (txF g).length + (nuF ep 8).length + (nuF fr 4).length := by rw [List.length_append, List.length_append]
  have hgn := nu_len gn 4
  refine HT.seq ?_
  refine HT.region S_fahead_ok ?_
  refine So.n (Nat.le_of_ble_eq_true rfl) (A.boxAg 1 1 (n := 5) rfl (by intro j hj; first | rfl | trivial | (match j, hj with | 0, _ => (first | trivial | rfl) | 1, _ => (first | trivial | rfl) | 2, _ => (first | trivial | rfl) | 3, _ => (first | trivial | rfl) | 4, _ => (first | trivial | rfl)) | (split <;> first | rfl | trivial | (split <;> first | rfl | trivial))) rfl trivial ?_)
  refine So.n (Nat.le_of_ble_eq_true rfl) (A.v rfl (V.as (v := .p (.v (.slice none 0 0))) rfl ?_))
  refine So.e ?_
  show HT _ _ _ _ _
  refine HT.seq ?_
  refine HT.seq ?_
  refine HT.region S_fahead_ok ?_
  refine So.n (Nat.le_of_ble_eq_true rfl) (A.v rfl (V.ldPtrA ty35 rfl rfl rfl rfl (by first | exact Nat.le_of_ble_eq_true rfl | (first | rfl | omega | (simp; done) | (simp; omega))) ?_))
  refine So.n (Nat.le_of_ble_eq_true rfl) (A.call0 [.agg 5 _] 2 rfl rfl rfl rfl ⟨trivial, trivial⟩ trivial (g, ep, fr, gn, cl) ⟨le_agg (fun j hj => by match j, hj with | 0, _ => rfl | 1, _ => rfl | 2, _ => rfl | 3, _ => rfl | 4, _ => rfl), trivial⟩ trivial (by trivial) (Φ := fun _ => True) (fun _ _ => trivial) (.inl rfl) (v := .p (.v (.bool _))) rfl (O' := _) rfl (fun h1 => ?_))
  refine So.n (Nat.le_of_ble_eq_true rfl) (A.v rfl (V.not rfl ?_))
  refine So.e ?_
  show HT _ _ _ _ _
  refine R.cond rfl rfl (fun h2 => ?_) (fun h2 => ?_)
  · have h2 := of_decide_eq_false (bnT h2)
    refine HT.seq ?_
    refine HT.region S_fahead_ok ?_
    refine So.n (Nat.le_of_ble_eq_true rfl) (A.v rfl (V.as (v := .p (.v (.slice none 0 0))) rfl ?_))
    refine So.e ?_
    show HT _ _ _ _ _
    refine R.phan 2 2 5 1 (.bs []) rfl rfl rfl ⟨rfl, rfl⟩ ?_
    refine HT.ret ?_
    exact ret_ok (sg [(2, 2)]) h rfl rfl rfl ⟨trivial, trivial⟩ ⟨rfl, trivial⟩ rfl ⟨⟨⟨le_own2 (by first | rfl | omega) (by first | with_reducible rfl | (show (_ : Nat) = _; first | (rw [aheadF_no (by assumption)]; done) | (rw [aheadF_no (by assumption)]; rfl) | (rw [aheadF_yes (by assumption)]; done) | (rw [aheadF_yes (by assumption)]; rfl)) | (show (_ : List UInt8) = _; first | (rw [aheadF_no (by assumption)]; done) | (rw [aheadF_yes (by assumption)]; done) | (rw [aheadF_yes (by assumption)]; rfl)) | (show (_ : Int) = _; first | (rw [sealE_no (by assumption)]; done) | (rw [sealE_yes (by assumption)]; done))), rfl⟩, trivial⟩, ⟨⟨_, rfl, .inl (ob_bs (by first | rfl | ((try dsimp only); (first | with_reducible rfl | (show (_ : Nat) = _; first | (rw [aheadF_no (by assumption)]; done) | (rw [aheadF_no (by assumption)]; rfl) | (rw [aheadF_yes (by assumption)]; done) | (rw [aheadF_yes (by assumption)]; rfl)) | (show (_ : List UInt8) = _; first | (rw [aheadF_no (by assumption)]; done) | (rw [aheadF_yes (by assumption)]; done) | (rw [aheadF_yes (by assumption)]; rfl)) | (show (_ : Int) = _; first | (rw [sealE_no (by assumption)]; done) | (rw [sealE_yes (by assumption)]; done))))) (by first | rfl | ((try dsimp only); (first | with_reducible rfl | (show (_ : Nat) = _; first | (rw [aheadF_no (by assumption)]; done) | (rw [aheadF_no (by assumption)]; rfl) | (rw [aheadF_yes (by assumption)]; done) | (rw [aheadF_yes (by assumption)]; rfl)) | (show (_ : List UInt8) = _; first | (rw [aheadF_no (by assumption)]; done) | (rw [aheadF_yes (by assumption)]; done) | (rw [aheadF_yes (by assumption)]; rfl)) | (show (_ : Int) = _; first | (rw [sealE_no (by assumption)]; done) | (rw [sealE_yes (by assumption)]; done)))))), trivial⟩, trivial⟩⟩
  · have h2 := of_decide_eq_true (bnF h2)
    refine HT.skip ?_
    show HT _ _ _ _ _
    refine HT.seq ?_
    refine HT.region S_fahead_ok ?_
    refine So.n (Nat.le_of_ble_eq_true rfl) (A.bldG ty54 rfl trivial rfl rfl ?_)
    refine So.n (Nat.le_of_ble_eq_true rfl) (A.boxG 2 1 [.p (.v (.slice none 0 0))] rfl (by intro j hj; match j, hj with | 0, _ => (first | exact trivial | exact rfl)) rfl (by intro j hj; match j, hj with | 0, _ => rfl) rfl trivial ?_)
    refine So.n (Nat.le_of_ble_eq_true rfl) (A.v rfl (V.as (v := .ptr 2 0) rfl ?_))
    refine So.e ?_
    show HT _ _ _ _ _
    refine HT.seq ?_
    refine HT.phanC 2 3 5 1 (.bs []) (c' := .cells [.own 3 0 0]) rfl rfl rfl ⟨rfl, rfl⟩ rfl (allP_spec (P := fun j => _ ∨ _) ⟨trivial, .inr ⟨rfl, rfl⟩⟩) rfl ?_
    show HT _ _ _ _ _
    refine HT.region S_fahead_ok ?_
    refine So.n (Nat.le_of_ble_eq_true rfl) (A.v rfl (V.mv (v := .ptr 2 0) rfl ?_))
    refine So.n (Nat.le_of_ble_eq_true rfl) (A.v rfl (V.ldPtrA ty35 rfl rfl rfl rfl (by first | exact Nat.le_of_ble_eq_true rfl | (first | rfl | omega | (simp; done) | (simp; omega))) ?_))
    refine So.n (Nat.le_of_ble_eq_true rfl) (A.call0 [.agg 5 _] 4 rfl rfl rfl rfl ⟨trivial, trivial⟩ trivial (g, ep, fr, gn, cl) ⟨le_agg (fun j hj => by match j, hj with | 0, _ => rfl | 1, _ => rfl | 2, _ => rfl | 3, _ => rfl | 4, _ => rfl), trivial⟩ trivial (by trivial) (Φ := fun _ => True) (fun _ _ => trivial) (.inl rfl) (v := .agg 3 _) rfl (O' := _) rfl (fun h3 => ?_))
    refine So.n (Nat.le_of_ble_eq_true rfl) (A.call [.ptr 1 _, .agg 3 _] [(1, ⟨_, _, _, _, .cells [.own 2 0 _]⟩), (2, ⟨_, _, _, _, .bs _⟩)] (sg [(1, 2), (2, 3)]) 4 rfl rfl rfl rfl ⟨rfl, rfl, trivial⟩ rfl ⟨⟨rfl, trivial⟩, trivial, trivial⟩ ⟨rfl, trivial, trivial⟩ trivial rfl (nl, g, ep, fr) ⟨.refl _, .refl _, trivial⟩ ⟨⟨_, rfl, .inl rfl, ⟨rfl, trivial⟩⟩, ⟨_, rfl, .inl rfl, trivial⟩, trivial⟩ (by first | omega | (simp only [List.drop_zero, List.take_length]; omega) | (simp; done) | (simp; omega)) (Φ := fun _ => True) (fun _ _ => trivial) ⟨⟨_, _, rfl, rfl, rfl, Nat.le_refl _⟩, trivial⟩ (.inl rfl) rfl (v := .tup 0 _) rfl (O' := (2, ⟨_, _, _, _, .cells _⟩) :: (6, ⟨_, _, _, _, .bs _⟩) :: _) rfl (fun h4 => ?_))
    refine So.e ?_
    show HT _ _ _ _ _
    refine HT.seq ?_
    refine R.tell [] [(2, ⟨54, 1, 1, true, .cells [.own 6 (0) ((txF g ++ nuF ep 8 ++ nuF fr 4).length)]⟩), (6, ⟨5, 1, (txF g ++ nuF ep 8 ++ nuF fr 4).length, true, .bs (txF g ++ nuF ep 8 ++ nuF fr 4)⟩)] [1, 2, 3] [1] (fr0 := [(1, .ptr 1 0), (2, .p (.v (.slice none 0 0))), (3, .ptr 2 0)]) (O0 := [(1, ⟨_, _, _, _, .rows _⟩)]) rfl rfl ⟨⟨⟨.refl _, rfl⟩, ⟨.refl _, trivial⟩, ⟨.refl _, rfl⟩, trivial⟩, ⟨⟨_, rfl, .inl (by first | rfl | (simp only [nl, List.nil_append]; rfl) | (simp only [nl, List.nil_append])), ⟨rfl, trivial⟩⟩, ⟨_, rfl, .inl (ob_bs (by first | rfl | (simp only [nl, List.nil_append]; rfl) | (simp only [nl, List.nil_append])) (by first | rfl | (simp only [nl, List.nil_append]; rfl) | (simp only [nl, List.nil_append]))), trivial⟩, ⟨_, rfl, .inl rfl, trivial⟩, trivial⟩⟩ ?_
    show HT _ _ _ _ _
    refine HT.region S_fahead_ok ?_
    refine So.n (Nat.le_of_ble_eq_true rfl) (A.v rfl (V.mv (v := .ptr 2 0) rfl ?_))
    refine So.n (Nat.le_of_ble_eq_true rfl) (A.v rfl (V.faPtr ty35 rfl ty2 (Nat.le_of_ble_eq_true rfl) rfl rfl (by first | exact Nat.le_of_ble_eq_true rfl | first | rfl | omega | (simp; done) | (simp; omega)) ?_))
    refine So.n (Nat.le_of_ble_eq_true rfl) (A.v rfl (V.ldPtr ty2 rfl rfl rfl (by first | exact Nat.le_of_ble_eq_true rfl | (first | rfl | omega | (simp; done) | (simp; omega))) (v := .p (.v (.int .i64 _))) rfl ?_))
    refine So.n (Nat.le_of_ble_eq_true rfl) (A.call [.ptr 1 _, .p (.v (.int .i64 _)), .p (.v (.int .i64 _))] [(1, ⟨_, _, _, _, .cells [.own 2 0 _]⟩), (2, ⟨_, _, _, _, .bs _⟩)] (sg [(1, 2), (2, 6)]) 7 rfl rfl rfl rfl ⟨rfl, rfl, trivial⟩ rfl ⟨⟨rfl, trivial⟩, trivial, trivial⟩ ⟨rfl, trivial, trivial, trivial⟩ trivial rfl (txF g ++ nuF ep 8 ++ nuF fr 4, gn, 4) ⟨.refl _, .refl _, .refl _, trivial⟩ ⟨⟨_, rfl, .inl rfl, ⟨rfl, trivial⟩⟩, ⟨_, rfl, .inl rfl, trivial⟩, trivial⟩ (by first | omega | (simp only [List.drop_zero, List.take_length]; omega) | (simp; done) | (simp; omega)) (Φ := fun _ => True) (fun _ _ => trivial) ⟨⟨_, _, rfl, rfl, rfl, Nat.le_refl _⟩, trivial⟩ (.inl rfl) rfl (v := .tup 0 _) rfl (O' := (2, ⟨_, _, _, _, .cells _⟩) :: (9, ⟨_, _, _, _, .bs _⟩) :: _) rfl (fun h5 => ?_))
    refine So.e ?_
    show HT _ _ _ _ _
    refine HT.seq ?_
    refine R.tell [] [(2, ⟨54, 1, 1, true, .cells [.own 9 (0) ((aheadB g ep fr gn).length)]⟩), (9, ⟨5, 1, (aheadB g ep fr gn).length, true, .bs (aheadB g ep fr gn)⟩)] [2, 3] [] (fr0 := [(2, .p (.v (.slice none 0 0))), (3, .ptr 2 0)]) (O0 := []) rfl rfl ⟨⟨⟨.refl _, trivial⟩, ⟨.refl _, rfl⟩, trivial⟩, ⟨⟨_, rfl, .inl (by first | rfl | (skip; rfl) | (skip)), ⟨rfl, trivial⟩⟩, ⟨_, rfl, .inl (ob_bs (by first | rfl | (skip; rfl) | (skip)) (by first | rfl | (skip; rfl) | (skip))), trivial⟩, trivial⟩⟩ ?_
    show HT _ _ _ _ _
    refine HT.region S_fahead_ok ?_
    refine So.n (Nat.le_of_ble_eq_true rfl) (A.v rfl (V.mv (v := .ptr 2 0) rfl ?_))
    refine So.n (Nat.le_of_ble_eq_true rfl) (A.v rfl (V.ncPtr rfl ?_))
    refine So.n (Nat.le_of_ble_eq_true rfl) (A.v rfl (V.faPtr ty54 rfl ty22 (Nat.le_of_ble_eq_true rfl) rfl rfl (by first | exact Nat.le_of_ble_eq_true rfl | first | rfl | omega | (simp; done) | (simp; omega)) ?_))
    refine So.n (Nat.le_of_ble_eq_true rfl) (A.v rfl (V.ldPtr ty22 rfl rfl rfl (Nat.le_of_ble_eq_true rfl) (v := .own 9 0 _) rfl ?_))
    refine So.n (Nat.le_of_ble_eq_true rfl) (A.v rfl (V.as (v := .own 9 0 _) rfl ?_))
    refine So.e ?_
    show HT _ _ _ _ _
    refine HT.ret ?_
    exact ret_ok (sg [(2, 9)]) h rfl rfl rfl ⟨trivial, trivial⟩ ⟨rfl, trivial⟩ rfl ⟨⟨⟨le_own2 (by first | rfl | omega) (by first | with_reducible rfl | (show (_ : Nat) = _; first | (rw [aheadF_no (by assumption)]; done) | (rw [aheadF_no (by assumption)]; rfl) | (rw [aheadF_yes (by assumption)]; done) | (rw [aheadF_yes (by assumption)]; rfl)) | (show (_ : List UInt8) = _; first | (rw [aheadF_no (by assumption)]; done) | (rw [aheadF_yes (by assumption)]; done) | (rw [aheadF_yes (by assumption)]; rfl)) | (show (_ : Int) = _; first | (rw [sealE_no (by assumption)]; done) | (rw [sealE_yes (by assumption)]; done))), rfl⟩, trivial⟩, ⟨⟨_, rfl, .inl (ob_bs (by first | rfl | ((try dsimp only); (first | with_reducible rfl | (show (_ : Nat) = _; first | (rw [aheadF_no (by assumption)]; done) | (rw [aheadF_no (by assumption)]; rfl) | (rw [aheadF_yes (by assumption)]; done) | (rw [aheadF_yes (by assumption)]; rfl)) | (show (_ : List UInt8) = _; first | (rw [aheadF_no (by assumption)]; done) | (rw [aheadF_yes (by assumption)]; done) | (rw [aheadF_yes (by assumption)]; rfl)) | (show (_ : Int) = _; first | (rw [sealE_no (by assumption)]; done) | (rw [sealE_yes (by assumption)]; done))))) (by first | rfl | ((try dsimp only); (first | with_reducible rfl | (show (_ : Nat) = _; first | (rw [aheadF_no (by assumption)]; done) | (rw [aheadF_no (by assumption)]; rfl) | (rw [aheadF_yes (by assumption)]; done) | (rw [aheadF_yes (by assumption)]; rfl)) | (show (_ : List UInt8) = _; first | (rw [aheadF_no (by assumption)]; done) | (rw [aheadF_yes (by assumption)]; done) | (rw [aheadF_yes (by assumption)]; rfl)) | (show (_ : Int) = _; first | (rw [sealE_no (by assumption)]; done) | (rw [sealE_yes (by assumption)]; done)))))), trivial⟩, trivial⟩⟩
end Go.Vh

set_option linter.unusedVariables false
set_option linter.unusedSimpArgs false
namespace Go.Vh
open Go Go.Vc Go.Proofs Go.Vw
def fputsSp : Sp := ⟨[], mkE (α := (List UInt8) × Int × Int × Int × (List UInt8)) (fun (g, ep, fr, gn, cl) => [.agg 5 (fun j => ([.bs g, .v (.int .i64 ep), .v (.int .i64 fr), .v (.int .i64 gn), .bs cl] : List PV).getD j (.v undef))]) (fun (g, ep, fr, gn, cl) => []) (fun (g, ep, fr, gn, cl) => True) (fun (g, ep, fr, gn, cl) => [.own 2 (0) ((sealF g ep fr gn cl).length), .p (.v (.int .i64 (sealE g ep fr gn cl)))]) (fun (g, ep, fr, gn, cl) => [(2, ⟨5, 1, (sealF g ep fr gn cl).length, true, .bs (sealF g ep fr gn cl)⟩)])⟩
def S_fputs : FuncId → Option Sp := fun f => if f = 29 then some fsealSp else if f = 18 then some faheadSp else if f = 25 then some wtextSp else none
theorem S_fputs_ok : ∀ f s, S_fputs f = some s → FOK Tryd.prog gl f s := fun f s h => by
  unfold S_fputs at h
  split at h
  · rename_i e; cases h; subst e; exact fseal_ok
  split at h
  · rename_i e; cases h; subst e; exact fahead_ok
  split at h
  · rename_i e; cases h; subst e; exact wtext_ok
  cases h
set_option maxHeartbeats 1000000 in
set_option maxRecDepth 1000 in
theorem fputs_ok : FOK Tryd.prog gl 13 fputsSp := by
  refine FOK.ofE (tyOf_ok Tryd.prog) (slots := [2, 3]) (nt := 21) Tryd.func13 rfl rfl rfl rfl (by decide) 1 (fun ⟨_, _, _, _, _⟩ => rfl) (by decide) (fun ⟨_, _, _, _, _⟩ => ⟨trivial, trivial⟩) ?_
  rintro ⟨g, ep, fr, gn, cl⟩ kk hlen hpre h
  replace hpre : True := hpre
  show HT (cx Tryd.prog 21 (tyOf Tryd.prog) gl []) _ [(0, .agg 5 (fun j => ([.bs g, .v (.int .i64 ep), .v (.int .i64 fr), .v (.int .i64 gn), .bs cl] : List PV).getD j (.v undef)))] [] _
  have hal := ahead_len g ep fr gn
  refine HT.seq ?_
  refine HT.region S_fputs_ok ?_
  refine So.n (Nat.le_of_ble_eq_true rfl) (A.boxAg 1 1 (n := 5) rfl (by intro j hj; first | rfl | trivial | (match j, hj with | 0, _ => (first | trivial | rfl) | 1, _ => (first | trivial | rfl) | 2, _ => (first | trivial | rfl) | 3, _ => (first | trivial | rfl) | 4, _ => (first | trivial | rfl)) | (split <;> first | rfl | trivial | (split <;> first | rfl | trivial))) rfl trivial ?_)
  refine So.n (Nat.le_of_ble_eq_true rfl) (A.v rfl (V.as (v := .p (.v (.slice none 0 0))) rfl ?_))
  refine So.n (Nat.le_of_ble_eq_true rfl) (A.v rfl (V.as (v := .p (.v (.int .i64 (0)))) rfl ?_))
  refine So.e ?_
  show HT _ _ _ _ _
  refine HT.seq ?_
  refine HT.seq ?_
  refine HT.region S_fputs_ok ?_
  refine So.n (Nat.le_of_ble_eq_true rfl) (A.v rfl (V.ldPtrA ty35 rfl rfl rfl rfl (by first | exact Nat.le_of_ble_eq_true rfl | (first | rfl | omega | (simp; done) | (simp; omega))) ?_))
  refine So.n (Nat.le_of_ble_eq_true rfl) (A.call0 [.agg 5 _] 2 rfl rfl rfl rfl ⟨trivial, trivial⟩ trivial (g, ep, fr, gn, cl) ⟨le_agg (fun j hj => by match j, hj with | 0, _ => rfl | 1, _ => rfl | 2, _ => rfl | 3, _ => rfl | 4, _ => rfl), trivial⟩ trivial (by trivial) (Φ := fun _ => True) (fun _ _ => trivial) (.inl rfl) (v := .p (.v (.bool _))) rfl (O' := _) rfl (fun h1 => ?_))
  refine So.n (Nat.le_of_ble_eq_true rfl) (A.v rfl (V.not rfl ?_))
  refine So.e ?_
  show HT _ _ _ _ _
  refine R.cond rfl rfl (fun h2 => ?_) (fun h2 => ?_)
  · have h2 := of_decide_eq_false (bnT h2)
    refine HT.seq ?_
    refine HT.region S_fputs_ok ?_
    refine So.n (Nat.le_of_ble_eq_true rfl) (A.v rfl (V.as (v := .p (.v (.slice none 0 0))) rfl ?_))
    refine So.n (Nat.le_of_ble_eq_true rfl) (A.v rfl (V.as (v := .p (.v (.int .i64 (181)))) rfl ?_))
    refine So.e ?_
    show HT _ _ _ _ _
    refine R.phan 2 2 5 1 (.bs []) rfl rfl rfl ⟨rfl, rfl⟩ ?_
    refine HT.ret ?_
    exact ret_ok (sg [(2, 2)]) h rfl rfl rfl ⟨trivial, trivial⟩ ⟨rfl, trivial, trivial⟩ rfl ⟨⟨⟨le_own2 (by first | rfl | omega) (by first | with_reducible rfl | (show (_ : Nat) = _; first | (rw [sealF_no (by assumption)]; done) | (rw [sealF_no (by assumption)]; rfl) | (rw [sealF_yes (by assumption)]; done) | (rw [sealF_yes (by assumption)]; rfl)) | (show (_ : List UInt8) = _; first | (rw [sealF_no (by assumption)]; done) | (rw [sealF_yes (by assumption)]; done) | (rw [sealF_yes (by assumption)]; rfl)) | (show (_ : Int) = _; first | (rw [sealE_no (by assumption)]; done) | (rw [sealE_yes (by assumption)]; done))), rfl⟩, ⟨le_int (by first | with_reducible rfl | (show (_ : Nat) = _; first | (rw [sealF_no (by assumption)]; done) | (rw [sealF_no (by assumption)]; rfl) | (rw [sealF_yes (by assumption)]; done) | (rw [sealF_yes (by assumption)]; rfl)) | (show (_ : List UInt8) = _; first | (rw [sealF_no (by assumption)]; done) | (rw [sealF_yes (by assumption)]; done) | (rw [sealF_yes (by assumption)]; rfl)) | (show (_ : Int) = _; first | (rw [sealE_no (by assumption)]; done) | (rw [sealE_yes (by assumption)]; done))), trivial⟩, trivial⟩, ⟨⟨_, rfl, .inl (ob_bs (by first | rfl | ((try dsimp only); (first | with_reducible rfl | (show (_ : Nat) = _; first | (rw [sealF_no (by assumption)]; done) | (rw [sealF_no (by assumption)]; rfl) | (rw [sealF_yes (by assumption)]; done) | (rw [sealF_yes (by assumption)]; rfl)) | (show (_ : List UInt8) = _; first | (rw [sealF_no (by assumption)]; done) | (rw [sealF_yes (by assumption)]; done) | (rw [sealF_yes (by assumption)]; rfl)) | (show (_ : Int) = _; first | (rw [sealE_no (by assumption)]; done) | (rw [sealE_yes (by assumption)]; done))))) (by first | rfl | ((try dsimp only); (first | with_reducible rfl | (show (_ : Nat) = _; first | (rw [sealF_no (by assumption)]; done) | (rw [sealF_no (by assumption)]; rfl) | (rw [sealF_yes (by assumption)]; done) | (rw [sealF_yes (by assumption)]; rfl)) | (show (_ : List UInt8) = _; first | (rw [sealF_no (by assumption)]; done) | (rw [sealF_yes (by assumption)]; done) | (rw [sealF_yes (by assumption)]; rfl)) | (show (_ : Int) = _; first | (rw [sealE_no (by assumption)]; done) | (rw [sealE_yes (by assumption)]; done)))))), trivial⟩, trivial⟩⟩
  · have h2 := of_decide_eq_true (bnF h2)
    refine HT.skip ?_
    show HT _ _ _ _ _
    refine HT.seq ?_
    refine HT.region S_fputs_ok ?_
    refine So.n (Nat.le_of_ble_eq_true rfl) (A.v rfl (V.ldPtrA ty35 rfl rfl rfl rfl (by first | exact Nat.le_of_ble_eq_true rfl | (first | rfl | omega | (simp; done) | (simp; omega))) ?_))
    refine So.n (Nat.le_of_ble_eq_true rfl) (A.call0 [.agg 5 _] 2 rfl rfl rfl rfl ⟨trivial, trivial⟩ trivial (g, ep, fr, gn, cl) ⟨le_agg (fun j hj => by match j, hj with | 0, _ => rfl | 1, _ => rfl | 2, _ => rfl | 3, _ => rfl | 4, _ => rfl), trivial⟩ trivial (by trivial) (Φ := fun _ => True) (fun _ _ => trivial) (.inl rfl) (v := .own 4 0 _) rfl (O' := (4, ⟨5, 1, _, true, .bs _⟩) :: _) rfl (fun h3 => ?_))
    refine So.n (Nat.le_of_ble_eq_true rfl) (A.bldG ty54 rfl ⟨by first | exact trivial | exact rfl | (intro j hj; first | trivial | rfl | (simp [BV.one]; done)), trivial⟩ rfl rfl ?_)
    refine So.n (Nat.le_of_ble_eq_true rfl) (A.boxG 5 1 [.own 4 0 _] rfl (by intro j hj; match j, hj with | 0, _ => (first | exact trivial | exact rfl)) rfl (by intro j hj; match j, hj with | 0, _ => rfl) rfl trivial ?_)
    refine So.n (Nat.le_of_ble_eq_true rfl) (A.v rfl (V.as (v := .ptr 5 0) rfl ?_))
    refine So.e ?_
    show HT _ _ _ _ _
    refine HT.seq ?_
    refine HT.region S_fputs_ok ?_
    have haf := aheadF_yes (by assumption : sealP g ep fr gn cl)
    have hafl := congrArg List.length haf
    refine So.n (Nat.le_of_ble_eq_true rfl) (A.v rfl (V.mv (v := .ptr 5 0) rfl ?_))
    refine So.n (Nat.le_of_ble_eq_true rfl) (A.v rfl (V.faPtr ty35 rfl ty22 (Nat.le_of_ble_eq_true rfl) rfl rfl (by first | exact Nat.le_of_ble_eq_true rfl | first | rfl | omega | (simp; done) | (simp; omega)) ?_))
    refine So.n (Nat.le_of_ble_eq_true rfl) (A.v rfl (V.ldPtr ty22 rfl rfl rfl (by first | exact Nat.le_of_ble_eq_true rfl | (first | rfl | omega | (simp; done) | (simp; omega))) (v := .p (.bs _)) rfl ?_))
    refine So.n (Nat.le_of_ble_eq_true rfl) (A.bsl 6 ty51 ty22 rfl (Nat.le_of_ble_eq_true rfl) (Nat.le_of_ble_eq_true rfl) (fun _ => rfl) rfl rfl trivial ⟨trivial, trivial⟩ rfl (N := 1) rfl (c := .rows _) rfl ?_)
    refine So.n (Nat.le_of_ble_eq_true rfl) (A.call [.ptr 1 _, .p (.sl _ _ _)] [(1, ⟨_, _, _, _, .cells [.own 2 0 _]⟩), (2, ⟨_, _, _, _, .bs _⟩)] (sg [(1, 5), (2, 4)]) 7 rfl rfl rfl rfl ⟨rfl, rfl, trivial⟩ rfl ⟨⟨rfl, trivial⟩, trivial, trivial⟩ ⟨rfl, trivial, trivial⟩ trivial rfl (aheadF g ep fr gn cl, [cl]) ⟨.refl _, le_sl rfl (by intro j hj; match j, hj with | 0, _ => rfl), trivial⟩ ⟨⟨_, rfl, .inl rfl, ⟨rfl, trivial⟩⟩, ⟨_, rfl, .inl rfl, trivial⟩, trivial⟩ (by first | omega | (simp only [List.drop_zero, List.take_length]; omega) | (simp; done) | (simp; omega)) (Φ := fun _ => True) (fun _ _ => trivial) ⟨⟨_, _, rfl, rfl, rfl, Nat.le_refl _⟩, trivial⟩ (.inr ⟨fun _ hj => absurd hj (Nat.not_lt_zero _), by simp [Hp.scal, OC.scal, PV.scal, BV.scal]⟩) rfl (v := .tup 0 _) rfl (O' := (5, ⟨_, _, _, _, .cells _⟩) :: (9, ⟨_, _, _, _, .bs _⟩) :: _) rfl (fun h4 => ?_))
    refine So.e ?_
    show HT _ _ _ _ _
    refine HT.seq ?_
    refine R.tell [] [(5, ⟨54, 1, 1, true, .cells [.own 9 (0) ((aheadB g ep fr gn ++ txF cl).length)]⟩), (9, ⟨5, 1, (aheadB g ep fr gn ++ txF cl).length, true, .bs (aheadB g ep fr gn ++ txF cl)⟩)] [2, 3, 4] [] (fr0 := [(2, .p (.v (.slice none 0 0))), (3, .p (.v (.int .i64 _))), (4, .ptr 5 0)]) (O0 := []) rfl rfl ⟨⟨⟨.refl _, trivial⟩, ⟨.refl _, trivial⟩, ⟨.refl _, rfl⟩, trivial⟩, ⟨⟨_, rfl, .inl (by first | rfl | (rw [txL_1, haf]; rfl) | (rw [txL_1, haf])), ⟨rfl, trivial⟩⟩, ⟨_, rfl, .inl (ob_bs (by first | rfl | (rw [txL_1, haf]; rfl) | (rw [txL_1, haf])) (by first | rfl | (rw [txL_1, haf]; rfl) | (rw [txL_1, haf]))), trivial⟩, trivial⟩⟩ ?_
    show HT _ _ _ _ _
    refine HT.region S_fputs_ok ?_
    refine So.n (Nat.le_of_ble_eq_true rfl) (A.v rfl (V.mv (v := .ptr 5 0) rfl ?_))
    refine So.n (Nat.le_of_ble_eq_true rfl) (A.v rfl (V.ncPtr rfl ?_))
    refine So.n (Nat.le_of_ble_eq_true rfl) (A.v rfl (V.faPtr ty54 rfl ty22 (Nat.le_of_ble_eq_true rfl) rfl rfl (by first | exact Nat.le_of_ble_eq_true rfl | first | rfl | omega | (simp; done) | (simp; omega)) ?_))
    refine So.n (Nat.le_of_ble_eq_true rfl) (A.v rfl (V.ldPtr ty22 rfl rfl rfl (Nat.le_of_ble_eq_true rfl) (v := .own 9 0 _) rfl ?_))
    refine So.n (Nat.le_of_ble_eq_true rfl) (A.v rfl (V.as (v := .own 9 0 _) rfl ?_))
    refine So.n (Nat.le_of_ble_eq_true rfl) (A.v rfl (V.as (v := .p (.v (.int .i64 (0)))) rfl ?_))
    refine So.e ?_
    show HT _ _ _ _ _
    refine HT.ret ?_
    exact ret_ok (sg [(2, 9)]) h rfl rfl rfl ⟨trivial, trivial⟩ ⟨rfl, trivial, trivial⟩ rfl ⟨⟨⟨le_own2 (by first | rfl | omega) (by first | with_reducible rfl | (show (_ : Nat) = _; first | (rw [sealF_no (by assumption)]; done) | (rw [sealF_no (by assumption)]; rfl) | (rw [sealF_yes (by assumption)]; done) | (rw [sealF_yes (by assumption)]; rfl)) | (show (_ : List UInt8) = _; first | (rw [sealF_no (by assumption)]; done) | (rw [sealF_yes (by assumption)]; done) | (rw [sealF_yes (by assumption)]; rfl)) | (show (_ : Int) = _; first | (rw [sealE_no (by assumption)]; done) | (rw [sealE_yes (by assumption)]; done))), rfl⟩, ⟨le_int (by first | with_reducible rfl | (show (_ : Nat) = _; first | (rw [sealF_no (by assumption)]; done) | (rw [sealF_no (by assumption)]; rfl) | (rw [sealF_yes (by assumption)]; done) | (rw [sealF_yes (by assumption)]; rfl)) | (show (_ : List UInt8) = _; first | (rw [sealF_no (by assumption)]; done) | (rw [sealF_yes (by assumption)]; done) | (rw [sealF_yes (by assumption)]; rfl)) | (show (_ : Int) = _; first | (rw [sealE_no (by assumption)]; done) | (rw [sealE_yes (by assumption)]; done))), trivial⟩, trivial⟩, ⟨⟨_, rfl, .inl (ob_bs (by first | rfl | ((try dsimp only); (first | with_reducible rfl | (show (_ : Nat) = _; first | (rw [sealF_no (by assumption)]; done) | (rw [sealF_no (by assumption)]; rfl) | (rw [sealF_yes (by assumption)]; done) | (rw [sealF_yes (by assumption)]; rfl)) | (show (_ : List UInt8) = _; first | (rw [sealF_no (by assumption)]; done) | (rw [sealF_yes (by assumption)]; done) | (rw [sealF_yes (by assumption)]; rfl)) | (show (_ : Int) = _; first | (rw [sealE_no (by assumption)]; done) | (rw [sealE_yes (by assumption)]; done))))) (by first | rfl | ((try dsimp only); (first | with_reducible rfl | (show (_ : Nat) = _; first | (rw [sealF_no (by assumption)]; done) | (rw [sealF_no (by assumption)]; rfl) | (rw [sealF_yes (by assumption)]; done) | (rw [sealF_yes (by assumption)]; rfl)) | (show (_ : List UInt8) = _; first | (rw [sealF_no (by assumption)]; done) | (rw [sealF_yes (by assumption)]; done) | (rw [sealF_yes (by assumption)]; rfl)) | (show (_ : Int) = _; first | (rw [sealE_no (by assumption)]; done) | (rw [sealE_yes (by assumption)]; done)))))), trivial⟩, trivial⟩⟩
end Go.Vh

set_option linter.unusedVariables false
set_option linter.unusedSimpArgs false
namespace Go.Vh
open Go Go.Vc Go.Proofs Go.Vw
def getTextSp : Sp := ⟨[], mkE (α := (List UInt8) × Int) (fun (b, i) => [.p (.bs (b)), .p (.v (.int .i64 (i)))]) (fun (b, i) => []) (fun (b, i) => True) (fun (b, i) => [.own 1 (0) ((getTextF b i).1.length), .p (.v (.int .i64 ((getTextF b i).2.1))), .p (.v (.int .i64 ((getTextF b i).2.2)))]) (fun (b, i) => [(1, ⟨5, 1, ((getTextF b i).1).length, true, .bs ((getTextF b i).1)⟩)])⟩
def S_getText : FuncId → Option Sp := fun f => if f = 61 then some spanSp else if f = 62 then some cloneSp else none
theorem S_getText_ok : ∀ f s, S_getText f = some s → FOK Tryd.prog gl f s := fun f s h => by
  unfold S_getText at h
  split at h
  · rename_i e; cases h; subst e; exact span_ok
  split at h
  · rename_i e; cases h; subst e; exact clone_ok
  cases h
set_option maxHeartbeats 1000000 in
set_option maxRecDepth 1000 in
theorem getText_ok : FOK Tryd.prog gl 49 getTextSp := by
  refine FOK.ofE (tyOf_ok Tryd.prog) (slots := [4, 5, 6]) (nt := 26) Tryd.func49 rfl rfl rfl rfl (by decide) 2 (fun ⟨_, _⟩ => rfl) (by decide) (fun ⟨_, _⟩ => ⟨trivial, trivial, trivial⟩) ?_
  rintro ⟨b, i⟩ kk hlen hpre h
  have hl0 : (b).length ≤ 9223372036854775807 := hlen.1
  replace hpre : True := hpre
  show HT (cx Tryd.prog 26 (tyOf Tryd.prog) gl []) _ [(0, .p (.bs (b))), (1, .p (.v (.int .i64 (i))))] [] _
  refine HT.seq ?_
  refine HT.region S_getText_ok ?_
  refine So.n (Nat.le_of_ble_eq_true rfl) (A.v rfl (V.as (v := .p (.v (.slice none 0 0))) rfl ?_))
  refine So.n (Nat.le_of_ble_eq_true rfl) (A.v rfl (V.as (v := .p (.v (.int .i64 (0)))) rfl ?_))
  refine So.n (Nat.le_of_ble_eq_true rfl) (A.v rfl (V.as (v := .p (.v (.int .i64 (0)))) rfl ?_))
  refine So.e ?_
  show HT _ _ _ _ _
  refine HT.seq ?_
  refine HT.region S_getText_ok ?_
  refine So.n (Nat.le_of_ble_eq_true rfl) (A.v rfl (V.mv (v := .p (.bs _)) rfl ?_))
  refine So.n (Nat.le_of_ble_eq_true rfl) (A.v rfl (V.mv (v := .p (.v (.int .i64 _))) rfl ?_))
  refine So.n (Nat.le_of_ble_eq_true rfl) (A.call0 [.p (.bs _), .p (.v (.int .i64 _))] 1 rfl rfl rfl rfl ⟨trivial, trivial, trivial⟩ trivial (_, _) ⟨.refl _, .refl _, trivial⟩ trivial (by trivial) (Φ := fun (b, i) => (spanF b i).2.2 = 0 → 0 ≤ i ∧ i < (spanF b i).1 ∧ (spanF b i).1 ≤ (spanF b i).2.1 ∧ (spanF b i).2.1 ≤ b.length ∧ (spanF b i).2.1 - (spanF b i).1 ≤ 1048576) (fun (b, i) _ => spanF_ok b i) (.inl rfl) (v := .tup 3 _) rfl (O' := _) rfl (fun h1 => ?_))
  try dsimp only at h1
  refine So.n (Nat.le_of_ble_eq_true rfl) (A.v rfl (V.mv (v := .tup 3 _) rfl ?_))
  refine So.n (Nat.le_of_ble_eq_true rfl) (A.v rfl (V.ext rfl (Nat.le_of_ble_eq_true rfl) (v := .p (.v (.int .i64 _))) rfl ?_))
  refine So.n (Nat.le_of_ble_eq_true rfl) (A.v rfl (V.ext rfl (Nat.le_of_ble_eq_true rfl) (v := .p (.v (.int .i64 _))) rfl ?_))
  refine So.n (Nat.le_of_ble_eq_true rfl) (A.v rfl (V.ext rfl (Nat.le_of_ble_eq_true rfl) (v := .p (.v (.int .i64 _))) rfl ?_))
  refine So.n (Nat.le_of_ble_eq_true rfl) (A.v rfl (V.as (v := .p (.v (.int .i64 _))) rfl ?_))
  refine So.n (Nat.le_of_ble_eq_true rfl) (A.v rfl (V.as (v := .p (.v (.int .i64 _))) rfl ?_))
  refine So.n (Nat.le_of_ble_eq_true rfl) (A.v rfl (V.as (v := .p (.v (.int .i64 _))) rfl ?_))
  refine So.e ?_
  show HT _ _ _ _ _
  refine HT.seq ?_
  refine HT.seq ?_
  refine HT.region S_getText_ok ?_
  refine So.n (Nat.le_of_ble_eq_true rfl) (A.v rfl (V.mv (v := .p (.v (.int .i64 _))) rfl ?_))
  refine So.n (Nat.le_of_ble_eq_true rfl) (A.v rfl (V.bin (a := (.v (.int .i64 _))) (b := (.v (.int .i64 (0)))) (r := .v (.bool _)) rfl rfl rfl trivial ?_))
  refine So.e ?_
  show HT _ _ _ _ _
  refine R.cond rfl rfl (fun h2 => ?_) (fun h2 => ?_)
  · have h2 := of_decide_eq_false (bnT h2)
    refine HT.seq ?_
    refine HT.region S_getText_ok ?_
    refine So.n (Nat.le_of_ble_eq_true rfl) (A.v rfl (V.mv (v := .p (.v (.int .i64 _))) rfl ?_))
    refine So.n (Nat.le_of_ble_eq_true rfl) (A.v rfl (V.as (v := .p (.v (.slice none 0 0))) rfl ?_))
    refine So.n (Nat.le_of_ble_eq_true rfl) (A.v rfl (V.as (v := .p (.v (.int .i64 (0)))) rfl ?_))
    refine So.n (Nat.le_of_ble_eq_true rfl) (A.v rfl (V.as (v := .p (.v (.int .i64 _))) rfl ?_))
    refine So.e ?_
    show HT _ _ _ _ _
    refine R.phan 4 1 5 1 (.bs []) rfl rfl rfl ⟨rfl, rfl⟩ ?_
    refine HT.ret ?_
    exact ret_ok (sg [(1, 1)]) h rfl rfl rfl ⟨trivial, trivial⟩ ⟨rfl, trivial, trivial, trivial⟩ rfl ⟨⟨⟨le_own2 (by first | rfl | omega) (by first | rfl | (unfold getTextF; simp (disch := omega) only [if_pos, if_neg, ne_eq] <;> first | rfl | (simp; done))), rfl⟩, ⟨le_int (by first | rfl | (unfold getTextF; simp (disch := omega) only [if_pos, if_neg, ne_eq] <;> first | rfl | (simp; done))), trivial⟩, ⟨le_int (by first | rfl | (unfold getTextF; simp (disch := omega) only [if_pos, if_neg, ne_eq] <;> first | rfl | (simp; done))), trivial⟩, trivial⟩, ⟨⟨_, rfl, .inl (ob_bs (by first | rfl | ((try dsimp only); (first | rfl | (unfold getTextF; simp (disch := omega) only [if_pos, if_neg, ne_eq] <;> first | rfl | (simp; done))))) (by first | rfl | ((try dsimp only); (first | rfl | (unfold getTextF; simp (disch := omega) only [if_pos, if_neg, ne_eq] <;> first | rfl | (simp; done)))))), trivial⟩, trivial⟩⟩
  · have h2 := of_decide_eq_true (bnF h2)
    refine HT.skip ?_
    show HT _ _ _ _ _
    refine HT.seq ?_
    refine HT.region S_getText_ok ?_
    refine So.n (Nat.le_of_ble_eq_true rfl) (A.v rfl (V.mv (v := .p (.bs _)) rfl ?_))
    refine So.n (Nat.le_of_ble_eq_true rfl) (A.v rfl (V.mv (v := .p (.v (.int .i64 _))) rfl ?_))
    refine So.n (Nat.le_of_ble_eq_true rfl) (A.v rfl (V.mv (v := .p (.v (.int .i64 _))) rfl ?_))
    refine So.n (Nat.le_of_ble_eq_true rfl) (A.v rfl (V.cutBs ty22 ty5 rfl rfl rfl rfl (by omega) (.inl rfl) rfl ?_))
    refine So.n (Nat.le_of_ble_eq_true rfl) (A.call0 [.p (.bs _)] 1 rfl rfl rfl rfl ⟨trivial, trivial⟩ trivial _ ⟨.refl _, trivial⟩ trivial (by first | omega | (simp; omega)) (Φ := fun _ => True) (fun _ _ => trivial) (.inl rfl) (v := .own 2 0 _) rfl (O' := (2, ⟨5, 1, _, true, .bs _⟩) :: _) rfl (fun h3 => ?_))
    refine So.n (Nat.le_of_ble_eq_true rfl) (A.v rfl (V.mv (v := .p (.v (.int .i64 _))) rfl ?_))
    refine So.n (Nat.le_of_ble_eq_true rfl) (A.v rfl (V.as (v := .own 2 0 _) rfl ?_))
    refine So.n (Nat.le_of_ble_eq_true rfl) (A.v rfl (V.as (v := .p (.v (.int .i64 _))) rfl ?_))
    refine So.n (Nat.le_of_ble_eq_true rfl) (A.v rfl (V.as (v := .p (.v (.int .i64 (0)))) rfl ?_))
    refine So.e ?_
    show HT _ _ _ _ _
    refine HT.ret ?_
    exact ret_ok (sg [(1, 2)]) h rfl rfl rfl ⟨trivial, trivial⟩ ⟨rfl, trivial, trivial, trivial⟩ rfl ⟨⟨⟨le_own2 (by first | rfl | omega) (by first | rfl | (unfold getTextF; simp (disch := omega) only [if_pos, if_neg, ne_eq] <;> first | rfl | (simp; done))), rfl⟩, ⟨le_int (by first | rfl | (unfold getTextF; simp (disch := omega) only [if_pos, if_neg, ne_eq] <;> first | rfl | (simp; done))), trivial⟩, ⟨le_int (by first | rfl | (unfold getTextF; simp (disch := omega) only [if_pos, if_neg, ne_eq] <;> first | rfl | (simp; done))), trivial⟩, trivial⟩, ⟨⟨_, rfl, .inl (ob_bs (by first | rfl | ((try dsimp only); (first | rfl | (unfold getTextF; simp (disch := omega) only [if_pos, if_neg, ne_eq] <;> first | rfl | (simp; done))))) (by first | rfl | ((try dsimp only); (first | rfl | (unfold getTextF; simp (disch := omega) only [if_pos, if_neg, ne_eq] <;> first | rfl | (simp; done)))))), trivial⟩, trivial⟩⟩
end Go.Vh

set_option linter.unusedVariables false
set_option linter.unusedSimpArgs false
namespace Go.Vh
open Go Go.Vc Go.Proofs Go.Vw
def rtext_pSp : Sp := ⟨[1, 2], mkE (α := (List UInt8) × Int × Int × (Nat → PV)) (fun (b, p, e, f) => [.ptr 1 (0), .own 3 (0) (1)]) (fun (b, p, e, f) => [(1, ⟨63, 1, 3, true, .rows (fun j => ([.bs b, .v (.int .i64 p), .v (.int .i64 e)] : List PV).getD j (.v undef))⟩), (2, ⟨57, 1, 3, true, .rows (fun j => if j = 0 then .bs ([]) else f j)⟩), (3, ⟨67, 1, 1, true, .cells [.ptr 2 (0)]⟩)]) (fun (b, p, e, f) => True) (fun (b, p, e, f) => []) (fun (b, p, e, f) => [(1, ⟨63, 1, 3, true, .rows (fun j => ([.bs b, .v (.int .i64 (rdT b p e).2.1), .v (.int .i64 (rdT b p e).2.2)] : List PV).getD j (.v undef))⟩), (2, ⟨57, 1, 3, true, .rows (fun j => if j = 0 then .bs ((rdT b p e).1) else f j)⟩)])⟩
def S_rtext_p : FuncId → Option Sp := fun f => if f = 49 then some getTextSp else none
theorem S_rtext_p_ok : ∀ f s, S_rtext_p f = some s → FOK Tryd.prog gl f s := fun f s h => by
  unfold S_rtext_p at h
  split at h
  · rename_i e; cases h; subst e; exact getText_ok
  cases h
theorem S_rtext_p_det : ∀ f s, S_rtext_p f = some s → SpDet s.sp := fun f s h => by
  unfold S_rtext_p at h
  split at h
  · cases h; exact mkE_det _ _ _ _ _
  cases h
set_option maxHeartbeats 1000000 in
set_option maxRecDepth 1000 in
theorem rtext_p_ok : FOK Tryd.prog gl 34 rtext_pSp := by
  refine FOK.ofE (tyOf_ok Tryd.prog) (slots := []) (nt := 39) Tryd.func34 rfl rfl rfl rfl (by decide) 2 (fun ⟨_, _, _, _⟩ => rfl) (by decide) (fun ⟨_, _, _, _⟩ => ⟨rfl, rfl, trivial⟩) ?_
  rintro ⟨b, p, e, f⟩ kk hlen hpre h
  have hl1 : _ ≤ 9223372036854775807 := hlen.2.1
  replace hpre : True := hpre
  show HT (cx Tryd.prog 39 (tyOf Tryd.prog) gl [1, 2]) _ [(0, .ptr 1 (0)), (1, .own 3 (0) (1))] [(1, ⟨63, 1, 3, true, .rows (fun j => ([.bs b, .v (.int .i64 p), .v (.int .i64 e)] : List PV).getD j (.v undef))⟩), (2, ⟨57, 1, 3, true, .rows (fun j => if j = 0 then .bs ([]) else f j)⟩), (3, ⟨67, 1, 1, true, .cells [.ptr 2 (0)]⟩)] _
  refine HT.seq ?_
  refine HT.region S_rtext_p_ok ?_
  refine So.n (Nat.le_of_ble_eq_true rfl) (A.v rfl (V.mv (v := .own 3 0 _) rfl ?_))
  refine So.n (Nat.le_of_ble_eq_true rfl) (A.v rfl (V.len ty83 (v := .own 3 0 _) rfl rfl ?_))
  refine So.n (Nat.le_of_ble_eq_true rfl) (A.v rfl (V.mv (v := .p (.v (.int .i64 (0)))) rfl ?_))
  refine So.e ?_
  show HT _ _ _ _ _
  refine HT.block ?_
  refine HT.rounds 2 ?_
  show HT _ _ _ _ _
  refine HT.seq ?_
  refine HT.region S_rtext_p_ok ?_
  refine So.n (Nat.le_of_ble_eq_true rfl) (A.v rfl (V.bin (a := (.v (.int .i64 _))) (b := (.v (.int .i64 _))) (r := .v (.bool _)) rfl rfl rfl trivial ?_))
  refine So.e ?_
  show HT _ _ _ _ _
  refine HT.seq ?_
  refine R.cond rfl rfl (fun h1 => ?_) (fun h1 => ?_)
  · have h1 := of_decide_eq_true h1
    refine HT.skip ?_
    show HT _ _ _ _ _
    refine HT.seq ?_
    refine HT.block ?_
    refine HT.seq ?_
    refine HT.region S_rtext_p_ok ?_
    refine So.n (Nat.le_of_ble_eq_true rfl) (A.v rfl (V.ixOwn10 ty83 ty67 rfl rfl rfl rfl rfl (by omega) rfl ?_))
    refine So.n (Nat.le_of_ble_eq_true rfl) (A.v rfl (V.ldPtr ty67 rfl rfl rfl (Nat.le_of_ble_eq_true rfl) (v := .ptr 2 0) rfl ?_))
    refine So.n (Nat.le_of_ble_eq_true rfl) (A.v rfl (V.as (v := .ptr 2 0) rfl ?_))
    refine So.e ?_
    show HT _ _ _ _ _
    refine HT.seq ?_
    refine HT.region S_rtext_p_ok ?_
    refine So.n (Nat.le_of_ble_eq_true rfl) (A.v rfl (V.mv (v := .ptr 1 0) rfl ?_))
    refine So.n (Nat.le_of_ble_eq_true rfl) (A.v rfl (V.ncPtr rfl ?_))
    refine So.n (Nat.le_of_ble_eq_true rfl) (A.v rfl (V.faPtr ty63 rfl ty29 (Nat.le_of_ble_eq_true rfl) rfl rfl (by first | exact Nat.le_of_ble_eq_true rfl | first | rfl | omega | (simp; done) | (simp; omega)) ?_))
    refine So.n (Nat.le_of_ble_eq_true rfl) (A.v rfl (V.ldPtr ty29 rfl rfl rfl (by first | exact Nat.le_of_ble_eq_true rfl | (first | rfl | omega | (simp; done) | (simp; omega))) (v := .p (.v (.int .i64 _))) rfl ?_))
    refine So.n (Nat.le_of_ble_eq_true rfl) (A.v rfl (V.bin (a := (.v (.int .i64 _))) (b := (.v (.int .i64 (0)))) (r := .v (.bool _)) rfl rfl rfl trivial ?_))
    refine So.e ?_
    show HT _ _ _ _ _
    refine R.cond rfl rfl (fun h2 => ?_) (fun h2 => ?_)
    · have h2 := of_decide_eq_true h2
      refine HT.planS S_rtext_p_ok S_rtext_p_det mixed [] [⟨[0, 1, 2, 3, 4, 5, 6, 7, 8, 9, 10, 11, 12, 13, 14, 15, 16], 17, [1, 2, 14, 15]⟩, ⟨[1, 2, 14, 15, 18, 19], 20, [2, 15]⟩, ⟨[2, 15, 21, 22], 23, []⟩] (by kernel_rfl) ?_
      refine Pl.lk ?_
      refine Si.n rfl (Nat.le_of_ble_eq_true rfl) (V.mv (v := .ptr 2 0) rfl ?_)
      refine Si.n rfl (Nat.le_of_ble_eq_true rfl) (V.mv (v := .ptr 1 0) rfl ?_)
      refine Si.n rfl (Nat.le_of_ble_eq_true rfl) (V.mv (v := .ptr 1 0) rfl ?_)
      refine Si.n rfl (Nat.le_of_ble_eq_true rfl) (V.mv (v := .ptr 1 0) rfl ?_)
      refine Si.n rfl (Nat.le_of_ble_eq_true rfl) (V.ncPtr rfl ?_)
      refine Si.n rfl (Nat.le_of_ble_eq_true rfl) (V.faPtr ty63 rfl ty22 (Nat.le_of_ble_eq_true rfl) rfl rfl (by first | exact Nat.le_of_ble_eq_true rfl | first | rfl | omega | (simp; done) | (simp; omega)) ?_)
      refine Si.n rfl (Nat.le_of_ble_eq_true rfl) (V.ldPtr ty22 rfl rfl rfl (by first | exact Nat.le_of_ble_eq_true rfl | (first | rfl | omega | (simp; done) | (simp; omega))) (v := .p (.bs _)) rfl ?_)
      refine Si.n rfl (Nat.le_of_ble_eq_true rfl) (V.mv (v := .ptr 1 0) rfl ?_)
      refine Si.n rfl (Nat.le_of_ble_eq_true rfl) (V.ncPtr rfl ?_)
      refine Si.n rfl (Nat.le_of_ble_eq_true rfl) (V.faPtr ty63 rfl ty3 (Nat.le_of_ble_eq_true rfl) rfl rfl (by first | exact Nat.le_of_ble_eq_true rfl | first | rfl | omega | (simp; done) | (simp; omega)) ?_)
      refine Si.n rfl (Nat.le_of_ble_eq_true rfl) (V.ldPtr ty3 rfl rfl rfl (by first | exact Nat.le_of_ble_eq_true rfl | (first | rfl | omega | (simp; done) | (simp; omega))) (v := .p (.v (.int .i64 _))) rfl ?_)
      refine Si.n rfl (Nat.le_of_ble_eq_true rfl) (V.call [.p (.bs _), .p (.v (.int .i64 _))] 4 rfl rfl rfl rfl ⟨trivial, trivial, trivial⟩ ⟨Nat.le_of_ble_eq_true rfl, Nat.le_of_ble_eq_true rfl, trivial⟩ (_, _) ⟨.refl _, .refl _, trivial⟩ trivial (by trivial) (Φ := fun (b, i) => ((getTextF b i).2.2 = 0 → 0 ≤ i ∧ i < (getTextF b i).2.1 ∧ (getTextF b i).2.1 ≤ b.length) ∧ (getTextF b i).1.length ≤ 1048576) (fun (b, i) _ => ⟨getTextF_ok b i, getTextF_len b i⟩) (.inl ⟨trivial, trivial, trivial⟩) (v := .tup 3 _) rfl (fun h3 => ?_))
      try dsimp only at h3
      refine Si.n rfl (Nat.le_of_ble_eq_true rfl) (V.mv (v := .tup 3 _) rfl ?_)
      refine Si.n rfl (Nat.le_of_ble_eq_true rfl) (V.ext rfl (Nat.le_of_ble_eq_true rfl) (v := .p (.bs _)) rfl ?_)
      refine Si.n rfl (Nat.le_of_ble_eq_true rfl) (V.ext rfl (Nat.le_of_ble_eq_true rfl) (v := .p (.v (.int .i64 _))) rfl ?_)
      refine Si.n rfl (Nat.le_of_ble_eq_true rfl) (V.ext rfl (Nat.le_of_ble_eq_true rfl) (v := .p (.v (.int .i64 _))) rfl ?_)
      refine Si.n rfl (Nat.le_of_ble_eq_true rfl) (V.ncPtr rfl ?_)
      refine Si.e ?_
      refine ⟨flEq_nil, fun ff => ?_⟩
      refine Lo.s rfl (A.sto ty22 rfl rfl rfl (v := .p (.bs _)) rfl trivial rfl (by first | exact Nat.le_of_ble_eq_true rfl | (first | rfl | omega | (simp; done) | (simp; omega))) rfl rfl ?_)
      refine ⟨_, fun ff => ff, ap0, rfl, FG.id, ?_⟩
      show planA _ _ _ _ _ [(1, .ptr 1 0), (2, .ptr 1 0), (14, .p (.v (.int .i64 _))), (15, .p (.v (.int .i64 _)))] _ _ _
      refine Pl.lk ?_
      refine Si.n rfl (Nat.le_of_ble_eq_true rfl) (V.mv (v := .ptr 1 0) rfl ?_)
      refine Si.n rfl (Nat.le_of_ble_eq_true rfl) (V.mv (v := .ptr 1 0) rfl ?_)
      refine Si.n rfl (Nat.le_of_ble_eq_true rfl) (V.ext rfl (Nat.le_of_ble_eq_true rfl) (v := .p (.v (.int .i64 _))) rfl ?_)
      refine Si.n rfl (Nat.le_of_ble_eq_true rfl) (V.ext rfl (Nat.le_of_ble_eq_true rfl) (v := .p (.v (.int .i64 _))) rfl ?_)
      refine Si.n rfl (Nat.le_of_ble_eq_true rfl) (V.ncPtr rfl ?_)
      refine Si.n rfl (Nat.le_of_ble_eq_true rfl) (V.faPtr ty63 rfl ty3 (Nat.le_of_ble_eq_true rfl) rfl rfl (by first | exact Nat.le_of_ble_eq_true rfl | first | rfl | omega | (simp; done) | (simp; omega)) ?_)
      refine Si.e ?_
      refine ⟨(flEq_cons rfl (flEq_cons rfl (flEq_cons rfl (flEq_cons rfl flEq_nil)))), fun ff => ?_⟩
      refine Lo.s rfl (A.sto ty3 rfl rfl rfl (v := .p (.v (.int .i64 _))) rfl rfl rfl (by first | exact Nat.le_of_ble_eq_true rfl | (first | rfl | omega | (simp; done) | (simp; omega))) rfl rfl ?_)
      refine ⟨_, fun ff => ff, ap0, rfl, FG.id, ?_⟩
      show planA _ _ _ _ _ [(2, .ptr 1 0), (15, .p (.v (.int .i64 _)))] _ _ _
      refine Pl.l0 ?_
      refine Si.n rfl (Nat.le_of_ble_eq_true rfl) (V.mv (v := .ptr 1 0) rfl ?_)
      refine Si.n rfl (Nat.le_of_ble_eq_true rfl) (V.ext rfl (Nat.le_of_ble_eq_true rfl) (v := .p (.v (.int .i64 _))) rfl ?_)
      refine Si.n rfl (Nat.le_of_ble_eq_true rfl) (V.ncPtr rfl ?_)
      refine Si.n rfl (Nat.le_of_ble_eq_true rfl) (V.faPtr ty63 rfl ty29 (Nat.le_of_ble_eq_true rfl) rfl rfl (by first | exact Nat.le_of_ble_eq_true rfl | first | rfl | omega | (simp; done) | (simp; omega)) ?_)
      refine Si.e ?_
      refine ⟨(flEq_cons rfl (flEq_cons rfl flEq_nil)), ?_⟩
      refine Lo.s rfl (A.sto ty29 rfl rfl rfl (v := .p (.v (.int .i64 _))) rfl rfl rfl (by first | exact Nat.le_of_ble_eq_true rfl | (first | rfl | omega | (simp; done) | (simp; omega))) rfl rfl ?_)
      refine Pl.e ?_
      refine Si.e ?_
      refine ⟨flEq_nil, ?_⟩
      show HT _ _ _ _ _
      refine R.tell [] [(1, ⟨63, 1, 3, true, .rows (fun j => ([.bs b, .v (.int .i64 (rdT b p e).2.1), .v (.int .i64 (rdT b p e).2.2)] : List PV).getD j (.v undef))⟩), (2, ⟨57, 1, 3, true, .rows (fun j => if j = 0 then .bs ((rdT b p e).1) else f j)⟩)] [0, 6, 7, 8] [3] (fr0 := [(0, .ptr 1 0), (6, .own 3 0 _), (7, .p (.v (.int .i64 _))), (8, .p (.v (.int .i64 _)))]) (O0 := [(3, ⟨_, _, _, _, .cells [.ptr 2 0]⟩)]) rfl rfl ⟨⟨⟨.refl _, rfl⟩, ⟨.refl _, rfl⟩, ⟨.refl _, trivial⟩, ⟨.refl _, trivial⟩, trivial⟩, ⟨⟨_, rfl, .inr (ob_rows (by rfl) (by first | (rw [show rdT b p e = Go.Vh.gT b p from rdT_0 (e := e) (by assumption)]; (intro j hj; match j, hj with | 0, _ => rfl | 1, _ => rfl | 2, _ => rfl)) | (rw [show rdT b p e = ([], p, e) from rdT_1 (e := e) (by assumption)]; (intro j hj; match j, hj with | 0, _ => rfl | 1, _ => rfl | 2, _ => rfl)))), trivial⟩, ⟨_, rfl, .inr (ob_rows (by rfl) (by first | (rw [show rdT b p e = Go.Vh.gT b p from rdT_0 (e := e) (by assumption)]; intro j hj; by_cases h0 : j = 0 <;> first | (simp [h0, gT]; done) | (exfalso; omega)) | (rw [show rdT b p e = ([], p, e) from rdT_1 (e := e) (by assumption)]; intro j hj; by_cases h0 : j = 0 <;> first | (simp [h0, gT]; done) | (exfalso; omega)))), trivial⟩, ⟨_, rfl, .inl rfl, ⟨rfl, trivial⟩⟩, trivial⟩⟩ ?_
      show HT _ _ _ _ _
      refine HT.region S_rtext_p_ok ?_
      refine So.n (Nat.le_of_ble_eq_true rfl) (A.v rfl (V.addI rfl rfl (by omega) ?_))
      refine So.n (Nat.le_of_ble_eq_true rfl) (A.v rfl (V.mv (v := .p (.v (.int .i64 _))) rfl ?_))
      refine So.e ?_
      show HT _ _ _ _ _
      refine HT.seq ?_
      refine HT.region S_rtext_p_ok ?_
      refine So.n (Nat.le_of_ble_eq_true rfl) (A.v rfl (V.bin (a := (.v (.int .i64 _))) (b := (.v (.int .i64 _))) (r := .v (.bool _)) rfl rfl rfl trivial ?_))
      refine So.e ?_
      show HT _ _ _ _ _
      refine HT.seq ?_
      refine R.cond rfl rfl (fun h4 => ?_) (fun h4 => ?_)
      · have h4 := of_decide_eq_true h4
        exfalso; omega
      · have h4 := of_decide_eq_false h4
        refine HT.exit ?_
        exact ret_ok (sg [(1, 1), (2, 2)]) h rfl rfl rfl ⟨trivial, trivial, trivial⟩ trivial rfl ⟨trivial, ⟨⟨_, rfl, .inr (ob_rows (by first | rfl | ((try dsimp only); (first | with_reducible rfl | (intro j hj; rfl)))) (by first | rfl | ((try dsimp only); (first | with_reducible rfl | (intro j hj; rfl))))), trivial⟩, ⟨_, rfl, .inr (ob_rows (by first | rfl | ((try dsimp only); (first | with_reducible rfl | (intro j hj; rfl)))) (by first | rfl | ((try dsimp only); (first | with_reducible rfl | (intro j hj; rfl))))), trivial⟩, trivial⟩⟩
    · have h2 := of_decide_eq_false h2
      refine HT.skip ?_
      show HT _ _ _ _ _
      refine R.tell [] [(1, ⟨63, 1, 3, true, .rows (fun j => ([.bs b, .v (.int .i64 (rdT b p e).2.1), .v (.int .i64 (rdT b p e).2.2)] : List PV).getD j (.v undef))⟩), (2, ⟨57, 1, 3, true, .rows (fun j => if j = 0 then .bs ((rdT b p e).1) else f j)⟩)] [0, 6, 7, 8] [3] (fr0 := [(0, .ptr 1 0), (6, .own 3 0 _), (7, .p (.v (.int .i64 _))), (8, .p (.v (.int .i64 _)))]) (O0 := [(3, ⟨_, _, _, _, .cells [.ptr 2 0]⟩)]) rfl rfl ⟨⟨⟨.refl _, rfl⟩, ⟨.refl _, rfl⟩, ⟨.refl _, trivial⟩, ⟨.refl _, trivial⟩, trivial⟩, ⟨⟨_, rfl, .inr (ob_rows (by rfl) (by first | (rw [show rdT b p e = Go.Vh.gT b p from rdT_0 (e := e) (by assumption)]; (intro j hj; match j, hj with | 0, _ => rfl | 1, _ => rfl | 2, _ => rfl)) | (rw [show rdT b p e = ([], p, e) from rdT_1 (e := e) (by assumption)]; (intro j hj; match j, hj with | 0, _ => rfl | 1, _ => rfl | 2, _ => rfl)))), trivial⟩, ⟨_, rfl, .inr (ob_rows (by rfl) (by first | (rw [show rdT b p e = Go.Vh.gT b p from rdT_0 (e := e) (by assumption)]; intro j hj; by_cases h0 : j = 0 <;> first | (simp [h0, gT]; done) | (exfalso; omega)) | (rw [show rdT b p e = ([], p, e) from rdT_1 (e := e) (by assumption)]; intro j hj; by_cases h0 : j = 0 <;> first | (simp [h0, gT]; done) | (exfalso; omega)))), trivial⟩, ⟨_, rfl, .inl rfl, ⟨rfl, trivial⟩⟩, trivial⟩⟩ ?_
      show HT _ _ _ _ _
      refine HT.region S_rtext_p_ok ?_
      refine So.n (Nat.le_of_ble_eq_true rfl) (A.v rfl (V.addI rfl rfl (by omega) ?_))
      refine So.n (Nat.le_of_ble_eq_true rfl) (A.v rfl (V.mv (v := .p (.v (.int .i64 _))) rfl ?_))
      refine So.e ?_
      show HT _ _ _ _ _
      refine HT.seq ?_
      refine HT.region S_rtext_p_ok ?_
      refine So.n (Nat.le_of_ble_eq_true rfl) (A.v rfl (V.bin (a := (.v (.int .i64 _))) (b := (.v (.int .i64 _))) (r := .v (.bool _)) rfl rfl rfl trivial ?_))
      refine So.e ?_
      show HT _ _ _ _ _
      refine HT.seq ?_
      refine R.cond rfl rfl (fun h5 => ?_) (fun h5 => ?_)
      · have h5 := of_decide_eq_true h5
        exfalso; omega
      · have h5 := of_decide_eq_false h5
        refine HT.exit ?_
        exact ret_ok (sg [(1, 1), (2, 2)]) h rfl rfl rfl ⟨trivial, trivial, trivial⟩ trivial rfl ⟨trivial, ⟨⟨_, rfl, .inr (ob_rows (by first | rfl | ((try dsimp only); (first | with_reducible rfl | (intro j hj; rfl)))) (by first | rfl | ((try dsimp only); (first | with_reducible rfl | (intro j hj; rfl))))), trivial⟩, ⟨_, rfl, .inr (ob_rows (by first | rfl | ((try dsimp only); (first | with_reducible rfl | (intro j hj; rfl)))) (by first | rfl | ((try dsimp only); (first | with_reducible rfl | (intro j hj; rfl))))), trivial⟩, trivial⟩⟩
  · have h1 := of_decide_eq_false h1
    exfalso; omega
def rtext_sSp : Sp := ⟨[1, 2], mkE (α := (List UInt8) × Int × Int × (Nat → PV)) (fun (b, p, e, f) => [.ptr 1 (0), .own 3 (0) (1)]) (fun (b, p, e, f) => [(1, ⟨63, 1, 3, true, .rows (fun j => ([.bs b, .v (.int .i64 p), .v (.int .i64 e)] : List PV).getD j (.v undef))⟩), (2, ⟨35, 1, 5, true, .rows (fun j => if j = 4 then .bs ([]) else f j)⟩), (3, ⟨67, 1, 1, true, .cells [.ptr 2 (4)]⟩)]) (fun (b, p, e, f) => True) (fun (b, p, e, f) => []) (fun (b, p, e, f) => [(1, ⟨63, 1, 3, true, .rows (fun j => ([.bs b, .v (.int .i64 (rdT b p e).2.1), .v (.int .i64 (rdT b p e).2.2)] : List PV).getD j (.v undef))⟩), (2, ⟨35, 1, 5, true, .rows (fun j => if j = 4 then .bs ((rdT b p e).1) else f j)⟩)])⟩
def S_rtext_s : FuncId → Option Sp := fun f => if f = 49 then some getTextSp else none
def rtext_bSp : Sp := ⟨[1, 2], mkE (α := (List UInt8) × Int × Int × (Nat → PV)) (fun (b, p, e, f) => [.ptr 1 (0), .own 3 (0) (1)]) (fun (b, p, e, f) => [(1, ⟨63, 1, 3, true, .rows (fun j => ([.bs b, .v (.int .i64 p), .v (.int .i64 e)] : List PV).getD j (.v undef))⟩), (2, ⟨26, 1, 8, true, .rows (fun j => if j = 4 then .bs ([]) else f j)⟩), (3, ⟨67, 1, 1, true, .cells [.ptr 2 (4)]⟩)]) (fun (b, p, e, f) => True) (fun (b, p, e, f) => []) (fun (b, p, e, f) => [(1, ⟨63, 1, 3, true, .rows (fun j => ([.bs b, .v (.int .i64 (rdT b p e).2.1), .v (.int .i64 (rdT b p e).2.2)] : List PV).getD j (.v undef))⟩), (2, ⟨26, 1, 8, true, .rows (fun j => if j = 4 then .bs ((rdT b p e).1) else f j)⟩)])⟩
def S_rtext_b : FuncId → Option Sp := fun f => if f = 49 then some getTextSp else none
theorem S_rtext_b_ok : ∀ f s, S_rtext_b f = some s → FOK Tryd.prog gl f s := fun f s h => by
  unfold S_rtext_b at h
  split at h
  · rename_i e; cases h; subst e; exact getText_ok
  cases h
theorem S_rtext_b_det : ∀ f s, S_rtext_b f = some s → SpDet s.sp := fun f s h => by
  unfold S_rtext_b at h
  split at h
  · cases h; exact mkE_det _ _ _ _ _
  cases h
set_option maxHeartbeats 1000000 in
set_option maxRecDepth 1000 in
theorem rtext_b_ok : FOK Tryd.prog gl 34 rtext_bSp := by
  refine FOK.ofE (tyOf_ok Tryd.prog) (slots := []) (nt := 39) Tryd.func34 rfl rfl rfl rfl (by decide) 2 (fun ⟨_, _, _, _⟩ => rfl) (by decide) (fun ⟨_, _, _, _⟩ => ⟨rfl, rfl, trivial⟩) ?_
  rintro ⟨b, p, e, f⟩ kk hlen hpre h
  have hl1 : _ ≤ 9223372036854775807 := hlen.2.1
  replace hpre : True := hpre
  show HT (cx Tryd.prog 39 (tyOf Tryd.prog) gl [1, 2]) _ [(0, .ptr 1 (0)), (1, .own 3 (0) (1))] [(1, ⟨63, 1, 3, true, .rows (fun j => ([.bs b, .v (.int .i64 p), .v (.int .i64 e)] : List PV).getD j (.v undef))⟩), (2, ⟨26, 1, 8, true, .rows (fun j => if j = 4 then .bs ([]) else f j)⟩), (3, ⟨67, 1, 1, true, .cells [.ptr 2 (4)]⟩)] _
  refine HT.seq ?_
  refine HT.region S_rtext_b_ok ?_
  refine So.n (Nat.le_of_ble_eq_true rfl) (A.v rfl (V.mv (v := .own 3 0 _) rfl ?_))
  refine So.n (Nat.le_of_ble_eq_true rfl) (A.v rfl (V.len ty83 (v := .own 3 0 _) rfl rfl ?_))
  refine So.n (Nat.le_of_ble_eq_true rfl) (A.v rfl (V.mv (v := .p (.v (.int .i64 (0)))) rfl ?_))
  refine So.e ?_
  show HT _ _ _ _ _
  refine HT.block ?_
  refine HT.rounds 2 ?_
  show HT _ _ _ _ _
  refine HT.seq ?_
  refine HT.region S_rtext_b_ok ?_
  refine So.n (Nat.le_of_ble_eq_true rfl) (A.v rfl (V.bin (a := (.v (.int .i64 _))) (b := (.v (.int .i64 _))) (r := .v (.bool _)) rfl rfl rfl trivial ?_))
  refine So.e ?_
  show HT _ _ _ _ _
  refine HT.seq ?_
  refine R.cond rfl rfl (fun h1 => ?_) (fun h1 => ?_)
  · have h1 := of_decide_eq_true h1
    refine HT.skip ?_
    show HT _ _ _ _ _
    refine HT.seq ?_
    refine HT.block ?_
    refine HT.seq ?_
    refine HT.region S_rtext_b_ok ?_
    refine So.n (Nat.le_of_ble_eq_true rfl) (A.v rfl (V.ixOwn10 ty83 ty67 rfl rfl rfl rfl rfl (by omega) rfl ?_))
    refine So.n (Nat.le_of_ble_eq_true rfl) (A.v rfl (V.ldPtr ty67 rfl rfl rfl (Nat.le_of_ble_eq_true rfl) (v := .ptr 2 4) rfl ?_))
    refine So.n (Nat.le_of_ble_eq_true rfl) (A.v rfl (V.as (v := .ptr 2 4) rfl ?_))
    refine So.e ?_
    show HT _ _ _ _ _
    refine HT.seq ?_
    refine HT.region S_rtext_b_ok ?_
    refine So.n (Nat.le_of_ble_eq_true rfl) (A.v rfl (V.mv (v := .ptr 1 0) rfl ?_))
    refine So.n (Nat.le_of_ble_eq_true rfl) (A.v rfl (V.ncPtr rfl ?_))
    refine So.n (Nat.le_of_ble_eq_true rfl) (A.v rfl (V.faPtr ty63 rfl ty29 (Nat.le_of_ble_eq_true rfl) rfl rfl (by first | exact Nat.le_of_ble_eq_true rfl | first | rfl | omega | (simp; done) | (simp; omega)) ?_))
    refine So.n (Nat.le_of_ble_eq_true rfl) (A.v rfl (V.ldPtr ty29 rfl rfl rfl (by first | exact Nat.le_of_ble_eq_true rfl | (first | rfl | omega | (simp; done) | (simp; omega))) (v := .p (.v (.int .i64 _))) rfl ?_))
    refine So.n (Nat.le_of_ble_eq_true rfl) (A.v rfl (V.bin (a := (.v (.int .i64 _))) (b := (.v (.int .i64 (0)))) (r := .v (.bool _)) rfl rfl rfl trivial ?_))
    refine So.e ?_
    show HT _ _ _ _ _
    refine R.cond rfl rfl (fun h2 => ?_) (fun h2 => ?_)
    · have h2 := of_decide_eq_true h2
      refine HT.planS S_rtext_b_ok S_rtext_b_det mixed [] [⟨[0, 1, 2, 3, 4, 5, 6, 7, 8, 9, 10, 11, 12, 13, 14, 15, 16], 17, [1, 2, 14, 15]⟩, ⟨[1, 2, 14, 15, 18, 19], 20, [2, 15]⟩, ⟨[2, 15, 21, 22], 23, []⟩] (by kernel_rfl) ?_
      refine Pl.lk ?_
      refine Si.n rfl (Nat.le_of_ble_eq_true rfl) (V.mv (v := .ptr 2 4) rfl ?_)
      refine Si.n rfl (Nat.le_of_ble_eq_true rfl) (V.mv (v := .ptr 1 0) rfl ?_)
      refine Si.n rfl (Nat.le_of_ble_eq_true rfl) (V.mv (v := .ptr 1 0) rfl ?_)
      refine Si.n rfl (Nat.le_of_ble_eq_true rfl) (V.mv (v := .ptr 1 0) rfl ?_)
      refine Si.n rfl (Nat.le_of_ble_eq_true rfl) (V.ncPtr rfl ?_)
      refine Si.n rfl (Nat.le_of_ble_eq_true rfl) (V.faPtr ty63 rfl ty22 (Nat.le_of_ble_eq_true rfl) rfl rfl (by first | exact Nat.le_of_ble_eq_true rfl | first | rfl | omega | (simp; done) | (simp; omega)) ?_)
      refine Si.n rfl (Nat.le_of_ble_eq_true rfl) (V.ldPtr ty22 rfl rfl rfl (by first | exact Nat.le_of_ble_eq_true rfl | (first | rfl | omega | (simp; done) | (simp; omega))) (v := .p (.bs _)) rfl ?_)
      refine Si.n rfl (Nat.le_of_ble_eq_true rfl) (V.mv (v := .ptr 1 0) rfl ?_)
      refine Si.n rfl (Nat.le_of_ble_eq_true rfl) (V.ncPtr rfl ?_)
      refine Si.n rfl (Nat.le_of_ble_eq_true rfl) (V.faPtr ty63 rfl ty3 (Nat.le_of_ble_eq_true rfl) rfl rfl (by first | exact Nat.le_of_ble_eq_true rfl | first | rfl | omega | (simp; done) | (simp; omega)) ?_)
      refine Si.n rfl (Nat.le_of_ble_eq_true rfl) (V.ldPtr ty3 rfl rfl rfl (by first | exact Nat.le_of_ble_eq_true rfl | (first | rfl | omega | (simp; done) | (simp; omega))) (v := .p (.v (.int .i64 _))) rfl ?_)
      refine Si.n rfl (Nat.le_of_ble_eq_true rfl) (V.call [.p (.bs _), .p (.v (.int .i64 _))] 4 rfl rfl rfl rfl ⟨trivial, trivial, trivial⟩ ⟨Nat.le_of_ble_eq_true rfl, Nat.le_of_ble_eq_true rfl, trivial⟩ (_, _) ⟨.refl _, .refl _, trivial⟩ trivial (by trivial) (Φ := fun (b, i) => ((getTextF b i).2.2 = 0 → 0 ≤ i ∧ i < (getTextF b i).2.1 ∧ (getTextF b i).2.1 ≤ b.length) ∧ (getTextF b i).1.length ≤ 1048576) (fun (b, i) _ => ⟨getTextF_ok b i, getTextF_len b i⟩) (.inl ⟨trivial, trivial, trivial⟩) (v := .tup 3 _) rfl (fun h3 => ?_))
      try dsimp only at h3
      refine Si.n rfl (Nat.le_of_ble_eq_true rfl) (V.mv (v := .tup 3 _) rfl ?_)
      refine Si.n rfl (Nat.le_of_ble_eq_true rfl) (V.ext rfl (Nat.le_of_ble_eq_true rfl) (v := .p (.bs _)) rfl ?_)
      refine Si.n rfl (Nat.le_of_ble_eq_true rfl) (V.ext rfl (Nat.le_of_ble_eq_true rfl) (v := .p (.v (.int .i64 _))) rfl ?_)
      refine Si.n rfl (Nat.le_of_ble_eq_true rfl) (V.ext rfl (Nat.le_of_ble_eq_true rfl) (v := .p (.v (.int .i64 _))) rfl ?_)
      refine Si.n rfl (Nat.le_of_ble_eq_true rfl) (V.ncPtr rfl ?_)
      refine Si.e ?_
      refine ⟨flEq_nil, fun ff => ?_⟩
      refine Lo.s rfl (A.sto ty22 rfl rfl rfl (v := .p (.bs _)) rfl trivial rfl (by first | exact Nat.le_of_ble_eq_true rfl | (first | rfl | omega | (simp; done) | (simp; omega))) rfl rfl ?_)
      refine ⟨_, fun ff => ff, ap0, rfl, FG.id, ?_⟩
      show planA _ _ _ _ _ [(1, .ptr 1 0), (2, .ptr 1 0), (14, .p (.v (.int .i64 _))), (15, .p (.v (.int .i64 _)))] _ _ _
      refine Pl.lk ?_
      refine Si.n rfl (Nat.le_of_ble_eq_true rfl) (V.mv (v := .ptr 1 0) rfl ?_)
      refine Si.n rfl (Nat.le_of_ble_eq_true rfl) (V.mv (v := .ptr 1 0) rfl ?_)
      refine Si.n rfl (Nat.le_of_ble_eq_true rfl) (V.ext rfl (Nat.le_of_ble_eq_true rfl) (v := .p (.v (.int .i64 _))) rfl ?_)
      refine Si.n rfl (Nat.le_of_ble_eq_true rfl) (V.ext rfl (Nat.le_of_ble_eq_true rfl) (v := .p (.v (.int .i64 _))) rfl ?_)
      refine Si.n rfl (Nat.le_of_ble_eq_true rfl) (V.ncPtr rfl ?_)
      refine Si.n rfl (Nat.le_of_ble_eq_true rfl) (V.faPtr ty63 rfl ty3 (Nat.le_of_ble_eq_true rfl) rfl rfl (by first | exact Nat.le_of_ble_eq_true rfl | first | rfl | omega | (simp; done) | (simp; omega)) ?_)
      refine Si.e ?_
      refine ⟨(flEq_cons rfl (flEq_cons rfl (flEq_cons rfl (flEq_cons rfl flEq_nil)))), fun ff => ?_⟩
      refine Lo.s rfl (A.sto ty3 rfl rfl rfl (v := .p (.v (.int .i64 _))) rfl rfl rfl (by first | exact Nat.le_of_ble_eq_true rfl | (first | rfl | omega | (simp; done) | (simp; omega))) rfl rfl ?_)
      refine ⟨_, fun ff => ff, ap0, rfl, FG.id, ?_⟩
      show planA _ _ _ _ _ [(2, .ptr 1 0), (15, .p (.v (.int .i64 _)))] _ _ _
      refine Pl.l0 ?_
      refine Si.n rfl (Nat.le_of_ble_eq_true rfl) (V.mv (v := .ptr 1 0) rfl ?_)
      refine Si.n rfl (Nat.le_of_ble_eq_true rfl) (V.ext rfl (Nat.le_of_ble_eq_true rfl) (v := .p (.v (.int .i64 _))) rfl ?_)
      refine Si.n rfl (Nat.le_of_ble_eq_true rfl) (V.ncPtr rfl ?_)
      refine Si.n rfl (Nat.le_of_ble_eq_true rfl) (V.faPtr ty63 rfl ty29 (Nat.le_of_ble_eq_true rfl) rfl rfl (by first | exact Nat.le_of_ble_eq_true rfl | first | rfl | omega | (simp; done) | (simp; omega)) ?_)
      refine Si.e ?_
      refine ⟨(flEq_cons rfl (flEq_cons rfl flEq_nil)), ?_⟩
      refine Lo.s rfl (A.sto ty29 rfl rfl rfl (v := .p (.v (.int .i64 _))) rfl rfl rfl (by first | exact Nat.le_of_ble_eq_true rfl | (first | rfl | omega | (simp; done) | (simp; omega))) rfl rfl ?_)
      refine Pl.e ?_
      refine Si.e ?_
      refine ⟨flEq_nil, ?_⟩
      show HT _ _ _ _ _
      refine R.tell [] [(1, ⟨63, 1, 3, true, .rows (fun j => ([.bs b, .v (.int .i64 (rdT b p e).2.1), .v (.int .i64 (rdT b p e).2.2)] : List PV).getD j (.v undef))⟩), (2, ⟨26, 1, 8, true, .rows (fun j => if j = 4 then .bs ((rdT b p e).1) else f j)⟩)] [0, 6, 7, 8] [3] (fr0 := [(0, .ptr 1 0), (6, .own 3 0 _), (7, .p (.v (.int .i64 _))), (8, .p (.v (.int .i64 _)))]) (O0 := [(3, ⟨_, _, _, _, .cells [.ptr 2 4]⟩)]) rfl rfl ⟨⟨⟨.refl _, rfl⟩, ⟨.refl _, rfl⟩, ⟨.refl _, trivial⟩, ⟨.refl _, trivial⟩, trivial⟩, ⟨⟨_, rfl, .inr (ob_rows (by rfl) (by first | (rw [show rdT b p e = Go.Vh.gT b p from rdT_0 (e := e) (by assumption)]; (intro j hj; match j, hj with | 0, _ => rfl | 1, _ => rfl | 2, _ => rfl)) | (rw [show rdT b p e = ([], p, e) from rdT_1 (e := e) (by assumption)]; (intro j hj; match j, hj with | 0, _ => rfl | 1, _ => rfl | 2, _ => rfl)))), trivial⟩, ⟨_, rfl, .inr (ob_rows (by rfl) (by first | (rw [show rdT b p e = Go.Vh.gT b p from rdT_0 (e := e) (by assumption)]; intro j hj; by_cases h4 : j = 4 <;> first | (simp [h4, gT]; done) | (exfalso; omega)) | (rw [show rdT b p e = ([], p, e) from rdT_1 (e := e) (by assumption)]; intro j hj; by_cases h4 : j = 4 <;> first | (simp [h4, gT]; done) | (exfalso; omega)))), trivial⟩, ⟨_, rfl, .inl rfl, ⟨rfl, trivial⟩⟩, trivial⟩⟩ ?_
      show HT _ _ _ _ _
      refine HT.region S_rtext_b_ok ?_
      refine So.n (Nat.le_of_ble_eq_true rfl) (A.v rfl (V.addI rfl rfl (by omega) ?_))
      refine So.n (Nat.le_of_ble_eq_true rfl) (A.v rfl (V.mv (v := .p (.v (.int .i64 _))) rfl ?_))
      refine So.e ?_
      show HT _ _ _ _ _
      refine HT.seq ?_
      refine HT.region S_rtext_b_ok ?_
      refine So.n (Nat.le_of_ble_eq_true rfl) (A.v rfl (V.bin (a := (.v (.int .i64 _))) (b := (.v (.int .i64 _))) (r := .v (.bool _)) rfl rfl rfl trivial ?_))
      refine So.e ?_
      show HT _ _ _ _ _
      refine HT.seq ?_
      refine R.cond rfl rfl (fun h4 => ?_) (fun h4 => ?_)
      · have h4 := of_decide_eq_true h4
        exfalso; omega
      · have h4 := of_decide_eq_false h4
        refine HT.exit ?_
        exact ret_ok (sg [(1, 1), (2, 2)]) h rfl rfl rfl ⟨trivial, trivial, trivial⟩ trivial rfl ⟨trivial, ⟨⟨_, rfl, .inr (ob_rows (by first | rfl | ((try dsimp only); (first | with_reducible rfl | (intro j hj; rfl)))) (by first | rfl | ((try dsimp only); (first | with_reducible rfl | (intro j hj; rfl))))), trivial⟩, ⟨_, rfl, .inr (ob_rows (by first | rfl | ((try dsimp only); (first | with_reducible rfl | (intro j hj; rfl)))) (by first | rfl | ((try dsimp only); (first | with_reducible rfl | (intro j hj; rfl))))), trivial⟩, trivial⟩⟩
    · have h2 := of_decide_eq_false h2
      refine HT.skip ?_
      show HT _ _ _ _ _
      refine R.tell [] [(1, ⟨63, 1, 3, true, .rows (fun j => ([.bs b, .v (.int .i64 (rdT b p e).2.1), .v (.int .i64 (rdT b p e).2.2)] : List PV).getD j (.v undef))⟩), (2, ⟨26, 1, 8, true, .rows (fun j => if j = 4 then .bs ((rdT b p e).1) else f j)⟩)] [0, 6, 7, 8] [3] (fr0 := [(0, .ptr 1 0), (6, .own 3 0 _), (7, .p (.v (.int .i64 _))), (8, .p (.v (.int .i64 _)))]) (O0 := [(3, ⟨_, _, _, _, .cells [.ptr 2 4]⟩)]) rfl rfl ⟨⟨⟨.refl _, rfl⟩, ⟨.refl _, rfl⟩, ⟨.refl _, trivial⟩, ⟨.refl _, trivial⟩, trivial⟩, ⟨⟨_, rfl, .inr (ob_rows (by rfl) (by first | (rw [show rdT b p e = Go.Vh.gT b p from rdT_0 (e := e) (by assumption)]; (intro j hj; match j, hj with | 0, _ => rfl | 1, _ => rfl | 2, _ => rfl)) | (rw [show rdT b p e = ([], p, e) from rdT_1 (e := e) (by assumption)]; (intro j hj; match j, hj with | 0, _ => rfl | 1, _ => rfl | 2, _ => rfl)))), trivial⟩, ⟨_, rfl, .inr (ob_rows (by rfl) (by first | (rw [show rdT b p e = Go.Vh.gT b p from rdT_0 (e := e) (by assumption)]; intro j hj; by_cases h4 : j = 4 <;> first | (simp [h4, gT]; done) | (exfalso; omega)) | (rw [show rdT b p e = ([], p, e) from rdT_1 (e := e) (by assumption)]; intro j hj; by_cases h4 : j = 4 <;> first | (simp [h4, gT]; done) | (exfalso; omega)))), trivial⟩, ⟨_, rfl, .inl rfl, ⟨rfl, trivial⟩⟩, trivial⟩⟩ ?_
      show HT _ _ _ _ _
      refine HT.region S_rtext_b_ok ?_
      refine So.n (Nat.le_of_ble_eq_true rfl) (A.v rfl (V.addI rfl rfl (by omega) ?_))
      refine So.n (Nat.le_of_ble_eq_true rfl) (A.v rfl (V.mv (v := .p (.v (.int .i64 _))) rfl ?_))
      refine So.e ?_
      show HT _ _ _ _ _
      refine HT.seq ?_
      refine HT.region S_rtext_b_ok ?_
      refine So.n (Nat.le_of_ble_eq_true rfl) (A.v rfl (V.bin (a := (.v (.int .i64 _))) (b := (.v (.int .i64 _))) (r := .v (.bool _)) rfl rfl rfl trivial ?_))
      refine So.e ?_
      show HT _ _ _ _ _
      refine HT.seq ?_
      refine R.cond rfl rfl (fun h5 => ?_) (fun h5 => ?_)
      · have h5 := of_decide_eq_true h5
        exfalso; omega
      · have h5 := of_decide_eq_false h5
        refine HT.exit ?_
        exact ret_ok (sg [(1, 1), (2, 2)]) h rfl rfl rfl ⟨trivial, trivial, trivial⟩ trivial rfl ⟨trivial, ⟨⟨_, rfl, .inr (ob_rows (by first | rfl | ((try dsimp only); (first | with_reducible rfl | (intro j hj; rfl)))) (by first | rfl | ((try dsimp only); (first | with_reducible rfl | (intro j hj; rfl))))), trivial⟩, ⟨_, rfl, .inr (ob_rows (by first | rfl | ((try dsimp only); (first | with_reducible rfl | (intro j hj; rfl)))) (by first | rfl | ((try dsimp only); (first | with_reducible rfl | (intro j hj; rfl))))), trivial⟩, trivial⟩⟩
  · have h1 := of_decide_eq_false h1
    exfalso; omega
end Go.Vh

set_option linter.unusedVariables false
set_option linter.unusedSimpArgs false
namespace Go.Vh
open Go Go.Vc Go.Proofs Go.Vw
def frnumSp : Sp := ⟨[1], mkE (α := (List UInt8) × Int × Int × Int) (fun (b, p, e, k) => [.ptr 1 (0), .p (.v (.int .i64 (k)))]) (fun (b, p, e, k) => [(1, ⟨63, 1, 3, true, .rows (fun j => ([.bs b, .v (.int .i64 p), .v (.int .i64 e)] : List PV).getD j (.v undef))⟩)]) (fun (b, p, e, k) => True) (fun (b, p, e, k) => [.p (.v (.int .i64 ((rdN b p e k).1)))]) (fun (b, p, e, k) => [(1, ⟨63, 1, 3, true, .rows (fun j => ([.bs b, .v (.int .i64 (rdN b p e k).2.1), .v (.int .i64 (rdN b p e k).2.2)] : List PV).getD j (.v undef))⟩)])⟩
def S_frnum : FuncId → Option Sp := fun f => if f = 48 then some getSp else none
theorem S_frnum_ok : ∀ f s, S_frnum f = some s → FOK Tryd.prog gl f s := fun f s h => by
  unfold S_frnum at h
  split at h
  · rename_i e; cases h; subst e; exact get_ok
  cases h
theorem S_frnum_det : ∀ f s, S_frnum f = some s → SpDet s.sp := fun f s h => by
  unfold S_frnum at h
  split at h
  · cases h; exact mkE_det _ _ _ _ _
  cases h
set_option maxHeartbeats 1000000 in
set_option maxRecDepth 1000 in
theorem frnum_ok : FOK Tryd.prog gl 33 frnumSp := by
  refine FOK.ofE (tyOf_ok Tryd.prog) (slots := [4]) (nt := 32) Tryd.func33 rfl rfl rfl rfl (by decide) 2 (fun ⟨_, _, _, _⟩ => rfl) (by decide) (fun ⟨_, _, _, _⟩ => ⟨rfl, trivial, trivial⟩) ?_
  rintro ⟨b, p, e, k⟩ kk hlen hpre h
  replace hpre : True := hpre
  show HT (cx Tryd.prog 32 (tyOf Tryd.prog) gl [1]) _ [(0, .ptr 1 (0)), (1, .p (.v (.int .i64 (k))))] [(1, ⟨63, 1, 3, true, .rows (fun j => ([.bs b, .v (.int .i64 p), .v (.int .i64 e)] : List PV).getD j (.v undef))⟩)] _
  refine HT.seq ?_
  refine HT.region S_frnum_ok ?_
  refine So.n (Nat.le_of_ble_eq_true rfl) (A.v rfl (V.as (v := .p (.v (.int .i64 (0)))) rfl ?_))
  refine So.e ?_
  show HT _ _ _ _ _
  refine HT.seq ?_
  refine HT.region S_frnum_ok ?_
  refine So.n (Nat.le_of_ble_eq_true rfl) (A.v rfl (V.as (v := .p (.v (.int .i64 (0)))) rfl ?_))
  refine So.e ?_
  show HT _ _ _ _ _
  refine HT.seq ?_
  refine HT.seq ?_
  refine HT.region S_frnum_ok ?_
  refine So.n (Nat.le_of_ble_eq_true rfl) (A.v rfl (V.mv (v := .ptr 1 0) rfl ?_))
  refine So.n (Nat.le_of_ble_eq_true rfl) (A.v rfl (V.ncPtr rfl ?_))
  refine So.n (Nat.le_of_ble_eq_true rfl) (A.v rfl (V.faPtr ty63 rfl ty29 (Nat.le_of_ble_eq_true rfl) rfl rfl (by first | exact Nat.le_of_ble_eq_true rfl | first | rfl | omega | (simp; done) | (simp; omega)) ?_))
  refine So.n (Nat.le_of_ble_eq_true rfl) (A.v rfl (V.ldPtr ty29 rfl rfl rfl (by first | exact Nat.le_of_ble_eq_true rfl | (first | rfl | omega | (simp; done) | (simp; omega))) (v := .p (.v (.int .i64 _))) rfl ?_))
  refine So.n (Nat.le_of_ble_eq_true rfl) (A.v rfl (V.bin (a := (.v (.int .i64 _))) (b := (.v (.int .i64 (0)))) (r := .v (.bool _)) rfl rfl rfl trivial ?_))
  refine So.e ?_
  show HT _ _ _ _ _
  refine R.cond rfl rfl (fun h1 => ?_) (fun h1 => ?_)
  · have h1 := of_decide_eq_true h1
    refine HT.planS S_frnum_ok S_frnum_det mixed [] [⟨[0, 1, 2, 3, 4, 5, 6, 7, 8, 9, 10, 11, 12, 13, 14, 15, 16, 17, 18], 19, [1, 15]⟩, ⟨[1, 15, 20, 21], 22, []⟩] (by kernel_rfl) ?_
    refine Pl.lk ?_
    refine Si.n rfl (Nat.le_of_ble_eq_true rfl) (V.mv (v := .ptr 1 0) rfl ?_)
    refine Si.n rfl (Nat.le_of_ble_eq_true rfl) (V.mv (v := .ptr 1 0) rfl ?_)
    refine Si.n rfl (Nat.le_of_ble_eq_true rfl) (V.mv (v := .ptr 1 0) rfl ?_)
    refine Si.n rfl (Nat.le_of_ble_eq_true rfl) (V.ncPtr rfl ?_)
    refine Si.n rfl (Nat.le_of_ble_eq_true rfl) (V.faPtr ty63 rfl ty22 (Nat.le_of_ble_eq_true rfl) rfl rfl (by first | exact Nat.le_of_ble_eq_true rfl | first | rfl | omega | (simp; done) | (simp; omega)) ?_)
    refine Si.n rfl (Nat.le_of_ble_eq_true rfl) (V.ldPtr ty22 rfl rfl rfl (by first | exact Nat.le_of_ble_eq_true rfl | (first | rfl | omega | (simp; done) | (simp; omega))) (v := .p (.bs _)) rfl ?_)
    refine Si.n rfl (Nat.le_of_ble_eq_true rfl) (V.mv (v := .ptr 1 0) rfl ?_)
    refine Si.n rfl (Nat.le_of_ble_eq_true rfl) (V.ncPtr rfl ?_)
    refine Si.n rfl (Nat.le_of_ble_eq_true rfl) (V.faPtr ty63 rfl ty3 (Nat.le_of_ble_eq_true rfl) rfl rfl (by first | exact Nat.le_of_ble_eq_true rfl | first | rfl | omega | (simp; done) | (simp; omega)) ?_)
    refine Si.n rfl (Nat.le_of_ble_eq_true rfl) (V.ldPtr ty3 rfl rfl rfl (by first | exact Nat.le_of_ble_eq_true rfl | (first | rfl | omega | (simp; done) | (simp; omega))) (v := .p (.v (.int .i64 _))) rfl ?_)
    refine Si.n rfl (Nat.le_of_ble_eq_true rfl) (V.mv (v := .p (.v (.int .i64 _))) rfl ?_)
    refine Si.n rfl (Nat.le_of_ble_eq_true rfl) (V.call [.p (.bs _), .p (.v (.int .i64 _)), .p (.v (.int .i64 _))] 2 rfl rfl rfl rfl ⟨trivial, trivial, trivial, trivial⟩ ⟨Nat.le_of_ble_eq_true rfl, trivial⟩ (_, _, _) ⟨.refl _, .refl _, .refl _, trivial⟩ trivial (by trivial) (Φ := fun (b, i, n) => 0 ≤ (getF b i n).2.1 ∧ (getF b i n).2.1 ≤ b.length) (fun (b, i, n) _ => ⟨(getF_from b i n).1, (getF_from b i n).2.1⟩) (.inl ⟨trivial, trivial, trivial, trivial⟩) (v := .tup 3 _) rfl (fun h2 => ?_))
    try dsimp only at h2
    refine Si.n rfl (Nat.le_of_ble_eq_true rfl) (V.mv (v := .tup 3 _) rfl ?_)
    refine Si.n rfl (Nat.le_of_ble_eq_true rfl) (V.ext rfl (Nat.le_of_ble_eq_true rfl) (v := .p (.v (.int .i64 _))) rfl ?_)
    refine Si.n rfl (Nat.le_of_ble_eq_true rfl) (V.ext rfl (Nat.le_of_ble_eq_true rfl) (v := .p (.v (.int .i64 _))) rfl ?_)
    refine Si.n rfl (Nat.le_of_ble_eq_true rfl) (V.ext rfl (Nat.le_of_ble_eq_true rfl) (v := .p (.v (.int .i64 _))) rfl ?_)
    refine Si.n rfl (Nat.le_of_ble_eq_true rfl) (V.as (v := .p (.v (.int .i64 _))) rfl ?_)
    refine Si.n rfl (Nat.le_of_ble_eq_true rfl) (V.ncPtr rfl ?_)
    refine Si.n rfl (Nat.le_of_ble_eq_true rfl) (V.faPtr ty63 rfl ty3 (Nat.le_of_ble_eq_true rfl) rfl rfl (by first | exact Nat.le_of_ble_eq_true rfl | first | rfl | omega | (simp; done) | (simp; omega)) ?_)
    refine Si.e ?_
    refine ⟨flEq_nil, fun ff => ?_⟩
    refine Lo.s rfl (A.sto ty3 rfl rfl rfl (v := .p (.v (.int .i64 _))) rfl rfl rfl (by first | exact Nat.le_of_ble_eq_true rfl | (first | rfl | omega | (simp; done) | (simp; omega))) rfl rfl ?_)
    refine ⟨_, fun ff => ff, ap0, rfl, FG.id, ?_⟩
    show planA _ _ _ _ _ [(1, .ptr 1 0), (15, .p (.v (.int .i64 _)))] _ _ _
    refine Pl.l0 ?_
    refine Si.n rfl (Nat.le_of_ble_eq_true rfl) (V.mv (v := .ptr 1 0) rfl ?_)
    refine Si.n rfl (Nat.le_of_ble_eq_true rfl) (V.ext rfl (Nat.le_of_ble_eq_true rfl) (v := .p (.v (.int .i64 _))) rfl ?_)
    refine Si.n rfl (Nat.le_of_ble_eq_true rfl) (V.ncPtr rfl ?_)
    refine Si.n rfl (Nat.le_of_ble_eq_true rfl) (V.faPtr ty63 rfl ty29 (Nat.le_of_ble_eq_true rfl) rfl rfl (by first | exact Nat.le_of_ble_eq_true rfl | first | rfl | omega | (simp; done) | (simp; omega)) ?_)
    refine Si.e ?_
    refine ⟨(flEq_cons rfl (flEq_cons rfl flEq_nil)), ?_⟩
    refine Lo.s rfl (A.sto ty29 rfl rfl rfl (v := .p (.v (.int .i64 _))) rfl rfl rfl (by first | exact Nat.le_of_ble_eq_true rfl | (first | rfl | omega | (simp; done) | (simp; omega))) rfl rfl ?_)
    refine Pl.e ?_
    refine Si.e ?_
    refine ⟨flEq_nil, ?_⟩
    show HT _ _ _ _ _
    refine HT.seq ?_
    refine HT.region S_frnum_ok ?_
    refine So.n (Nat.le_of_ble_eq_true rfl) (A.v rfl (V.mv (v := .p (.v (.int .i64 _))) rfl ?_))
    refine So.n (Nat.le_of_ble_eq_true rfl) (A.v rfl (V.as (v := .p (.v (.int .i64 _))) rfl ?_))
    refine So.e ?_
    show HT _ _ _ _ _
    refine HT.ret ?_
    exact ret_ok (sg [(1, 1)]) h rfl rfl rfl ⟨trivial, trivial⟩ ⟨trivial, trivial⟩ rfl ⟨⟨⟨le_int (by first | with_reducible rfl | (rw [rdN_0 (by assumption)]; done) | (rw [rdN_1 (by assumption)]; done) | (rw [rdN_0 (by assumption)]; (intro j hj; match j, hj with | 0, _ => rfl | 1, _ => rfl | 2, _ => rfl)) | (rw [rdN_1 (by assumption)]; (intro j hj; match j, hj with | 0, _ => rfl | 1, _ => rfl | 2, _ => rfl)) | (rw [rdN_0 (by assumption), take_full])), trivial⟩, trivial⟩, ⟨⟨_, rfl, .inr (ob_rows (by first | rfl | ((try dsimp only); (first | with_reducible rfl | (rw [rdN_0 (by assumption)]; done) | (rw [rdN_1 (by assumption)]; done) | (rw [rdN_0 (by assumption)]; (intro j hj; match j, hj with | 0, _ => rfl | 1, _ => rfl | 2, _ => rfl)) | (rw [rdN_1 (by assumption)]; (intro j hj; match j, hj with | 0, _ => rfl | 1, _ => rfl | 2, _ => rfl)) | (rw [rdN_0 (by assumption), take_full])))) (by first | rfl | ((try dsimp only); (first | with_reducible rfl | (rw [rdN_0 (by assumption)]; done) | (rw [rdN_1 (by assumption)]; done) | (rw [rdN_0 (by assumption)]; (intro j hj; match j, hj with | 0, _ => rfl | 1, _ => rfl | 2, _ => rfl)) | (rw [rdN_1 (by assumption)]; (intro j hj; match j, hj with | 0, _ => rfl | 1, _ => rfl | 2, _ => rfl)) | (rw [rdN_0 (by assumption), take_full]))))), trivial⟩, trivial⟩⟩
  · have h1 := of_decide_eq_false h1
    refine HT.skip ?_
    show HT _ _ _ _ _
    refine HT.seq ?_
    refine HT.region S_frnum_ok ?_
    refine So.n (Nat.le_of_ble_eq_true rfl) (A.v rfl (V.mv (v := .p (.v (.int .i64 _))) rfl ?_))
    refine So.n (Nat.le_of_ble_eq_true rfl) (A.v rfl (V.as (v := .p (.v (.int .i64 _))) rfl ?_))
    refine So.e ?_
    show HT _ _ _ _ _
    refine HT.ret ?_
    exact ret_ok (sg [(1, 1)]) h rfl rfl rfl ⟨trivial, trivial⟩ ⟨trivial, trivial⟩ rfl ⟨⟨⟨le_int (by first | with_reducible rfl | (rw [rdN_0 (by assumption)]; done) | (rw [rdN_1 (by assumption)]; done) | (rw [rdN_0 (by assumption)]; (intro j hj; match j, hj with | 0, _ => rfl | 1, _ => rfl | 2, _ => rfl)) | (rw [rdN_1 (by assumption)]; (intro j hj; match j, hj with | 0, _ => rfl | 1, _ => rfl | 2, _ => rfl)) | (rw [rdN_0 (by assumption), take_full])), trivial⟩, trivial⟩, ⟨⟨_, rfl, .inr (ob_rows (by first | rfl | ((try dsimp only); (first | with_reducible rfl | (rw [rdN_0 (by assumption)]; done) | (rw [rdN_1 (by assumption)]; done) | (rw [rdN_0 (by assumption)]; (intro j hj; match j, hj with | 0, _ => rfl | 1, _ => rfl | 2, _ => rfl)) | (rw [rdN_1 (by assumption)]; (intro j hj; match j, hj with | 0, _ => rfl | 1, _ => rfl | 2, _ => rfl)) | (rw [rdN_0 (by assumption), take_full])))) (by first | rfl | ((try dsimp only); (first | with_reducible rfl | (rw [rdN_0 (by assumption)]; done) | (rw [rdN_1 (by assumption)]; done) | (rw [rdN_0 (by assumption)]; (intro j hj; match j, hj with | 0, _ => rfl | 1, _ => rfl | 2, _ => rfl)) | (rw [rdN_1 (by assumption)]; (intro j hj; match j, hj with | 0, _ => rfl | 1, _ => rfl | 2, _ => rfl)) | (rw [rdN_0 (by assumption), take_full]))))), trivial⟩, trivial⟩⟩
end Go.Vh

set_option linter.unusedVariables false
set_option linter.unusedSimpArgs false
namespace Go.Vh
open Go Go.Vc Go.Proofs Go.Vw
def rplaceSp : Sp := ⟨[1], mkE (α := (List UInt8) × Int × Int) (fun (b, p, e) => [.ptr 1 (0)]) (fun (b, p, e) => [(1, ⟨63, 1, 3, true, .rows (fun j => ([.bs b, .v (.int .i64 p), .v (.int .i64 e)] : List PV).getD j (.v undef))⟩)]) (fun (b, p, e) => True) (fun (b, p, e) => [.agg 3 (fun j => ([.bs (pl1 b p e).1, .v (.int .i64 ((pl2 b p e).1)), .v (.int .i64 ((pl3 b p e).1))] : List PV).getD j (.v undef))]) (fun (b, p, e) => [(1, ⟨63, 1, 3, true, .rows (fun j => ([.bs b, .v (.int .i64 (pl3 b p e).2.1), .v (.int .i64 (pl3 b p e).2.2)] : List PV).getD j (.v undef))⟩)])⟩
def S_rplace : FuncId → Option Sp := fun f => if f = 34 then some rtext_pSp else if f = 33 then some frnumSp else none
theorem S_rplace_ok : ∀ f s, S_rplace f = some s → FOK Tryd.prog gl f s := fun f s h => by
  unfold S_rplace at h
  split at h
  · rename_i e; cases h; subst e; exact rtext_p_ok
  split at h
  · rename_i e; cases h; subst e; exact frnum_ok
  cases h
set_option maxHeartbeats 1000000 in
set_option maxRecDepth 1000 in
theorem rplace_ok : FOK Tryd.prog gl 32 rplaceSp := by
  refine FOK.ofEC (tyOf_ok Tryd.prog) (rvs := [.cell 2 57]) (nt := 15) Tryd.func32 rfl rfl rfl rfl (by decide) 1 (fun ⟨_, _, _⟩ => rfl) (by decide) (fun ⟨_, _, _⟩ => ⟨rfl, trivial⟩) ?_
  rintro ⟨b, p, e⟩ kk hlen hpre h
  replace hpre : True := hpre
  show HT (cx Tryd.prog 15 (tyOf Tryd.prog) gl [1]) _ [(0, .ptr 1 (0))] [(1, ⟨63, 1, 3, true, .rows (fun j => ([.bs b, .v (.int .i64 p), .v (.int .i64 e)] : List PV).getD j (.v undef))⟩)] _
  refine HT.seq ?_
  refine HT.region S_rplace_ok ?_
  refine So.n (Nat.le_of_ble_eq_true rfl) (A.alloc 2 1 ty57 rfl ⟨Nat.le_of_ble_eq_true rfl, trivial⟩ (f := fun j => ([.v (.slice none 0 0), .v (.int .i64 0), .v (.int .i64 0)] : List PV).getD j (.v undef)) (fun j hj => by match j, hj with | 0, _ => rfl | 1, _ => rfl | 2, _ => rfl) ?_)
  refine So.e ?_
  show HT _ _ _ _ _
  refine HT.seq ?_
  refine HT.region S_rplace_ok ?_
  refine So.n (Nat.le_of_ble_eq_true rfl) (A.alloc 3 1 ty57 rfl ⟨Nat.le_of_ble_eq_true rfl, trivial⟩ (f := fun j => ([.v (.slice none 0 0), .v (.int .i64 0), .v (.int .i64 0)] : List PV).getD j (.v undef)) (fun j hj => by match j, hj with | 0, _ => rfl | 1, _ => rfl | 2, _ => rfl) ?_)
  refine So.e ?_
  show HT _ _ _ _ _
  refine HT.seq ?_
  refine R.tell [] [(3, ⟨57, 1, 3, true, .rows (fun j => if j = 0 then .bs [] else .v (.int .i64 0))⟩)] [0, 2, 3] [1, 2] (fr0 := [(0, .ptr 1 0), (2, .ptr 2 0), (3, .ptr 3 0)]) (O0 := [(1, ⟨_, _, _, _, .rows _⟩), (2, ⟨_, _, _, _, .rows _⟩)]) rfl rfl ⟨⟨⟨.refl _, rfl⟩, ⟨.refl _, rfl⟩, ⟨.refl _, rfl⟩, trivial⟩, ⟨⟨_, rfl, .inr (ob_rowsL (by intro j hj; match j, hj with | 0, _ => exact le_nil rfl | 1, _ => exact .refl _ | 2, _ => exact .refl _)), trivial⟩, ⟨_, rfl, .inl rfl, trivial⟩, ⟨_, rfl, .inl rfl, trivial⟩, trivial⟩⟩ ?_
  show HT _ _ _ _ _
  refine HT.region S_rplace_ok ?_
  refine So.n (Nat.le_of_ble_eq_true rfl) (A.v rfl (V.mv (v := .ptr 1 0) rfl ?_))
  refine So.n (Nat.le_of_ble_eq_true rfl) (A.v rfl (V.faPtr ty57 rfl ty22 (Nat.le_of_ble_eq_true rfl) rfl rfl (by first | exact Nat.le_of_ble_eq_true rfl | first | rfl | omega | (simp; done) | (simp; omega)) ?_))
  refine So.n (Nat.le_of_ble_eq_true rfl) (A.bsl 4 ty83 ty67 rfl (Nat.le_of_ble_eq_true rfl) (Nat.le_of_ble_eq_true rfl) (fun _ => rfl) rfl rfl ⟨Nat.le_of_ble_eq_true rfl, trivial⟩ ⟨trivial, trivial⟩ rfl (N := 1) rfl (c := .cells [.ptr 3 0]) rfl ?_)
  refine So.n (Nat.le_of_ble_eq_true rfl) (A.call [.ptr 1 _, .own 3 _ _] [(1, ⟨_, _, _, _, .rows _⟩), (2, ⟨_, _, _, _, .rows _⟩), (3, ⟨_, _, _, _, .cells [.ptr 2 0]⟩)] (sg [(1, 1), (3, 4), (2, 3)]) 5 rfl rfl rfl rfl ⟨rfl, rfl, rfl, trivial⟩ rfl ⟨trivial, trivial, ⟨rfl, trivial⟩, trivial⟩ ⟨rfl, rfl, trivial⟩ ⟨Nat.le_of_ble_eq_true rfl, trivial⟩ rfl (b, p, e, fun _ => .v (.int .i64 0)) ⟨.refl _, .refl _, trivial⟩ ⟨⟨_, rfl, .inl rfl, trivial⟩, ⟨_, rfl, .inl rfl, trivial⟩, ⟨_, rfl, .inl rfl, ⟨rfl, trivial⟩⟩, trivial⟩ (by trivial) (Φ := fun _ => True) (fun _ _ => trivial) ⟨⟨_, _, rfl, rfl, rfl, Nat.le_refl _⟩, ⟨_, _, rfl, rfl, rfl, Nat.le_refl _⟩, trivial⟩ (.inl rfl) rfl (v := .tup 0 _) rfl (O' := (1, ⟨_, _, _, _, .rows _⟩) :: (3, ⟨_, _, _, _, .rows _⟩) :: _) rfl (fun h1 => ?_))
  refine So.e ?_
  show HT _ _ _ _ _
  refine HT.seq ?_
  refine R.tell [] [(3, ⟨57, 1, 3, true, .rows (fun j => ([.bs (pl1 b p e).1, .v (.int .i64 0), .v (.int .i64 0)] : List PV).getD j (.v undef))⟩)] [0, 2, 3] [1, 2] (fr0 := [(0, .ptr 1 0), (2, .ptr 2 0), (3, .ptr 3 0)]) (O0 := [(1, ⟨_, _, _, _, .rows _⟩), (2, ⟨_, _, _, _, .rows _⟩)]) rfl rfl ⟨⟨⟨.refl _, rfl⟩, ⟨.refl _, rfl⟩, ⟨.refl _, rfl⟩, trivial⟩, ⟨⟨_, rfl, .inr (ob_rows (by rfl) (by (intro j hj; match j, hj with | 0, _ => rfl | 1, _ => rfl | 2, _ => rfl))), trivial⟩, ⟨_, rfl, .inl rfl, trivial⟩, ⟨_, rfl, .inl rfl, trivial⟩, trivial⟩⟩ ?_
  show HT _ _ _ _ _
  refine HT.region S_rplace_ok ?_
  refine So.n (Nat.le_of_ble_eq_true rfl) (A.v rfl (V.mv (v := .ptr 1 0) rfl ?_))
  refine So.n (Nat.le_of_ble_eq_true rfl) (A.call [.ptr 1 _, .p (.v (.int .i64 _))] [(1, ⟨_, _, _, _, .rows _⟩)] (sg [(1, 1)]) 4 rfl rfl rfl rfl ⟨rfl, trivial⟩ rfl ⟨trivial, trivial⟩ ⟨rfl, trivial, trivial⟩ ⟨Nat.le_of_ble_eq_true rfl, trivial⟩ rfl (b, (pl1 b p e).2.1, (pl1 b p e).2.2, 8) ⟨.refl _, .refl _, trivial⟩ ⟨⟨_, rfl, .inl rfl, trivial⟩, trivial⟩ (by trivial) (Φ := fun _ => True) (fun _ _ => trivial) ⟨⟨_, _, rfl, rfl, rfl, Nat.le_refl _⟩, trivial⟩ (.inl rfl) rfl (v := .p (.v (.int .i64 _))) rfl (O' := (1, ⟨_, _, _, _, .rows _⟩) :: _) rfl (fun h2 => ?_))
  refine So.n (Nat.le_of_ble_eq_true rfl) (A.v rfl (V.faPtr ty57 rfl ty2 (Nat.le_of_ble_eq_true rfl) rfl rfl (by first | exact Nat.le_of_ble_eq_true rfl | first | rfl | omega | (simp; done) | (simp; omega)) ?_))
  refine So.s (A.sto ty2 rfl rfl rfl (v := .p (.v (.int .i64 _))) rfl rfl rfl (by first | exact Nat.le_of_ble_eq_true rfl | (first | rfl | omega | (simp; done) | (simp; omega))) rfl rfl ?_)
  refine So.e ?_
  show HT _ _ _ _ _
  refine HT.seq ?_
  refine HT.region S_rplace_ok ?_
  refine So.n (Nat.le_of_ble_eq_true rfl) (A.v rfl (V.mv (v := .ptr 1 0) rfl ?_))
  refine So.n (Nat.le_of_ble_eq_true rfl) (A.call [.ptr 1 _, .p (.v (.int .i64 _))] [(1, ⟨_, _, _, _, .rows _⟩)] (sg [(1, 1)]) 4 rfl rfl rfl rfl ⟨rfl, trivial⟩ rfl ⟨trivial, trivial⟩ ⟨rfl, trivial, trivial⟩ ⟨Nat.le_of_ble_eq_true rfl, trivial⟩ rfl (b, (pl2 b p e).2.1, (pl2 b p e).2.2, 4) ⟨.refl _, .refl _, trivial⟩ ⟨⟨_, rfl, .inl rfl, trivial⟩, trivial⟩ (by trivial) (Φ := fun _ => True) (fun _ _ => trivial) ⟨⟨_, _, rfl, rfl, rfl, Nat.le_refl _⟩, trivial⟩ (.inl rfl) rfl (v := .p (.v (.int .i64 _))) rfl (O' := (1, ⟨_, _, _, _, .rows _⟩) :: _) rfl (fun h3 => ?_))
  refine So.n (Nat.le_of_ble_eq_true rfl) (A.v rfl (V.faPtr ty57 rfl ty3 (Nat.le_of_ble_eq_true rfl) rfl rfl (by first | exact Nat.le_of_ble_eq_true rfl | first | rfl | omega | (simp; done) | (simp; omega)) ?_))
  refine So.s (A.sto ty3 rfl rfl rfl (v := .p (.v (.int .i64 _))) rfl rfl rfl (by first | exact Nat.le_of_ble_eq_true rfl | (first | rfl | omega | (simp; done) | (simp; omega))) rfl rfl ?_)
  refine So.e ?_
  show HT _ _ _ _ _
  refine HT.seq ?_
  refine R.tell [] [(3, ⟨57, 1, 3, true, .rows (fun j => ([.bs (pl1 b p e).1, .v (.int .i64 ((pl2 b p e).1)), .v (.int .i64 ((pl3 b p e).1))] : List PV).getD j (.v undef))⟩)] [2, 3] [1, 2] (fr0 := [(2, .ptr 2 0), (3, .ptr 3 0)]) (O0 := [(1, ⟨_, _, _, _, .rows _⟩), (2, ⟨_, _, _, _, .rows _⟩)]) rfl rfl ⟨⟨⟨.refl _, rfl⟩, ⟨.refl _, rfl⟩, trivial⟩, ⟨⟨_, rfl, .inr (ob_rows (by rfl) (by (intro j hj; match j, hj with | 0, _ => rfl | 1, _ => rfl | 2, _ => rfl))), trivial⟩, ⟨_, rfl, .inl rfl, trivial⟩, ⟨_, rfl, .inl rfl, trivial⟩, trivial⟩⟩ ?_
  show HT _ _ _ _ _
  refine HT.region S_rplace_ok ?_
  refine So.n (Nat.le_of_ble_eq_true rfl) (A.v rfl (V.ldPtrA ty57 rfl rfl rfl rfl (by first | exact Nat.le_of_ble_eq_true rfl | (first | rfl | omega | (simp; done) | (simp; omega))) ?_))
  refine So.s (A.stoAg ty57 rfl (n := 3) rfl (by decide) (by intro j hj; first | rfl | trivial | (match j, hj with | 0, _ => (first | trivial | rfl) | 1, _ => (first | trivial | rfl) | 2, _ => (first | trivial | rfl))) rfl rfl rfl ?_)
  refine So.e ?_
  show HT _ _ _ _ _
  refine HT.ret ?_
  exact retC_ok (sg [(1, 1)]) [(2, .ptr 2 0)] [(2, ⟨57, 1, 3, true, .rows (fun j => ([.bs (pl1 b p e).1, .v (.int .i64 ((pl2 b p e).1)), .v (.int .i64 ((pl3 b p e).1))] : List PV).getD j (.v undef))⟩), (1, ⟨63, 1, 3, true, .rows (fun j => ([.bs b, .v (.int .i64 (pl3 b p e).2.1), .v (.int .i64 (pl3 b p e).2.2)] : List PV).getD j (.v undef))⟩)] h ⟨⟨⟨.refl _, rfl⟩, trivial⟩, ⟨⟨_, rfl, .inr (ob_rows rfl (by intro j hj; first | rfl | ((try dsimp only); (first | with_reducible rfl | rfl | (intro j hj; match j, hj with | 0, _ => rfl | 1, _ => rfl | 2, _ => rfl) | (match j, hj with | 0, _ => rfl | 1, _ => rfl | 2, _ => rfl))))), trivial⟩, ⟨_, rfl, .inr (ob_rows (by first | rfl | ((try dsimp only); (first | with_reducible rfl | rfl | (intro j hj; match j, hj with | 0, _ => rfl | 1, _ => rfl | 2, _ => rfl) | (match j, hj with | 0, _ => rfl | 1, _ => rfl | 2, _ => rfl)))) (by first | rfl | ((try dsimp only); (first | with_reducible rfl | rfl | (intro j hj; match j, hj with | 0, _ => rfl | 1, _ => rfl | 2, _ => rfl) | (match j, hj with | 0, _ => rfl | 1, _ => rfl | 2, _ => rfl))))), trivial⟩, trivial⟩⟩ ⟨rvA_cell ty57 rfl rfl rfl rfl (Nat.le_refl _) (le_agg (fun j _ => by first | rfl | (dsimp only; rw [Nat.zero_add]))), trivial⟩ ⟨rfl, trivial⟩ rfl ⟨trivial, trivial⟩ ⟨trivial, trivial⟩ rfl
end Go.Vh

set_option linter.unusedVariables false
set_option linter.unusedSimpArgs false
namespace Go.Vh
open Go Go.Vc Go.Proofs Go.Vw
def rendSp : Sp := ⟨[1], mkE (α := (List UInt8) × Int × Int × Bool) (fun (b, p, e, is) => [.ptr 1 (0), .p (.v (.bool (is)))]) (fun (b, p, e, is) => [(1, ⟨63, 1, 3, true, .rows (fun j => ([.bs b, .v (.int .i64 p), .v (.int .i64 e)] : List PV).getD j (.v undef))⟩)]) (fun (b, p, e, is) => True) (fun (b, p, e, is) => [.p (.v (.int .i64 (endF b p e is)))]) (fun (b, p, e, is) => [(1, ⟨63, 1, 3, true, .rows (fun j => ([.bs b, .v (.int .i64 p), .v (.int .i64 e)] : List PV).getD j (.v undef))⟩)])⟩
def S_rend : FuncId → Option Sp := fun _ => none
theorem S_rend_ok : ∀ f s, S_rend f = some s → FOK Tryd.prog gl f s := fun f s h => by cases h
theorem S_rend_det : ∀ f s, S_rend f = some s → SpDet s.sp := fun f s h => by cases h
set_option maxHeartbeats 1000000 in
set_option maxRecDepth 1000 in
theorem rend_ok : FOK Tryd.prog gl 35 rendSp := by
  refine FOK.ofE (tyOf_ok Tryd.prog) (slots := [4]) (nt := 30) Tryd.func35 rfl rfl rfl rfl (by decide) 2 (fun ⟨_, _, _, _⟩ => rfl) (by decide) (fun ⟨_, _, _, _⟩ => ⟨rfl, trivial, trivial⟩) ?_
  rintro ⟨b, p, e, is⟩ kk hlen hpre h
  replace hpre : True := hpre
  show HT (cx Tryd.prog 30 (tyOf Tryd.prog) gl [1]) _ [(0, .ptr 1 (0)), (1, .p (.v (.bool (is))))] [(1, ⟨63, 1, 3, true, .rows (fun j => ([.bs b, .v (.int .i64 p), .v (.int .i64 e)] : List PV).getD j (.v undef))⟩)] _
  refine HT.seq ?_
  refine HT.region S_rend_ok ?_
  refine So.n (Nat.le_of_ble_eq_true rfl) (A.v rfl (V.as (v := .p (.v (.int .i64 (0)))) rfl ?_))
  refine So.e ?_
  show HT _ _ _ _ _
  refine HT.seq ?_
  refine HT.seq ?_
  refine HT.drawn S_rend_ok S_rend_det mixed (by kernel_rfl) ?_
  refine Sd.n (Nat.le_of_ble_eq_true rfl) (V.mv (v := .ptr 1 0) rfl ?_)
  refine Sd.n (Nat.le_of_ble_eq_true rfl) (V.ncPtr rfl ?_)
  refine Sd.n (Nat.le_of_ble_eq_true rfl) (V.faPtr ty63 rfl ty29 (Nat.le_of_ble_eq_true rfl) rfl rfl (by first | exact Nat.le_of_ble_eq_true rfl | first | rfl | omega | (simp; done) | (simp; omega)) ?_)
  refine Sd.n (Nat.le_of_ble_eq_true rfl) (V.ldPtr ty29 rfl rfl rfl (by first | exact Nat.le_of_ble_eq_true rfl | (first | rfl | omega | (simp; done) | (simp; omega))) (v := .p (.v (.int .i64 _))) rfl ?_)
  refine Sd.n (Nat.le_of_ble_eq_true rfl) (V.bin (a := (.v (.int .i64 _))) (b := (.v (.int .i64 (0)))) (r := .v (.bool _)) rfl rfl rfl trivial ?_)
  refine Sd.n (Nat.le_of_ble_eq_true rfl) (V.mv (v := .p (.v (.bool _))) rfl ?_)
  refine Sd.gd rfl rfl (Nat.le_of_ble_eq_true rfl) (Nat.le_of_ble_eq_true rfl) (fun h1 => ?_) (fun h1 => ?_)
  · have h1 := of_decide_eq_true h1
    refine V.mv (v := .ptr 1 0) rfl ?_
    refine Sd.gy rfl rfl (Nat.le_of_ble_eq_true rfl) (Nat.le_of_ble_eq_true rfl) ?_
    refine V.ncPtr rfl ?_
    refine Sd.gy rfl rfl (Nat.le_of_ble_eq_true rfl) (Nat.le_of_ble_eq_true rfl) ?_
    refine V.faPtr ty63 rfl ty3 (Nat.le_of_ble_eq_true rfl) rfl rfl (by first | exact Nat.le_of_ble_eq_true rfl | first | rfl | omega | (simp; done) | (simp; omega)) ?_
    refine Sd.gy rfl rfl (Nat.le_of_ble_eq_true rfl) (Nat.le_of_ble_eq_true rfl) ?_
    refine V.ldPtr ty3 rfl rfl rfl (by first | exact Nat.le_of_ble_eq_true rfl | (first | rfl | omega | (simp; done) | (simp; omega))) (v := .p (.v (.int .i64 _))) rfl ?_
    refine Sd.gy rfl rfl (Nat.le_of_ble_eq_true rfl) (Nat.le_of_ble_eq_true rfl) ?_
    refine V.mv (v := .ptr 1 0) rfl ?_
    refine Sd.gy rfl rfl (Nat.le_of_ble_eq_true rfl) (Nat.le_of_ble_eq_true rfl) ?_
    refine V.ncPtr rfl ?_
    refine Sd.gy rfl rfl (Nat.le_of_ble_eq_true rfl) (Nat.le_of_ble_eq_true rfl) ?_
    refine V.faPtr ty63 rfl ty22 (Nat.le_of_ble_eq_true rfl) rfl rfl (by first | exact Nat.le_of_ble_eq_true rfl | first | rfl | omega | (simp; done) | (simp; omega)) ?_
    refine Sd.gy rfl rfl (Nat.le_of_ble_eq_true rfl) (Nat.le_of_ble_eq_true rfl) ?_
    refine V.ldPtr ty22 rfl rfl rfl (by first | exact Nat.le_of_ble_eq_true rfl | (first | rfl | omega | (simp; done) | (simp; omega))) (v := .p (.bs _)) rfl ?_
    refine Sd.gy rfl rfl (Nat.le_of_ble_eq_true rfl) (Nat.le_of_ble_eq_true rfl) ?_
    refine V.len ty22 (v := .p (.bs _)) rfl rfl ?_
    refine Sd.gy rfl rfl (Nat.le_of_ble_eq_true rfl) (Nat.le_of_ble_eq_true rfl) ?_
    refine V.bin (a := (.v (.int .i64 _))) (b := (.v (.int .i64 _))) (r := .v (.bool _)) rfl rfl rfl trivial ?_
    refine Sd.gy rfl rfl (Nat.le_of_ble_eq_true rfl) (Nat.le_of_ble_eq_true rfl) ?_
    refine V.mv (v := .p (.v (.bool _))) rfl ?_
    refine Sd.gd rfl rfl (Nat.le_of_ble_eq_true rfl) (Nat.le_of_ble_eq_true rfl) (fun h2 => ?_) (fun h2 => ?_)
    · have h2 := of_decide_eq_true (bnF h2)
      refine V.mv (v := .p (.v (.bool _))) rfl ?_
      refine Sd.gy rfl rfl (Nat.le_of_ble_eq_true rfl) (Nat.le_of_ble_eq_true rfl) ?_
      refine V.not rfl ?_
      refine Sd.gy rfl rfl (Nat.le_of_ble_eq_true rfl) (Nat.le_of_ble_eq_true rfl) ?_
      refine V.pkFalse (u := .p (.v (.bool _))) rfl rfl ?_
      refine Sd.n (Nat.le_of_ble_eq_true rfl) (V.pkTrue (u := .p (.v (.bool _))) rfl rfl ?_)
      refine Sd.e ?_
      show HT _ _ _ _ _
      refine R.cond rfl rfl (fun h3 => ?_) (fun h3 => ?_)
      · refine HT.seq ?_
        refine HT.region S_rend_ok ?_
        refine So.n (Nat.le_of_ble_eq_true rfl) (A.v rfl (V.as (v := .p (.v (.int .i64 (181)))) rfl ?_))
        refine So.e ?_
        show HT _ _ _ _ _
        refine HT.ret ?_
        exact ret_ok (sg [(1, 1)]) h rfl rfl rfl ⟨trivial, trivial⟩ ⟨trivial, trivial⟩ rfl ⟨⟨⟨le_int (by first | with_reducible rfl | (intro j hj; rfl) | exact (endF_1 (by assumption) (by assumption)).symm | exact (endF_2 (by assumption) (by cases is <;> simp_all)).symm | exact (endF_3 (by assumption) (by assumption) (by cases is <;> simp_all)).symm | exact (endF_4 (by assumption)).symm), trivial⟩, trivial⟩, ⟨⟨_, rfl, .inr (ob_rows (by first | rfl | ((try dsimp only); (first | with_reducible rfl | (intro j hj; rfl) | exact (endF_1 (by assumption) (by assumption)).symm | exact (endF_2 (by assumption) (by cases is <;> simp_all)).symm | exact (endF_3 (by assumption) (by assumption) (by cases is <;> simp_all)).symm | exact (endF_4 (by assumption)).symm))) (by first | rfl | ((try dsimp only); (first | with_reducible rfl | (intro j hj; rfl) | exact (endF_1 (by assumption) (by assumption)).symm | exact (endF_2 (by assumption) (by cases is <;> simp_all)).symm | exact (endF_3 (by assumption) (by assumption) (by cases is <;> simp_all)).symm | exact (endF_4 (by assumption)).symm)))), trivial⟩, trivial⟩⟩
      · refine HT.skip ?_
        show HT _ _ _ _ _
        refine HT.seq ?_
        refine HT.region S_rend_ok ?_
        refine So.n (Nat.le_of_ble_eq_true rfl) (A.v rfl (V.mv (v := .ptr 1 0) rfl ?_))
        refine So.n (Nat.le_of_ble_eq_true rfl) (A.v rfl (V.ncPtr rfl ?_))
        refine So.n (Nat.le_of_ble_eq_true rfl) (A.v rfl (V.faPtr ty63 rfl ty29 (Nat.le_of_ble_eq_true rfl) rfl rfl (by first | exact Nat.le_of_ble_eq_true rfl | first | rfl | omega | (simp; done) | (simp; omega)) ?_))
        refine So.n (Nat.le_of_ble_eq_true rfl) (A.v rfl (V.ldPtr ty29 rfl rfl rfl (by first | exact Nat.le_of_ble_eq_true rfl | (first | rfl | omega | (simp; done) | (simp; omega))) (v := .p (.v (.int .i64 _))) rfl ?_))
        refine So.n (Nat.le_of_ble_eq_true rfl) (A.v rfl (V.as (v := .p (.v (.int .i64 _))) rfl ?_))
        refine So.e ?_
        show HT _ _ _ _ _
        refine HT.ret ?_
        exact ret_ok (sg [(1, 1)]) h rfl rfl rfl ⟨trivial, trivial⟩ ⟨trivial, trivial⟩ rfl ⟨⟨⟨le_int (by first | with_reducible rfl | (intro j hj; rfl) | exact (endF_1 (by assumption) (by assumption)).symm | exact (endF_2 (by assumption) (by cases is <;> simp_all)).symm | exact (endF_3 (by assumption) (by assumption) (by cases is <;> simp_all)).symm | exact (endF_4 (by assumption)).symm), trivial⟩, trivial⟩, ⟨⟨_, rfl, .inr (ob_rows (by first | rfl | ((try dsimp only); (first | with_reducible rfl | (intro j hj; rfl) | exact (endF_1 (by assumption) (by assumption)).symm | exact (endF_2 (by assumption) (by cases is <;> simp_all)).symm | exact (endF_3 (by assumption) (by assumption) (by cases is <;> simp_all)).symm | exact (endF_4 (by assumption)).symm))) (by first | rfl | ((try dsimp only); (first | with_reducible rfl | (intro j hj; rfl) | exact (endF_1 (by assumption) (by assumption)).symm | exact (endF_2 (by assumption) (by cases is <;> simp_all)).symm | exact (endF_3 (by assumption) (by assumption) (by cases is <;> simp_all)).symm | exact (endF_4 (by assumption)).symm)))), trivial⟩, trivial⟩⟩
    · have h2 := of_decide_eq_false (bnT h2)
      refine Sd.gn (b := true) rfl rfl rfl (Nat.le_of_ble_eq_true rfl) (Nat.le_of_ble_eq_true rfl) ?_
      refine Sd.gy rfl rfl (Nat.le_of_ble_eq_true rfl) (Nat.le_of_ble_eq_true rfl) ?_
      refine V.pkTrue (u := .p (.v (.bool true))) rfl rfl ?_
      refine Sd.n (Nat.le_of_ble_eq_true rfl) (V.pkTrue (u := .p (.v (.bool true))) rfl rfl ?_)
      refine Sd.e ?_
      show HT _ _ _ _ _
      refine R.condT rfl ?_
      refine HT.seq ?_
      refine HT.region S_rend_ok ?_
      refine So.n (Nat.le_of_ble_eq_true rfl) (A.v rfl (V.as (v := .p (.v (.int .i64 (181)))) rfl ?_))
      refine So.e ?_
      show HT _ _ _ _ _
      refine HT.ret ?_
      exact ret_ok (sg [(1, 1)]) h rfl rfl rfl ⟨trivial, trivial⟩ ⟨trivial, trivial⟩ rfl ⟨⟨⟨le_int (by first | with_reducible rfl | (intro j hj; rfl) | exact (endF_1 (by assumption) (by assumption)).symm | exact (endF_2 (by assumption) (by cases is <;> simp_all)).symm | exact (endF_3 (by assumption) (by assumption) (by cases is <;> simp_all)).symm | exact (endF_4 (by assumption)).symm), trivial⟩, trivial⟩, ⟨⟨_, rfl, .inr (ob_rows (by first | rfl | ((try dsimp only); (first | with_reducible rfl | (intro j hj; rfl) | exact (endF_1 (by assumption) (by assumption)).symm | exact (endF_2 (by assumption) (by cases is <;> simp_all)).symm | exact (endF_3 (by assumption) (by assumption) (by cases is <;> simp_all)).symm | exact (endF_4 (by assumption)).symm))) (by first | rfl | ((try dsimp only); (first | with_reducible rfl | (intro j hj; rfl) | exact (endF_1 (by assumption) (by assumption)).symm | exact (endF_2 (by assumption) (by cases is <;> simp_all)).symm | exact (endF_3 (by assumption) (by assumption) (by cases is <;> simp_all)).symm | exact (endF_4 (by assumption)).symm)))), trivial⟩, trivial⟩⟩
  · have h1 := of_decide_eq_false h1
    refine Sd.gn (b := false) rfl rfl rfl (Nat.le_of_ble_eq_true rfl) (Nat.le_of_ble_eq_true rfl) ?_
    refine Sd.gn (b := false) rfl rfl rfl (Nat.le_of_ble_eq_true rfl) (Nat.le_of_ble_eq_true rfl) ?_
    refine Sd.gn (b := false) rfl rfl rfl (Nat.le_of_ble_eq_true rfl) (Nat.le_of_ble_eq_true rfl) ?_
    refine Sd.gn (b := false) rfl rfl rfl (Nat.le_of_ble_eq_true rfl) (Nat.le_of_ble_eq_true rfl) ?_
    refine Sd.gn (b := false) rfl rfl rfl (Nat.le_of_ble_eq_true rfl) (Nat.le_of_ble_eq_true rfl) ?_
    refine Sd.gn (b := false) rfl rfl rfl (Nat.le_of_ble_eq_true rfl) (Nat.le_of_ble_eq_true rfl) ?_
    refine Sd.gn (b := false) rfl rfl rfl (Nat.le_of_ble_eq_true rfl) (Nat.le_of_ble_eq_true rfl) ?_
    refine Sd.gn (b := false) rfl rfl rfl (Nat.le_of_ble_eq_true rfl) (Nat.le_of_ble_eq_true rfl) ?_
    refine Sd.gn (b := false) rfl rfl rfl (Nat.le_of_ble_eq_true rfl) (Nat.le_of_ble_eq_true rfl) ?_
    refine Sd.gn (b := false) rfl rfl rfl (Nat.le_of_ble_eq_true rfl) (Nat.le_of_ble_eq_true rfl) ?_
    refine Sd.gu rfl rfl (Nat.le_of_ble_eq_true rfl) ?_
    refine Sd.gu rfl rfl (Nat.le_of_ble_eq_true rfl) ?_
    refine Sd.gn (b := false) rfl rfl rfl (Nat.le_of_ble_eq_true rfl) (Nat.le_of_ble_eq_true rfl) ?_
    refine Sd.n (Nat.le_of_ble_eq_true rfl) (V.pkFalse (u := .p (.v (.bool false))) rfl rfl ?_)
    refine Sd.e ?_
    show HT _ _ _ _ _
    refine R.condF rfl ?_
    refine HT.skip ?_
    show HT _ _ _ _ _
    refine HT.seq ?_
    refine HT.region S_rend_ok ?_
    refine So.n (Nat.le_of_ble_eq_true rfl) (A.v rfl (V.mv (v := .ptr 1 0) rfl ?_))
    refine So.n (Nat.le_of_ble_eq_true rfl) (A.v rfl (V.ncPtr rfl ?_))
    refine So.n (Nat.le_of_ble_eq_true rfl) (A.v rfl (V.faPtr ty63 rfl ty29 (Nat.le_of_ble_eq_true rfl) rfl rfl (by first | exact Nat.le_of_ble_eq_true rfl | first | rfl | omega | (simp; done) | (simp; omega)) ?_))
    refine So.n (Nat.le_of_ble_eq_true rfl) (A.v rfl (V.ldPtr ty29 rfl rfl rfl (by first | exact Nat.le_of_ble_eq_true rfl | (first | rfl | omega | (simp; done) | (simp; omega))) (v := .p (.v (.int .i64 _))) rfl ?_))
    refine So.n (Nat.le_of_ble_eq_true rfl) (A.v rfl (V.as (v := .p (.v (.int .i64 _))) rfl ?_))
    refine So.e ?_
    show HT _ _ _ _ _
    refine HT.ret ?_
    exact ret_ok (sg [(1, 1)]) h rfl rfl rfl ⟨trivial, trivial⟩ ⟨trivial, trivial⟩ rfl ⟨⟨⟨le_int (by first | with_reducible rfl | (intro j hj; rfl) | exact (endF_1 (by assumption) (by assumption)).symm | exact (endF_2 (by assumption) (by cases is <;> simp_all)).symm | exact (endF_3 (by assumption) (by assumption) (by cases is <;> simp_all)).symm | exact (endF_4 (by assumption)).symm), trivial⟩, trivial⟩, ⟨⟨_, rfl, .inr (ob_rows (by first | rfl | ((try dsimp only); (first | with_reducible rfl | (intro j hj; rfl) | exact (endF_1 (by assumption) (by assumption)).symm | exact (endF_2 (by assumption) (by cases is <;> simp_all)).symm | exact (endF_3 (by assumption) (by assumption) (by cases is <;> simp_all)).symm | exact (endF_4 (by assumption)).symm))) (by first | rfl | ((try dsimp only); (first | with_reducible rfl | (intro j hj; rfl) | exact (endF_1 (by assumption) (by assumption)).symm | exact (endF_2 (by assumption) (by cases is <;> simp_all)).symm | exact (endF_3 (by assumption) (by assumption) (by cases is <;> simp_all)).symm | exact (endF_4 (by assumption)).symm)))), trivial⟩, trivial⟩⟩
end Go.Vh
