/- What is proved: each function of the seat's program does what its contract says, wherever it is called; no condition. -/
import Derived.Test.YtblndbaoefaoiaaDoorWalk0
import Derived.Test.YtblndbaoefaoiaaDoorWalk1
set_option linter.unusedVariables false
set_option linter.unusedSimpArgs false
set_option linter.unusedVariables false
set_option linter.unusedSimpArgs false
namespace Go.Vh
open Go Go.Vc Go.Proofs Go.Vw
def lawOnceSp : Sp := ⟨[], mkE (α := (List UInt8) × (List UInt8)) (fun (s, gs) => [.p (.bs (s)), .p (.bs (gs))]) (fun (s, gs) => []) (fun (s, gs) => True) (fun (s, gs) => [.p (.v (.bool true))]) (fun (s, gs) => [])⟩
def S_lawOnce : FuncId → Option Sp := fun f => if f = 8 then some headSp else if f = 9 then some rnewSp else if f = 10 then some rrightSp else if f = 11 then some rtakeSp else none
theorem S_lawOnce_ok : ∀ f s, S_lawOnce f = some s → FOK Tryd.prog gl f s := fun f s h => by
 unfold S_lawOnce at h
 split at h
 ·rename_i e; cases h; subst e; exact head_ok
 split at h
 ·rename_i e; cases h; subst e; exact rnew_ok
 split at h
 ·rename_i e; cases h; subst e; exact rright_ok
 split at h
 ·rename_i e; cases h; subst e; exact rtake_ok
 cases h
theorem S_lawOnce_det : ∀ f s, S_lawOnce f = some s → SpDet s.sp := fun f s h => by
 unfold S_lawOnce at h
 split at h
 ·cases h; exact mkE_det _ _ _ _ _
 split at h
 ·cases h; exact mkE_det _ _ _ _ _
 split at h
 ·cases h; exact mkE_det _ _ _ _ _
 split at h
 ·cases h; exact mkE_det _ _ _ _ _
 cases h
set_option maxHeartbeats 1000000 in
set_option maxRecDepth 20000 in
theorem lawOnce_ok : FOK Tryd.prog gl 3 lawOnceSp := by
 refine FOK.ofE (tyOf_ok Tryd.prog) (slots := [4]) (nt := 89) Tryd.func3 rfl rfl rfl rfl (by decide) 2 (fun ⟨_, _⟩ => rfl) (by decide) (fun ⟨_, _⟩ => ⟨trivial, trivial, trivial⟩) ?_
 rintro ⟨s, gs⟩ kk hlen hpre h
 have hl0 : (s).length ≤ 9223372036854775807 := hlen.1
 have hl1 : (gs).length ≤ 9223372036854775807 := hlen.2.1
 replace hpre : True := hpre
 show HT (cx Tryd.prog 89 (tyOf Tryd.prog) gl []) _ [(0, .p (.bs (s))), (1, .p (.bs (gs)))] [] _
 refine HT.seq (HT.region S_lawOnce_ok (So.q rfl rfl (V.as (v := .p (.v (.bool false))) rfl (So.e (HT.seq (HT.region S_lawOnce_ok ?_))))))
 refine So.n (lk rfl) (A.call0 [] 1 rfl rfl rfl rfl trivial trivial () trivial trivial (by trivial) (Φ := fun _ => True) (fun _ _ => trivial) (.inl rfl) (v := .p (.v (.bool true))) rfl (O' := _) rfl (fun h1 => ?_))
 refine So.q rfl rfl (V.as (v := .p (.v (.bool true))) rfl (So.e (HT.seq (HT.region S_lawOnce_ok (So.q rfl rfl (V.mv (v := .p (.bs _)) rfl ?_))))))
 refine So.n (lk rfl) (A.call0 [.p (.bs _)] 1 rfl rfl rfl rfl ⟨trivial, trivial⟩ trivial _ ⟨.refl _, trivial⟩ trivial (by trivial) (Φ := fun _ => True) (fun _ _ => trivial) (.inl rfl) (v := .agg 3 _) rfl (O' := _) rfl (fun h2 => ?_))
 refine So.n (lk rfl) (A.alloc 1 1 ty26 rfl trivial (f := fun j => ([.v (.int .i64 0), .v (.slice none 0 0), .v (.slice none 0 0)] : List PV).getD j (.v undef)) (fun j hj => by match j, hj with | 0, _ => rfl | 1, _ => rfl | 2, _ => rfl) (So.s (A.stoAg ty26 rfl (n := 3) rfl (by decide) (by intro j hj; first | rfl | trivial | (match j, hj with | 0, _ => (first | trivial | rfl) | 1, _ => (first | trivial | rfl) | 2, _ => (first | trivial | rfl))) rfl rfl rfl (So.e (HT.seq (HT.seq (HT.region S_lawOnce_ok (So.q rfl rfl (V.mv (v := .p (.bs _)) rfl (So.q rfl rfl (V.len ty22 (v := .p (.bs _)) rfl rfl (So.q rfl rfl (V.bin (a := (.v (.int .i64 _))) (b := (.v (.int .i64 (32)))) (r := .v (.bool _)) rfl rfl rfl trivial (So.q rfl rfl (V.mv (v := .p (.v (.bool _))) rfl ?_)))))))))))))))
 refine So.gd rfl rfl (lk rfl) (lk rfl) (fun h3 => ?_) (fun h3 => ?_)
 ·have h3 := of_decide_eq_true (bnF h3)
  refine A.v rfl (V.mv (v := .p (.bs _)) rfl (So.gy rfl rfl (lk rfl) (lk rfl) (A.v rfl (V.len ty22 (v := .p (.bs _)) rfl rfl (So.gy rfl rfl (lk rfl) (lk rfl) (A.v rfl (V.bin (a := (.v (.int .i64 _))) (b := (.v (.int .i64 (40)))) (r := .v (.bool _)) rfl rfl rfl trivial (So.q rfl rfl (V.pkFalse (u := .p (.v (.bool _))) rfl rfl (So.e ?_))))))))))
  show HT _ _ _ _ _
  refine R.cond rfl rfl (fun h4 => ?_) (fun h4 => ?_)
  ·have h4 := of_decide_eq_true h4
   refine HT.seq (HT.region S_lawOnce_ok (So.q rfl rfl (V.mv (v := .p (.v (.bool true))) rfl (So.q rfl rfl (V.mv (v := .p (.v (.bool true))) rfl (So.gy rfl rfl (lk rfl) (lk rfl) (A.v rfl (V.mv (v := .p (.bs _)) rfl (So.gy rfl rfl (lk rfl) (lk rfl) (A.v rfl (V.len ty22 (v := .p (.bs _)) rfl rfl (So.gy rfl rfl (lk rfl) (lk rfl) (A.v rfl (V.bin (a := (.v (.int .i64 _))) (b := (.v (.int .i64 (32)))) (r := .v (.bool _)) rfl rfl rfl trivial ?_))))))))))))))
   refine So.gy rfl rfl (lk rfl) (lk rfl) (A.v rfl (V.mv (v := .p (.v (.bool _))) rfl ?_))
   refine So.gd rfl rfl (lk rfl) (lk rfl) (fun h5 => ?_) (fun h5 => ?_)
   ·have h5 := of_decide_eq_false h5
    refine A.v rfl (V.ldPtrA ty26 rfl rfl rfl rfl (lk rfl) (So.gy rfl rfl (lk rfl) (lk rfl) ?_))
    refine A.call0 [.agg 3 _] 2 rfl rfl rfl rfl ⟨trivial, trivial⟩ trivial (0, (if s.length = 32 then s else []), []) ⟨le_agg (fun j hj => by match j, hj with | 0, _ => rfl | 1, _ => (first | rfl | (show PV.bs _ = PV.bs _; congr 1; first | rfl | (rw [hz]; rfl) | (rw [if_pos (by omega)]; done) | (rw [if_neg (by omega)]; done) | (simp only [take_full]; done))) | 2, _ => rfl), trivial⟩ trivial (by first | omega | (simp only [List.drop_zero, List.take_length]; omega) | (simp; done) | (simp; omega)) (Φ := fun _ => True) (fun _ _ => trivial) (.inl rfl) (v := .p (.v (.bool _))) rfl (O' := _) rfl (fun h6 => ?_)
    refine So.gy rfl rfl (lk rfl) (lk rfl) (A.v rfl (V.not rfl (So.gy rfl rfl (lk rfl) (lk rfl) (A.v rfl (V.pkFalse (u := .p (.v (.bool _))) rfl rfl (So.q rfl rfl (V.pkTrue (u := .p (.v (.bool _))) rfl rfl (So.q rfl rfl (V.as (v := .p (.v (.bool _))) rfl (So.e ?_))))))))))
    show HT _ _ _ _ _
    refine HT.ret ?_
    exact ret_ok (sg []) h rfl rfl rfl trivial ⟨trivial, trivial⟩ rfl ⟨⟨⟨le_bool (by first | with_reducible rfl | rfl | (refine bnot_no (decide_eq_false (right_no (by rw [if_neg (by omega)]; decide) _ _)))), trivial⟩, trivial⟩, trivial⟩
   ·have h5 := of_decide_eq_true h5
    refine So.gn (b := true) rfl rfl rfl (lk rfl) (lk rfl) (So.gn (b := true) rfl rfl rfl (lk rfl) (lk rfl) (So.gy rfl rfl (lk rfl) (lk rfl) (A.v rfl (V.pkTrue (u := .p (.v (.bool true))) rfl rfl (So.q rfl rfl (V.pkTrue (u := .p (.v (.bool true))) rfl rfl (So.q rfl rfl (V.as (v := .p (.v (.bool true))) rfl (So.e ?_)))))))))
    show HT _ _ _ _ _
    refine HT.ret ?_
    exact ret_ok (sg []) h rfl rfl rfl trivial ⟨trivial, trivial⟩ rfl ⟨⟨⟨le_bool (by first | with_reducible rfl | rfl | (refine bnot_no (decide_eq_false (right_no (by rw [if_neg (by omega)]; decide) _ _)))), trivial⟩, trivial⟩, trivial⟩
  ·have h4 := of_decide_eq_false h4
   refine HT.skip (HT.seq (HT.region S_lawOnce_ok (So.n (lk rfl) (A.alloc 2 1 ty29 rfl trivial (f := fun _ => .v (.bool false)) (fun _ _ => rfl) (So.e (HT.seq (HT.seq (HT.region S_lawOnce_ok (So.q rfl rfl (V.as (v := .p (.v (.int .i64 (0)))) rfl (So.e ?_)))))))))))
   show HT _ _ _ _ _
   refine HT.block ?_
   refine R.loop (σ := Nat) (fun n => [(8, .p (.v (.int .i64 ((n : Int)))))]) (fun n => [(1, ⟨26, 1, 3, true, .rows (fun j => ([.v (.int .i64 (onceN s gs n).g), .bs (onceN s gs n).s, .sl (onceN s gs n).K.length 2 (kR (onceN s gs n).K)] : List PV).getD j (.v undef))⟩), (2, ⟨29, 1, 256, true, .rows (fun j => .v (.bool ((onceN s gs n).used j)))⟩)]) [1, 5, 6, 7] [] (fun n => n ≤ gs.length) (fun n => gs.length - n) (0) (fr0 := [(1, .p (.bs _)), (5, .p (.v (.bool true))), (6, .ptr 1 0), (7, .ptr 2 0)]) (O0 := []) rfl rfl (by first | rfl | omega | (show _ < 256; omega) | (simp; done) | (simp; omega)) ⟨⟨⟨le_int (by first | rfl | omega | (intro j hj; rfl) | (intro j hj; match j, hj with | 0, _ => rfl | 1, _ => exact congrArg PV.bs (if_pos (by omega)) | 2, _ => rfl)), trivial⟩, ⟨.refl _, trivial⟩, ⟨.refl _, trivial⟩, ⟨.refl _, rfl⟩, ⟨.refl _, rfl⟩, trivial⟩, ⟨⟨_, rfl, .inr (ob_rows (by first | rfl | ((try dsimp only); first | rfl | omega | (intro j hj; rfl) | (intro j hj; match j, hj with | 0, _ => rfl | 1, _ => exact congrArg PV.bs (if_pos (by omega)) | 2, _ => rfl))) (by first | rfl | ((try dsimp only); first | rfl | omega | (intro j hj; rfl) | (intro j hj; match j, hj with | 0, _ => rfl | 1, _ => exact congrArg PV.bs (if_pos (by omega)) | 2, _ => rfl)))), trivial⟩, ⟨_, rfl, .inr (ob_rows (by first | rfl | ((try dsimp only); first | rfl | omega | (intro j hj; rfl) | (intro j hj; match j, hj with | 0, _ => rfl | 1, _ => exact congrArg PV.bs (if_pos (by omega)) | 2, _ => rfl))) (by first | rfl | ((try dsimp only); first | rfl | omega | (intro j hj; rfl) | (intro j hj; match j, hj with | 0, _ => rfl | 1, _ => exact congrArg PV.bs (if_pos (by omega)) | 2, _ => rfl)))), trivial⟩, trivial⟩⟩ (fun n hP0 => ?_)
   refine HT.seq (HT.seq (HT.region S_lawOnce_ok (So.q rfl rfl (V.mv (v := .p (.v (.int .i64 ((_ : Nat) : Int)))) rfl (So.q rfl rfl (V.mv (v := .p (.bs _)) rfl (So.q rfl rfl (V.len ty22 (v := .p (.bs _)) rfl rfl (So.q rfl rfl (V.bin (a := (.v (.int .i64 ((_ : Nat) : Int)))) (b := (.v (.int .i64 _))) (r := .v (.bool _)) rfl rfl rfl trivial (So.e ?_)))))))))))
   show HT _ _ _ _ _
   refine R.cond rfl rfl (fun h7 => ?_) (fun h7 => ?_)
   ·have h7 := of_decide_eq_true h7
    refine HT.skip (HT.seq (HT.block (HT.seq ?_)))
    refine HT.planS S_lawOnce_ok S_lawOnce_det mixed [9, 10, 13, 14] [⟨[0, 1, 2, 3, 4, 5, 6, 7, 8, 9, 10], 11, [0, 1, 2, 3, 4, 5, 6, 7, 8, 9, 10]⟩, ⟨[0, 1, 2, 3, 4, 5, 6, 7, 8, 9, 10], 12, [9, 10]⟩] (by kernel_rfl) ?_
    have hO := once_ok (s0 := s) (by omega) gs n
    have hu8 := (gs.getD n 0).toNat_lt
    have hk16 := hO.r.2.2.2.2
    have hE1 : (onceN s gs n).used (gs.getD n 0).toNat = true → (takeF (onceN s gs n).g (onceN s gs n).s (onceN s gs n).K ((gs.getD n 0).toNat : Int)).e = 171 := fun q => OS.e_used hO hu8 q
    have hE2 : (takeF (onceN s gs n).g (onceN s gs n).s (onceN s gs n).K ((gs.getD n 0).toNat : Int)).e ≠ 0 → (takeF (onceN s gs n).g (onceN s gs n).s (onceN s gs n).K ((gs.getD n 0).toNat : Int)).b.length = 0 ∧ ((takeF (onceN s gs n).g (onceN s gs n).s (onceN s gs n).K ((gs.getD n 0).toNat : Int)).e = 171 ∨ (takeF (onceN s gs n).g (onceN s gs n).s (onceN s gs n).K ((gs.getD n 0).toNat : Int)).e = 172) := fun q => OS.e_no hO hu8 q
    have hE3 : (takeF (onceN s gs n).g (onceN s gs n).s (onceN s gs n).K ((gs.getD n 0).toNat : Int)).e = 0 → rightR (takeF (onceN s gs n).g (onceN s gs n).s (onceN s gs n).K ((gs.getD n 0).toNat : Int)).g (takeF (onceN s gs n).g (onceN s gs n).s (onceN s gs n).K ((gs.getD n 0).toNat : Int)).s (takeF (onceN s gs n).g (onceN s gs n).s (onceN s gs n).K ((gs.getD n 0).toNat : Int)).K ∧ (takeF (onceN s gs n).g (onceN s gs n).s (onceN s gs n).K ((gs.getD n 0).toNat : Int)).b.length = 32 := fun q => OS.e_yes hO hu8 q
    have hN1 : (takeF (onceN s gs n).g (onceN s gs n).s (onceN s gs n).K ((gs.getD n 0).toNat : Int)).e ≠ 0 → onceN s gs (n + 1) = (onceN s gs n) := fun q => OS.next_no q
    have hN2 : (takeF (onceN s gs n).g (onceN s gs n).s (onceN s gs n).K ((gs.getD n 0).toNat : Int)).e = 0 → onceN s gs (n + 1) = ⟨(takeF (onceN s gs n).g (onceN s gs n).s (onceN s gs n).K ((gs.getD n 0).toNat : Int)).g, (takeF (onceN s gs n).g (onceN s gs n).s (onceN s gs n).K ((gs.getD n 0).toNat : Int)).s, (takeF (onceN s gs n).g (onceN s gs n).s (onceN s gs n).K ((gs.getD n 0).toNat : Int)).K, fun j => if j = (gs.getD n 0).toNat then true else (onceN s gs n).used j⟩ := fun q => OS.next_yes q
    refine Pl.lk ?_
    refine Si.n rfl (lk rfl) (V.ldPtrA ty26 rfl rfl rfl rfl (lk rfl) (Si.n rfl (lk rfl) (V.mv (v := .p (.bs _)) rfl (Si.n rfl (lk rfl) (V.mv (v := .p (.v (.int .i64 ((_ : Nat) : Int)))) rfl (Si.n rfl (lk rfl) (V.ixBs ty22 ty5 rfl rfl rfl (by omega) (Int.toNat_natCast _) (Si.n rfl (lk rfl) (V.ldRp ty5 rfl rfl (lk rfl) (v := (.u8 _)) rfl (Si.n rfl (lk rfl) (V.cvN ty2 ty5 (a := (.u8 _)) (r := (.v (.int .i64 _))) rfl rfl ?_)))))))))))
    refine Si.n rfl (lk rfl) (V.call [.agg 3 _, .p (.v (.int .i64 _))] 3 rfl rfl rfl rfl ⟨trivial, trivial, trivial⟩ trivial ((onceN s gs n).g, (onceN s gs n).s, (onceN s gs n).K, ((gs.getD n 0).toNat : Int)) ⟨le_agg (fun j hj => by match j, hj with | 0, _ => rfl | 1, _ => (first | rfl | (show PV.bs _ = PV.bs _; congr 1; first | rfl | (rw [hz]; rfl) | (rw [if_pos (by omega)]; done) | (rw [if_neg (by omega)]; done) | (simp only [take_full]; done))) | 2, _ => rfl), .refl _, trivial⟩ trivial (by first | omega | (simp only [List.drop_zero, List.take_length]; omega) | (simp; done) | (simp; omega)) (Φ := fun _ => True) (fun _ _ => trivial) (.inl ⟨trivial, trivial, trivial⟩) (v := .tup 3 _) rfl (fun h8 => ?_))
    refine Si.n rfl (lk rfl) (V.mv (v := .tup 3 _) rfl (Si.n rfl (lk rfl) (V.ext rfl (lk rfl) (v := .agg 3 _) rfl (Si.n rfl (lk rfl) (V.ext rfl (lk rfl) (v := .p (.bs _)) rfl (Si.n rfl (lk rfl) (V.ext rfl (lk rfl) (v := .p (.v (.int .i64 _))) rfl (Si.e ?_))))))))
    refine ⟨flEq_nil, fun ff => ?_⟩
    refine Lo.n rfl (lk rfl) (A.alloc 3 1 ty26 rfl trivial (f := fun j => ([.v (.int .i64 0), .v (.slice none 0 0), .v (.slice none 0 0)] : List PV).getD j (.v undef)) (fun j hj => by match j, hj with | 0, _ => rfl | 1, _ => rfl | 2, _ => rfl) ?_)
    refine ⟨_, fun ff => ff, ap0d, rfl, FG.id, ?_⟩
    show planA _ _ _ _ _ [(0, .agg 3 _), (1, .p (.bs _)), (2, .p (.v (.int .i64 ((_ : Nat) : Int)))), (3, .rp _ _), (4, .p (.u8 _)), (5, .p (.v (.int .i64 _))), (6, .tup 3 _), (7, .tup 3 _), (8, .agg 3 _), (9, .p (.bs _)), (10, .p (.v (.int .i64 _)))] _ _ _
    refine Pl.lk ?_
    refine Si.n rfl (lk rfl) (V.ldPtrA ty26 rfl rfl rfl rfl (lk rfl) (Si.n rfl (lk rfl) (V.mv (v := .p (.bs _)) rfl (Si.n rfl (lk rfl) (V.mv (v := .p (.v (.int .i64 ((_ : Nat) : Int)))) rfl (Si.n rfl (lk rfl) (V.ixBs ty22 ty5 rfl rfl rfl (by omega) (Int.toNat_natCast _) (Si.n rfl (lk rfl) (V.ldRp ty5 rfl rfl (lk rfl) (v := (.u8 _)) rfl (Si.n rfl (lk rfl) (V.cvN ty2 ty5 (a := (.u8 _)) (r := (.v (.int .i64 _))) rfl rfl ?_)))))))))))
    refine Si.n rfl (lk rfl) (V.call [.agg 3 _, .p (.v (.int .i64 _))] 4 rfl rfl rfl rfl ⟨trivial, trivial, trivial⟩ trivial ((onceN s gs n).g, (onceN s gs n).s, (onceN s gs n).K, ((gs.getD n 0).toNat : Int)) ⟨le_agg (fun j hj => by match j, hj with | 0, _ => rfl | 1, _ => (first | rfl | (show PV.bs _ = PV.bs _; congr 1; first | rfl | (rw [hz]; rfl) | (rw [if_pos (by omega)]; done) | (rw [if_neg (by omega)]; done) | (simp only [take_full]; done))) | 2, _ => rfl), .refl _, trivial⟩ trivial (by first | omega | (simp only [List.drop_zero, List.take_length]; omega) | (simp; done) | (simp; omega)) (Φ := fun _ => True) (fun _ _ => trivial) (.inl ⟨trivial, trivial, trivial⟩) (v := .tup 3 _) rfl (fun h9 => ?_))
    refine Si.n rfl (lk rfl) (V.mv (v := .tup 3 _) rfl (Si.n rfl (lk rfl) (V.ext rfl (lk rfl) (v := .agg 3 _) rfl (Si.n rfl (lk rfl) (V.ext rfl (lk rfl) (v := .p (.bs _)) rfl (Si.n rfl (lk rfl) (V.ext rfl (lk rfl) (v := .p (.v (.int .i64 _))) rfl (Si.e ?_))))))))
    refine ⟨(flEq_cons rfl (flEq_cons rfl (flEq_cons rfl (flEq_cons rfl (flEq_cons rfl (flEq_cons rfl (flEq_cons rfl (flEq_cons rfl (flEq_cons rfl (flEq_cons rfl (flEq_cons rfl flEq_nil))))))))))), fun ff => ?_⟩
    refine Lo.s rfl (A.stoAg ty26 rfl (n := 3) rfl (by decide) (by intro j hj; first | rfl | trivial | (match j, hj with | 0, _ => (first | trivial | rfl) | 1, _ => (first | trivial | rfl) | 2, _ => (first | trivial | rfl))) rfl rfl rfl ?_)
    refine ⟨_, fun ff => ff, ap0, rfl, FG.id, ?_⟩
    show planA _ _ _ _ _ [(9, .p (.bs _)), (10, .p (.v (.int .i64 _)))] _ _ _
    refine Pl.e ?_
    refine Si.n rfl (lk rfl) (V.ext rfl (lk rfl) (v := .p (.bs _)) rfl (Si.n rfl (lk rfl) (V.ext rfl (lk rfl) (v := .p (.v (.int .i64 _))) rfl (Si.n rfl (lk rfl) (V.as (v := .p (.bs _)) rfl (Si.n rfl (lk rfl) (V.as (v := .p (.v (.int .i64 _))) rfl (Si.e ?_))))))))
    refine ⟨(flEq_cons rfl (flEq_cons rfl flEq_nil)), ?_⟩
    show HT _ _ _ _ _
    refine HT.seq (HT.seq (HT.region S_lawOnce_ok (So.q rfl rfl (V.mv (v := .p (.bs _)) rfl (So.q rfl rfl (V.mv (v := .p (.v (.int .i64 ((_ : Nat) : Int)))) rfl (So.q rfl rfl (V.ixBs ty22 ty5 rfl rfl rfl (by omega) (Int.toNat_natCast _) (So.q rfl rfl (V.ldRp ty5 rfl rfl (lk rfl) (v := (.u8 _)) rfl (So.q rfl rfl (V.ixArrP10T ty29 ty4 rfl rfl rfl (by first | rfl | omega | (show _ < 256; omega) | (simp; done) | (simp; omega)) rfl (by omega) rfl (So.q rfl rfl (V.ldPtr ty4 rfl rfl rfl (by first | rfl | omega | (show _ < 256; omega) | (simp; done) | (simp; omega)) (v := .p (.v (.bool _))) rfl (So.q rfl rfl (V.mv (v := .p (.v (.bool _))) rfl ?_))))))))))))))))
    refine So.gd rfl rfl (lk rfl) (lk rfl) (fun h10 => ?_) (fun h10 => ?_)
    ·refine A.v rfl (V.mv (v := .p (.v (.int .i64 _))) rfl ?_)
     refine So.gy rfl rfl (lk rfl) (lk rfl) (A.v rfl (V.bin (a := (.v (.int .i64 _))) (b := (.v (.int .i64 (171)))) (r := .v (.bool _)) rfl rfl rfl trivial (So.q rfl rfl (V.pkTrue (u := .p (.v (.bool _))) rfl rfl (So.e ?_)))))
     show HT _ _ _ _ _
     refine R.cond rfl rfl (fun h11 => ?_) (fun h11 => ?_)
     ·have h11 := of_decide_eq_false (bnT h11)
      refine HT.seq ?_
      exfalso; first | exact absurd (hE1 (by assumption)) (by assumption) | omega | (simp_all; done)
     ·have h11 := of_decide_eq_true (bnF h11)
      refine HT.skip (HT.seq (HT.seq (HT.region S_lawOnce_ok (So.q rfl rfl (V.mv (v := .p (.v (.int .i64 _))) rfl (So.q rfl rfl (V.bin (a := (.v (.int .i64 _))) (b := (.v (.int .i64 (0)))) (r := .v (.bool _)) rfl rfl rfl trivial (So.e ?_))))))))
      show HT _ _ _ _ _
      refine R.cond rfl rfl (fun h12 => ?_) (fun h12 => ?_)
      ·have h12 := of_decide_eq_false (bnT h12)
       refine HT.seq (HT.seq (HT.region S_lawOnce_ok (So.q rfl rfl (V.mv (v := .p (.bs _)) rfl (So.q rfl rfl (V.len ty22 (v := .p (.bs _)) rfl rfl (So.q rfl rfl (V.bin (a := (.v (.int .i64 _))) (b := (.v (.int .i64 (0)))) (r := .v (.bool _)) rfl rfl rfl trivial (So.q rfl rfl (V.mv (v := .p (.v (.bool _))) rfl ?_))))))))))
       refine So.gd rfl rfl (lk rfl) (lk rfl) (fun h13 => ?_) (fun h13 => ?_)
       ·have h13 := of_decide_eq_true (bnF h13)
        refine A.v rfl (V.mv (v := .p (.v (.int .i64 _))) rfl (So.gy rfl rfl (lk rfl) (lk rfl) (A.v rfl (V.bin (a := (.v (.int .i64 _))) (b := (.v (.int .i64 (171)))) (r := .v (.bool _)) rfl rfl rfl trivial (So.gy rfl rfl (lk rfl) (lk rfl) (A.v rfl (V.mv (v := .p (.v (.bool _))) rfl ?_)))))))
        refine So.gd rfl rfl (lk rfl) (lk rfl) (fun h14 => ?_) (fun h14 => ?_)
        ·have h14 := of_decide_eq_false (bnT h14)
         refine A.v rfl (V.mv (v := .p (.v (.int .i64 _))) rfl (So.gy rfl rfl (lk rfl) (lk rfl) (A.v rfl (V.bin (a := (.v (.int .i64 _))) (b := (.v (.int .i64 (172)))) (r := .v (.bool _)) rfl rfl rfl trivial (So.gy rfl rfl (lk rfl) (lk rfl) (A.v rfl (V.pkTrue (u := .p (.v (.bool _))) rfl rfl (So.q rfl rfl (V.pkFalse (u := .p (.v (.bool _))) rfl rfl (So.e ?_))))))))))
         show HT _ _ _ _ _
         refine R.cond rfl rfl (fun h15 => ?_) (fun h15 => ?_)
         ·have h15 := of_decide_eq_false (bnT h15)
          refine HT.seq ?_
          exfalso; have := hE2 (by assumption); first | omega | (simp_all; done)
         ·have h15 := of_decide_eq_true (bnF h15)
          refine HT.skip ?_
          show HT _ _ _ _ _
          refine HT.exit ?_
          show HT _ _ _ _ _
          refine HT.region S_lawOnce_ok (So.q rfl rfl (V.mv (v := .p (.v (.int .i64 ((_ : Nat) : Int)))) rfl (So.q rfl rfl (V.addI rfl rfl (by omega) (So.q rfl rfl (V.as (v := .p (.v (.int .i64 _))) rfl (So.e ?_)))))))
          refine ⟨n + 1, by first | rfl | omega | (show _ < 256; omega) | (simp; done) | (simp; omega), by omega, ⟨⟨⟨le_int (by first | rfl | omega | (show _ < 256; omega) | (simp; done) | (simp; omega)), trivial⟩, ⟨.refl _, trivial⟩, ⟨.refl _, trivial⟩, ⟨.refl _, rfl⟩, ⟨.refl _, rfl⟩, trivial⟩, ⟨⟨_, rfl, .inr (ob_rows (by first | rfl | ((try dsimp only); (intro j hj; (first | rw [hN1 (by assumption)] | rw [hN2 (by omega)]); first | done | (match j, hj with | 0, _ => rfl | 1, _ => rfl | 2, _ => rfl)))) (by first | rfl | ((try dsimp only); (intro j hj; (first | rw [hN1 (by assumption)] | rw [hN2 (by omega)]); first | done | (match j, hj with | 0, _ => rfl | 1, _ => rfl | 2, _ => rfl))))), trivial⟩, ⟨_, rfl, .inr (ob_rows (by first | rfl | ((try dsimp only); (intro j hj; (first | rw [hN1 (by assumption)] | rw [hN2 (by omega)]); first | done | (rw [Int.toNat_natCast]; by_cases e9 : j = (gs.getD n 0).toNat <;> first | (rw [if_pos e9]; exact congrArg (fun b => PV.v (Value.bool b)) (if_pos e9).symm) | (rw [if_neg e9]; exact congrArg (fun b => PV.v (Value.bool b)) (if_neg e9).symm))))) (by first | rfl | ((try dsimp only); (intro j hj; (first | rw [hN1 (by assumption)] | rw [hN2 (by omega)]); first | done | (rw [Int.toNat_natCast]; by_cases e9 : j = (gs.getD n 0).toNat <;> first | (rw [if_pos e9]; exact congrArg (fun b => PV.v (Value.bool b)) (if_pos e9).symm) | (rw [if_neg e9]; exact congrArg (fun b => PV.v (Value.bool b)) (if_neg e9).symm)))))), trivial⟩, trivial⟩⟩⟩
        ·have h14 := of_decide_eq_true (bnF h14)
         refine So.gn (b := false) rfl rfl rfl (lk rfl) (lk rfl) (So.gy rfl rfl (lk rfl) (lk rfl) (A.v rfl (V.pkFalse (u := .p (.v (.bool false))) rfl rfl (So.q rfl rfl (V.pkFalse (u := .p (.v (.bool false))) rfl rfl (So.e ?_))))))
         show HT _ _ _ _ _
         refine R.condF rfl ?_
         refine HT.skip ?_
         show HT _ _ _ _ _
         refine HT.exit ?_
         show HT _ _ _ _ _
         refine HT.region S_lawOnce_ok (So.q rfl rfl (V.mv (v := .p (.v (.int .i64 ((_ : Nat) : Int)))) rfl (So.q rfl rfl (V.addI rfl rfl (by omega) (So.q rfl rfl (V.as (v := .p (.v (.int .i64 _))) rfl (So.e ?_)))))))
         refine ⟨n + 1, by first | rfl | omega | (show _ < 256; omega) | (simp; done) | (simp; omega), by omega, ⟨⟨⟨le_int (by first | rfl | omega | (show _ < 256; omega) | (simp; done) | (simp; omega)), trivial⟩, ⟨.refl _, trivial⟩, ⟨.refl _, trivial⟩, ⟨.refl _, rfl⟩, ⟨.refl _, rfl⟩, trivial⟩, ⟨⟨_, rfl, .inr (ob_rows (by first | rfl | ((try dsimp only); (intro j hj; (first | rw [hN1 (by assumption)] | rw [hN2 (by omega)]); first | done | (match j, hj with | 0, _ => rfl | 1, _ => rfl | 2, _ => rfl)))) (by first | rfl | ((try dsimp only); (intro j hj; (first | rw [hN1 (by assumption)] | rw [hN2 (by omega)]); first | done | (match j, hj with | 0, _ => rfl | 1, _ => rfl | 2, _ => rfl))))), trivial⟩, ⟨_, rfl, .inr (ob_rows (by first | rfl | ((try dsimp only); (intro j hj; (first | rw [hN1 (by assumption)] | rw [hN2 (by omega)]); first | done | (rw [Int.toNat_natCast]; by_cases e9 : j = (gs.getD n 0).toNat <;> first | (rw [if_pos e9]; exact congrArg (fun b => PV.v (Value.bool b)) (if_pos e9).symm) | (rw [if_neg e9]; exact congrArg (fun b => PV.v (Value.bool b)) (if_neg e9).symm))))) (by first | rfl | ((try dsimp only); (intro j hj; (first | rw [hN1 (by assumption)] | rw [hN2 (by omega)]); first | done | (rw [Int.toNat_natCast]; by_cases e9 : j = (gs.getD n 0).toNat <;> first | (rw [if_pos e9]; exact congrArg (fun b => PV.v (Value.bool b)) (if_pos e9).symm) | (rw [if_neg e9]; exact congrArg (fun b => PV.v (Value.bool b)) (if_neg e9).symm)))))), trivial⟩, trivial⟩⟩⟩
       ·have h13 := of_decide_eq_false (bnT h13)
        refine So.gn (b := true) rfl rfl rfl (lk rfl) (lk rfl) (So.gn (b := true) rfl rfl rfl (lk rfl) (lk rfl) ?_)
        refine So.gu rfl rfl (lk rfl) ?_
        refine So.gu rfl rfl (lk rfl) ?_
        refine So.gn (b := true) rfl rfl rfl (lk rfl) (lk rfl) (So.q rfl rfl (V.pkTrue (u := .p (.v (.bool true))) rfl rfl (So.e ?_)))
        show HT _ _ _ _ _
        refine R.condT rfl ?_
        refine HT.seq ?_
        exfalso; have := hE2 (by assumption); first | omega | (simp_all; done)
      ·have h12 := of_decide_eq_true (bnF h12)
       refine HT.skip (HT.seq (HT.seq (HT.region S_lawOnce_ok ?_)))
       have hk17 := (hE3 (by omega)).1.2.2.2.2
       refine So.q rfl rfl (V.ldPtrA ty26 rfl rfl rfl rfl (lk rfl) ?_)
       refine So.n (lk rfl) (A.call0 [.agg 3 _] 4 rfl rfl rfl rfl ⟨trivial, trivial⟩ trivial ((takeF (onceN s gs n).g (onceN s gs n).s (onceN s gs n).K ((gs.getD n 0).toNat : Int)).g, (takeF (onceN s gs n).g (onceN s gs n).s (onceN s gs n).K ((gs.getD n 0).toNat : Int)).s, (takeF (onceN s gs n).g (onceN s gs n).s (onceN s gs n).K ((gs.getD n 0).toNat : Int)).K) ⟨le_agg (fun j hj => by match j, hj with | 0, _ => rfl | 1, _ => (first | rfl | (show PV.bs _ = PV.bs _; congr 1; first | rfl | (rw [hz]; rfl) | (rw [if_pos (by omega)]; done) | (rw [if_neg (by omega)]; done) | (simp only [take_full]; done))) | 2, _ => rfl), trivial⟩ trivial (by first | omega | (simp only [List.drop_zero, List.take_length]; omega) | (simp; done) | (simp; omega)) (Φ := fun _ => True) (fun _ _ => trivial) (.inl rfl) (v := .p (.v (.bool _))) rfl (O' := _) rfl (fun h16 => ?_))
       refine So.q rfl rfl (V.not rfl (So.q rfl rfl (V.mv (v := .p (.v (.bool _))) rfl ?_)))
       refine So.gd rfl rfl (lk rfl) (lk rfl) (fun h17 => ?_) (fun h17 => ?_)
       ·have h17 := of_decide_eq_true (bnF h17)
        refine A.v rfl (V.mv (v := .p (.bs _)) rfl (So.gy rfl rfl (lk rfl) (lk rfl) (A.v rfl (V.len ty22 (v := .p (.bs _)) rfl rfl (So.gy rfl rfl (lk rfl) (lk rfl) (A.v rfl (V.bin (a := (.v (.int .i64 _))) (b := (.v (.int .i64 (32)))) (r := .v (.bool _)) rfl rfl rfl trivial (So.q rfl rfl (V.pkFalse (u := .p (.v (.bool _))) rfl rfl (So.e ?_))))))))))
        show HT _ _ _ _ _
        refine R.cond rfl rfl (fun h18 => ?_) (fun h18 => ?_)
        ·have h18 := of_decide_eq_false (bnT h18)
         refine HT.seq ?_
         exfalso; have := hE3 (by omega); first | omega | (simp_all; done)
        ·have h18 := of_decide_eq_true (bnF h18)
         refine HT.skip (HT.seq (HT.region S_lawOnce_ok (So.q rfl rfl (V.mv (v := .p (.bs _)) rfl (So.q rfl rfl (V.mv (v := .p (.v (.int .i64 ((_ : Nat) : Int)))) rfl (So.q rfl rfl (V.ixBs ty22 ty5 rfl rfl rfl (by omega) (Int.toNat_natCast _) (So.q rfl rfl (V.ldRp ty5 rfl rfl (lk rfl) (v := (.u8 _)) rfl (So.q rfl rfl (V.ixArrP10T ty29 ty4 rfl rfl rfl (by first | rfl | omega | (show _ < 256; omega) | (simp; done) | (simp; omega)) rfl (by omega) rfl (So.s (A.sto ty4 rfl rfl rfl (v := .p (.v (.bool true))) rfl rfl rfl (by first | rfl | omega | (show _ < 256; omega) | (simp; done) | (simp; omega)) rfl rfl (So.e ?_)))))))))))))))
         show HT _ _ _ _ _
         refine HT.region S_lawOnce_ok (So.q rfl rfl (V.ldPtrA ty26 rfl rfl rfl rfl (lk rfl) (So.s (A.stoAg ty26 rfl (n := 3) rfl (by decide) (by intro j hj; first | rfl | trivial | (match j, hj with | 0, _ => (first | trivial | rfl) | 1, _ => (first | trivial | rfl) | 2, _ => (first | trivial | rfl))) rfl rfl rfl (So.e (HT.region S_lawOnce_ok (So.q rfl rfl (V.mv (v := .p (.v (.int .i64 ((_ : Nat) : Int)))) rfl (So.q rfl rfl (V.addI rfl rfl (by omega) (So.q rfl rfl (V.as (v := .p (.v (.int .i64 _))) rfl (So.e ?_)))))))))))))
         refine ⟨n + 1, by first | rfl | omega | (show _ < 256; omega) | (simp; done) | (simp; omega), by omega, ⟨⟨⟨le_int (by first | rfl | omega | (show _ < 256; omega) | (simp; done) | (simp; omega)), trivial⟩, ⟨.refl _, trivial⟩, ⟨.refl _, trivial⟩, ⟨.refl _, rfl⟩, ⟨.refl _, rfl⟩, trivial⟩, ⟨⟨_, rfl, .inr (ob_rows (by first | rfl | ((try dsimp only); (intro j hj; (first | rw [hN1 (by assumption)] | rw [hN2 (by omega)]); first | done | (match j, hj with | 0, _ => rfl | 1, _ => rfl | 2, _ => rfl)))) (by first | rfl | ((try dsimp only); (intro j hj; (first | rw [hN1 (by assumption)] | rw [hN2 (by omega)]); first | done | (match j, hj with | 0, _ => rfl | 1, _ => rfl | 2, _ => rfl))))), trivial⟩, ⟨_, rfl, .inr (ob_rows (by first | rfl | ((try dsimp only); (intro j hj; (first | rw [hN1 (by assumption)] | rw [hN2 (by omega)]); first | done | (rw [Int.toNat_natCast]; by_cases e9 : j = (gs.getD n 0).toNat <;> first | (rw [if_pos e9]; exact congrArg (fun b => PV.v (Value.bool b)) (if_pos e9).symm) | (rw [if_neg e9]; exact congrArg (fun b => PV.v (Value.bool b)) (if_neg e9).symm))))) (by first | rfl | ((try dsimp only); (intro j hj; (first | rw [hN1 (by assumption)] | rw [hN2 (by omega)]); first | done | (rw [Int.toNat_natCast]; by_cases e9 : j = (gs.getD n 0).toNat <;> first | (rw [if_pos e9]; exact congrArg (fun b => PV.v (Value.bool b)) (if_pos e9).symm) | (rw [if_neg e9]; exact congrArg (fun b => PV.v (Value.bool b)) (if_neg e9).symm)))))), trivial⟩, trivial⟩⟩⟩
       ·have h17 := of_decide_eq_false (bnT h17)
        refine So.gn (b := true) rfl rfl rfl (lk rfl) (lk rfl) (So.gn (b := true) rfl rfl rfl (lk rfl) (lk rfl) (So.q rfl rfl (V.pkTrue (u := .p (.v (.bool true))) rfl rfl (So.e ?_))))
        show HT _ _ _ _ _
        refine R.condT rfl ?_
        refine HT.seq ?_
        exfalso; have := hE3 (by omega); first | omega | (simp_all; done)
    ·refine So.gn (b := false) rfl rfl rfl (lk rfl) (lk rfl) ?_
     refine So.q rfl rfl (V.pkFalse (u := .p (.v (.bool false))) rfl rfl (So.e ?_))
     show HT _ _ _ _ _
     refine R.condF rfl ?_
     refine HT.skip (HT.seq (HT.seq (HT.region S_lawOnce_ok (So.q rfl rfl (V.mv (v := .p (.v (.int .i64 _))) rfl (So.q rfl rfl (V.bin (a := (.v (.int .i64 _))) (b := (.v (.int .i64 (0)))) (r := .v (.bool _)) rfl rfl rfl trivial (So.e ?_))))))))
     show HT _ _ _ _ _
     refine R.cond rfl rfl (fun h19 => ?_) (fun h19 => ?_)
     ·have h19 := of_decide_eq_false (bnT h19)
      refine HT.seq (HT.seq (HT.region S_lawOnce_ok (So.q rfl rfl (V.mv (v := .p (.bs _)) rfl (So.q rfl rfl (V.len ty22 (v := .p (.bs _)) rfl rfl (So.q rfl rfl (V.bin (a := (.v (.int .i64 _))) (b := (.v (.int .i64 (0)))) (r := .v (.bool _)) rfl rfl rfl trivial (So.q rfl rfl (V.mv (v := .p (.v (.bool _))) rfl ?_))))))))))
      refine So.gd rfl rfl (lk rfl) (lk rfl) (fun h20 => ?_) (fun h20 => ?_)
      ·have h20 := of_decide_eq_true (bnF h20)
       refine A.v rfl (V.mv (v := .p (.v (.int .i64 _))) rfl (So.gy rfl rfl (lk rfl) (lk rfl) (A.v rfl (V.bin (a := (.v (.int .i64 _))) (b := (.v (.int .i64 (171)))) (r := .v (.bool _)) rfl rfl rfl trivial (So.gy rfl rfl (lk rfl) (lk rfl) (A.v rfl (V.mv (v := .p (.v (.bool _))) rfl ?_)))))))
       refine So.gd rfl rfl (lk rfl) (lk rfl) (fun h21 => ?_) (fun h21 => ?_)
       ·have h21 := of_decide_eq_false (bnT h21)
        refine A.v rfl (V.mv (v := .p (.v (.int .i64 _))) rfl (So.gy rfl rfl (lk rfl) (lk rfl) (A.v rfl (V.bin (a := (.v (.int .i64 _))) (b := (.v (.int .i64 (172)))) (r := .v (.bool _)) rfl rfl rfl trivial (So.gy rfl rfl (lk rfl) (lk rfl) (A.v rfl (V.pkTrue (u := .p (.v (.bool _))) rfl rfl (So.q rfl rfl (V.pkFalse (u := .p (.v (.bool _))) rfl rfl (So.e ?_))))))))))
        show HT _ _ _ _ _
        refine R.cond rfl rfl (fun h22 => ?_) (fun h22 => ?_)
        ·have h22 := of_decide_eq_false (bnT h22)
         refine HT.seq ?_
         exfalso; have := hE2 (by assumption); first | omega | (simp_all; done)
        ·have h22 := of_decide_eq_true (bnF h22)
         refine HT.skip ?_
         show HT _ _ _ _ _
         refine HT.exit ?_
         show HT _ _ _ _ _
         refine HT.region S_lawOnce_ok (So.q rfl rfl (V.mv (v := .p (.v (.int .i64 ((_ : Nat) : Int)))) rfl (So.q rfl rfl (V.addI rfl rfl (by omega) (So.q rfl rfl (V.as (v := .p (.v (.int .i64 _))) rfl (So.e ?_)))))))
         refine ⟨n + 1, by first | rfl | omega | (show _ < 256; omega) | (simp; done) | (simp; omega), by omega, ⟨⟨⟨le_int (by first | rfl | omega | (show _ < 256; omega) | (simp; done) | (simp; omega)), trivial⟩, ⟨.refl _, trivial⟩, ⟨.refl _, trivial⟩, ⟨.refl _, rfl⟩, ⟨.refl _, rfl⟩, trivial⟩, ⟨⟨_, rfl, .inr (ob_rows (by first | rfl | ((try dsimp only); (intro j hj; (first | rw [hN1 (by assumption)] | rw [hN2 (by omega)]); first | done | (match j, hj with | 0, _ => rfl | 1, _ => rfl | 2, _ => rfl)))) (by first | rfl | ((try dsimp only); (intro j hj; (first | rw [hN1 (by assumption)] | rw [hN2 (by omega)]); first | done | (match j, hj with | 0, _ => rfl | 1, _ => rfl | 2, _ => rfl))))), trivial⟩, ⟨_, rfl, .inr (ob_rows (by first | rfl | ((try dsimp only); (intro j hj; (first | rw [hN1 (by assumption)] | rw [hN2 (by omega)]); first | done | (rw [Int.toNat_natCast]; by_cases e9 : j = (gs.getD n 0).toNat <;> first | (rw [if_pos e9]; exact congrArg (fun b => PV.v (Value.bool b)) (if_pos e9).symm) | (rw [if_neg e9]; exact congrArg (fun b => PV.v (Value.bool b)) (if_neg e9).symm))))) (by first | rfl | ((try dsimp only); (intro j hj; (first | rw [hN1 (by assumption)] | rw [hN2 (by omega)]); first | done | (rw [Int.toNat_natCast]; by_cases e9 : j = (gs.getD n 0).toNat <;> first | (rw [if_pos e9]; exact congrArg (fun b => PV.v (Value.bool b)) (if_pos e9).symm) | (rw [if_neg e9]; exact congrArg (fun b => PV.v (Value.bool b)) (if_neg e9).symm)))))), trivial⟩, trivial⟩⟩⟩
       ·have h21 := of_decide_eq_true (bnF h21)
        refine So.gn (b := false) rfl rfl rfl (lk rfl) (lk rfl) (So.gy rfl rfl (lk rfl) (lk rfl) (A.v rfl (V.pkFalse (u := .p (.v (.bool false))) rfl rfl (So.q rfl rfl (V.pkFalse (u := .p (.v (.bool false))) rfl rfl (So.e ?_))))))
        show HT _ _ _ _ _
        refine R.condF rfl ?_
        refine HT.skip ?_
        show HT _ _ _ _ _
        refine HT.exit ?_
        show HT _ _ _ _ _
        refine HT.region S_lawOnce_ok (So.q rfl rfl (V.mv (v := .p (.v (.int .i64 ((_ : Nat) : Int)))) rfl (So.q rfl rfl (V.addI rfl rfl (by omega) (So.q rfl rfl (V.as (v := .p (.v (.int .i64 _))) rfl (So.e ?_)))))))
        refine ⟨n + 1, by first | rfl | omega | (show _ < 256; omega) | (simp; done) | (simp; omega), by omega, ⟨⟨⟨le_int (by first | rfl | omega | (show _ < 256; omega) | (simp; done) | (simp; omega)), trivial⟩, ⟨.refl _, trivial⟩, ⟨.refl _, trivial⟩, ⟨.refl _, rfl⟩, ⟨.refl _, rfl⟩, trivial⟩, ⟨⟨_, rfl, .inr (ob_rows (by first | rfl | ((try dsimp only); (intro j hj; (first | rw [hN1 (by assumption)] | rw [hN2 (by omega)]); first | done | (match j, hj with | 0, _ => rfl | 1, _ => rfl | 2, _ => rfl)))) (by first | rfl | ((try dsimp only); (intro j hj; (first | rw [hN1 (by assumption)] | rw [hN2 (by omega)]); first | done | (match j, hj with | 0, _ => rfl | 1, _ => rfl | 2, _ => rfl))))), trivial⟩, ⟨_, rfl, .inr (ob_rows (by first | rfl | ((try dsimp only); (intro j hj; (first | rw [hN1 (by assumption)] | rw [hN2 (by omega)]); first | done | (rw [Int.toNat_natCast]; by_cases e9 : j = (gs.getD n 0).toNat <;> first | (rw [if_pos e9]; exact congrArg (fun b => PV.v (Value.bool b)) (if_pos e9).symm) | (rw [if_neg e9]; exact congrArg (fun b => PV.v (Value.bool b)) (if_neg e9).symm))))) (by first | rfl | ((try dsimp only); (intro j hj; (first | rw [hN1 (by assumption)] | rw [hN2 (by omega)]); first | done | (rw [Int.toNat_natCast]; by_cases e9 : j = (gs.getD n 0).toNat <;> first | (rw [if_pos e9]; exact congrArg (fun b => PV.v (Value.bool b)) (if_pos e9).symm) | (rw [if_neg e9]; exact congrArg (fun b => PV.v (Value.bool b)) (if_neg e9).symm)))))), trivial⟩, trivial⟩⟩⟩
      ·have h20 := of_decide_eq_false (bnT h20)
       refine So.gn (b := true) rfl rfl rfl (lk rfl) (lk rfl) (So.gn (b := true) rfl rfl rfl (lk rfl) (lk rfl) ?_)
       refine So.gu rfl rfl (lk rfl) ?_
       refine So.gu rfl rfl (lk rfl) ?_
       refine So.gn (b := true) rfl rfl rfl (lk rfl) (lk rfl) (So.q rfl rfl (V.pkTrue (u := .p (.v (.bool true))) rfl rfl (So.e ?_)))
       show HT _ _ _ _ _
       refine R.condT rfl ?_
       refine HT.seq ?_
       exfalso; have := hE2 (by assumption); first | omega | (simp_all; done)
     ·have h19 := of_decide_eq_true (bnF h19)
      refine HT.skip (HT.seq (HT.seq (HT.region S_lawOnce_ok ?_)))
      have hk17 := (hE3 (by omega)).1.2.2.2.2
      refine So.q rfl rfl (V.ldPtrA ty26 rfl rfl rfl rfl (lk rfl) ?_)
      refine So.n (lk rfl) (A.call0 [.agg 3 _] 4 rfl rfl rfl rfl ⟨trivial, trivial⟩ trivial ((takeF (onceN s gs n).g (onceN s gs n).s (onceN s gs n).K ((gs.getD n 0).toNat : Int)).g, (takeF (onceN s gs n).g (onceN s gs n).s (onceN s gs n).K ((gs.getD n 0).toNat : Int)).s, (takeF (onceN s gs n).g (onceN s gs n).s (onceN s gs n).K ((gs.getD n 0).toNat : Int)).K) ⟨le_agg (fun j hj => by match j, hj with | 0, _ => rfl | 1, _ => (first | rfl | (show PV.bs _ = PV.bs _; congr 1; first | rfl | (rw [hz]; rfl) | (rw [if_pos (by omega)]; done) | (rw [if_neg (by omega)]; done) | (simp only [take_full]; done))) | 2, _ => rfl), trivial⟩ trivial (by first | omega | (simp only [List.drop_zero, List.take_length]; omega) | (simp; done) | (simp; omega)) (Φ := fun _ => True) (fun _ _ => trivial) (.inl rfl) (v := .p (.v (.bool _))) rfl (O' := _) rfl (fun h23 => ?_))
      refine So.q rfl rfl (V.not rfl (So.q rfl rfl (V.mv (v := .p (.v (.bool _))) rfl ?_)))
      refine So.gd rfl rfl (lk rfl) (lk rfl) (fun h24 => ?_) (fun h24 => ?_)
      ·have h24 := of_decide_eq_true (bnF h24)
       refine A.v rfl (V.mv (v := .p (.bs _)) rfl (So.gy rfl rfl (lk rfl) (lk rfl) (A.v rfl (V.len ty22 (v := .p (.bs _)) rfl rfl (So.gy rfl rfl (lk rfl) (lk rfl) (A.v rfl (V.bin (a := (.v (.int .i64 _))) (b := (.v (.int .i64 (32)))) (r := .v (.bool _)) rfl rfl rfl trivial (So.q rfl rfl (V.pkFalse (u := .p (.v (.bool _))) rfl rfl (So.e ?_))))))))))
       show HT _ _ _ _ _
       refine R.cond rfl rfl (fun h25 => ?_) (fun h25 => ?_)
       ·have h25 := of_decide_eq_false (bnT h25)
        refine HT.seq ?_
        exfalso; have := hE3 (by omega); first | omega | (simp_all; done)
       ·have h25 := of_decide_eq_true (bnF h25)
        refine HT.skip (HT.seq (HT.region S_lawOnce_ok (So.q rfl rfl (V.mv (v := .p (.bs _)) rfl (So.q rfl rfl (V.mv (v := .p (.v (.int .i64 ((_ : Nat) : Int)))) rfl (So.q rfl rfl (V.ixBs ty22 ty5 rfl rfl rfl (by omega) (Int.toNat_natCast _) (So.q rfl rfl (V.ldRp ty5 rfl rfl (lk rfl) (v := (.u8 _)) rfl (So.q rfl rfl (V.ixArrP10T ty29 ty4 rfl rfl rfl (by first | rfl | omega | (show _ < 256; omega) | (simp; done) | (simp; omega)) rfl (by omega) rfl (So.s (A.sto ty4 rfl rfl rfl (v := .p (.v (.bool true))) rfl rfl rfl (by first | rfl | omega | (show _ < 256; omega) | (simp; done) | (simp; omega)) rfl rfl (So.e ?_)))))))))))))))
        show HT _ _ _ _ _
        refine HT.region S_lawOnce_ok (So.q rfl rfl (V.ldPtrA ty26 rfl rfl rfl rfl (lk rfl) (So.s (A.stoAg ty26 rfl (n := 3) rfl (by decide) (by intro j hj; first | rfl | trivial | (match j, hj with | 0, _ => (first | trivial | rfl) | 1, _ => (first | trivial | rfl) | 2, _ => (first | trivial | rfl))) rfl rfl rfl (So.e (HT.region S_lawOnce_ok (So.q rfl rfl (V.mv (v := .p (.v (.int .i64 ((_ : Nat) : Int)))) rfl (So.q rfl rfl (V.addI rfl rfl (by omega) (So.q rfl rfl (V.as (v := .p (.v (.int .i64 _))) rfl (So.e ?_)))))))))))))
        refine ⟨n + 1, by first | rfl | omega | (show _ < 256; omega) | (simp; done) | (simp; omega), by omega, ⟨⟨⟨le_int (by first | rfl | omega | (show _ < 256; omega) | (simp; done) | (simp; omega)), trivial⟩, ⟨.refl _, trivial⟩, ⟨.refl _, trivial⟩, ⟨.refl _, rfl⟩, ⟨.refl _, rfl⟩, trivial⟩, ⟨⟨_, rfl, .inr (ob_rows (by first | rfl | ((try dsimp only); (intro j hj; (first | rw [hN1 (by assumption)] | rw [hN2 (by omega)]); first | done | (match j, hj with | 0, _ => rfl | 1, _ => rfl | 2, _ => rfl)))) (by first | rfl | ((try dsimp only); (intro j hj; (first | rw [hN1 (by assumption)] | rw [hN2 (by omega)]); first | done | (match j, hj with | 0, _ => rfl | 1, _ => rfl | 2, _ => rfl))))), trivial⟩, ⟨_, rfl, .inr (ob_rows (by first | rfl | ((try dsimp only); (intro j hj; (first | rw [hN1 (by assumption)] | rw [hN2 (by omega)]); first | done | (rw [Int.toNat_natCast]; by_cases e9 : j = (gs.getD n 0).toNat <;> first | (rw [if_pos e9]; exact congrArg (fun b => PV.v (Value.bool b)) (if_pos e9).symm) | (rw [if_neg e9]; exact congrArg (fun b => PV.v (Value.bool b)) (if_neg e9).symm))))) (by first | rfl | ((try dsimp only); (intro j hj; (first | rw [hN1 (by assumption)] | rw [hN2 (by omega)]); first | done | (rw [Int.toNat_natCast]; by_cases e9 : j = (gs.getD n 0).toNat <;> first | (rw [if_pos e9]; exact congrArg (fun b => PV.v (Value.bool b)) (if_pos e9).symm) | (rw [if_neg e9]; exact congrArg (fun b => PV.v (Value.bool b)) (if_neg e9).symm)))))), trivial⟩, trivial⟩⟩⟩
      ·have h24 := of_decide_eq_false (bnT h24)
       refine So.gn (b := true) rfl rfl rfl (lk rfl) (lk rfl) (So.gn (b := true) rfl rfl rfl (lk rfl) (lk rfl) (So.q rfl rfl (V.pkTrue (u := .p (.v (.bool true))) rfl rfl (So.e ?_))))
       show HT _ _ _ _ _
       refine R.condT rfl ?_
       refine HT.seq ?_
       exfalso; have := hE3 (by omega); first | omega | (simp_all; done)
   ·have h7 := of_decide_eq_false h7
    refine HT.exit ?_
    show HT _ _ _ _ _
    refine HT.seq (HT.region S_lawOnce_ok (So.q rfl rfl (V.mv (v := .p (.v (.bool true))) rfl (So.q rfl rfl (V.as (v := .p (.v (.bool true))) rfl (So.e ?_))))))
    show HT _ _ _ _ _
    refine HT.ret ?_
    exact ret_ok (sg []) h rfl rfl rfl trivial ⟨trivial, trivial⟩ rfl ⟨⟨⟨le_bool (by first | with_reducible rfl | rfl | (refine bnot_no (decide_eq_false (right_no (by rw [if_neg (by omega)]; decide) _ _)))), trivial⟩, trivial⟩, trivial⟩
 ·have h3 := of_decide_eq_false (bnT h3)
  refine So.gn (b := true) rfl rfl rfl (lk rfl) (lk rfl) (So.gn (b := true) rfl rfl rfl (lk rfl) (lk rfl) (So.q rfl rfl (V.pkTrue (u := .p (.v (.bool true))) rfl rfl (So.e ?_))))
  show HT _ _ _ _ _
  refine R.condT rfl ?_
  refine HT.seq (HT.region S_lawOnce_ok (So.q rfl rfl (V.mv (v := .p (.v (.bool true))) rfl (So.q rfl rfl (V.mv (v := .p (.v (.bool true))) rfl (So.gy rfl rfl (lk rfl) (lk rfl) (A.v rfl (V.mv (v := .p (.bs _)) rfl (So.gy rfl rfl (lk rfl) (lk rfl) (A.v rfl (V.len ty22 (v := .p (.bs _)) rfl rfl (So.gy rfl rfl (lk rfl) (lk rfl) (A.v rfl (V.bin (a := (.v (.int .i64 _))) (b := (.v (.int .i64 (32)))) (r := .v (.bool _)) rfl rfl rfl trivial ?_))))))))))))))
  refine So.gy rfl rfl (lk rfl) (lk rfl) (A.v rfl (V.mv (v := .p (.v (.bool _))) rfl ?_))
  refine So.gd rfl rfl (lk rfl) (lk rfl) (fun h26 => ?_) (fun h26 => ?_)
  ·have h26 := of_decide_eq_false h26
   refine A.v rfl (V.ldPtrA ty26 rfl rfl rfl rfl (lk rfl) (So.gy rfl rfl (lk rfl) (lk rfl) ?_))
   refine A.call0 [.agg 3 _] 2 rfl rfl rfl rfl ⟨trivial, trivial⟩ trivial (0, (if s.length = 32 then s else []), []) ⟨le_agg (fun j hj => by match j, hj with | 0, _ => rfl | 1, _ => (first | rfl | (show PV.bs _ = PV.bs _; congr 1; first | rfl | (rw [hz]; rfl) | (rw [if_pos (by omega)]; done) | (rw [if_neg (by omega)]; done) | (simp only [take_full]; done))) | 2, _ => rfl), trivial⟩ trivial (by first | omega | (simp only [List.drop_zero, List.take_length]; omega) | (simp; done) | (simp; omega)) (Φ := fun _ => True) (fun _ _ => trivial) (.inl rfl) (v := .p (.v (.bool _))) rfl (O' := _) rfl (fun h27 => ?_)
   refine So.gy rfl rfl (lk rfl) (lk rfl) (A.v rfl (V.not rfl (So.gy rfl rfl (lk rfl) (lk rfl) (A.v rfl (V.pkFalse (u := .p (.v (.bool _))) rfl rfl (So.q rfl rfl (V.pkTrue (u := .p (.v (.bool _))) rfl rfl (So.q rfl rfl (V.as (v := .p (.v (.bool _))) rfl (So.e ?_))))))))))
   show HT _ _ _ _ _
   refine HT.ret ?_
   exact ret_ok (sg []) h rfl rfl rfl trivial ⟨trivial, trivial⟩ rfl ⟨⟨⟨le_bool (by first | with_reducible rfl | rfl | (refine bnot_no (decide_eq_false (right_no (by rw [if_neg (by omega)]; decide) _ _)))), trivial⟩, trivial⟩, trivial⟩
  ·have h26 := of_decide_eq_true h26
   refine So.gn (b := true) rfl rfl rfl (lk rfl) (lk rfl) (So.gn (b := true) rfl rfl rfl (lk rfl) (lk rfl) (So.gy rfl rfl (lk rfl) (lk rfl) (A.v rfl (V.pkTrue (u := .p (.v (.bool true))) rfl rfl (So.q rfl rfl (V.pkTrue (u := .p (.v (.bool true))) rfl rfl (So.q rfl rfl (V.as (v := .p (.v (.bool true))) rfl (So.e ?_)))))))))
   show HT _ _ _ _ _
   refine HT.ret ?_
   exact ret_ok (sg []) h rfl rfl rfl trivial ⟨trivial, trivial⟩ rfl ⟨⟨⟨le_bool (by first | with_reducible rfl | rfl | (refine bnot_no (decide_eq_false (right_no (by rw [if_neg (by omega)]; decide) _ _)))), trivial⟩, trivial⟩, trivial⟩
end Go.Vh
