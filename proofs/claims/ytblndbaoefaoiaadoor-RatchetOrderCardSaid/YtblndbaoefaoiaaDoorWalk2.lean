/- What is proved: each function of the seat's program does what its contract says, wherever it is called; no condition. -/
import Derived.Test.YtblndbaoefaoiaaDoorWalk0
import Derived.Test.YtblndbaoefaoiaaDoorWalk1
import Derived.Test.YtblndbaoefaoiaaDoorPure0
set_option linter.unusedVariables false
set_option linter.unusedSimpArgs false
set_option linter.unusedVariables false
set_option linter.unusedSimpArgs false
namespace Go.Vh
open Go Go.Vc Go.Proofs Go.Vw
def lawOrderSp : Sp := ⟨[], mkE (α := (List UInt8) × (List UInt8)) (fun (s, o) => [.p (.bs (s)), .agg 8 (fun j => .u8 (o.getD j 0))]) (fun (s, o) => []) (fun (s, o) => True) (fun (s, o) => [.p (.v (.bool true))]) (fun (s, o) => [])⟩
def S_lawOrder : FuncId → Option Sp := fun f => if f = 8 then some headSp else if f = 9 then some rnewSp else if f = 18 then some rnextSp else if f = 11 then some rtakeSp else none
theorem S_lawOrder_ok : ∀ f s, S_lawOrder f = some s → FOK Tryd.prog gl f s := fun f s h => by
 unfold S_lawOrder at h
 split at h
 ·rename_i e; cases h; subst e; exact head_ok
 split at h
 ·rename_i e; cases h; subst e; exact rnew_ok
 split at h
 ·rename_i e; cases h; subst e; exact rnext_ok
 split at h
 ·rename_i e; cases h; subst e; exact rtake_ok
 cases h
theorem S_lawOrder_det : ∀ f s, S_lawOrder f = some s → SpDet s.sp := fun f s h => by
 unfold S_lawOrder at h
 split at h
 ·cases h; exact mkE_det _ _ _ _ _
 split at h
 ·cases h; exact mkE_det _ _ _ _ _
 split at h
 ·cases h; exact mkE_det _ _ _ _ _
 split at h
 ·cases h; exact mkE_det _ _ _ _ _
 cases h
set_option maxHeartbeats 1000000 in
set_option maxRecDepth 20000 in
theorem lawOrder_ok : FOK Tryd.prog gl 7 lawOrderSp := by
 refine FOK.ofE (tyOf_ok Tryd.prog) (slots := [4]) (nt := 87) Tryd.func7 rfl rfl rfl rfl (by decide) 2 (fun ⟨_, _⟩ => rfl) (by decide) (fun ⟨_, _⟩ => ⟨trivial, trivial, trivial⟩) ?_
 rintro ⟨s, o⟩ kk hlen hpre h
 have hl0 : (s).length ≤ 9223372036854775807 := hlen.1
 replace hpre : True := hpre
 show HT (cx Tryd.prog 87 (tyOf Tryd.prog) gl []) _ [(0, .p (.bs (s))), (1, .agg 8 (fun j => .u8 (o.getD j 0)))] [] _
 refine HT.seq (HT.region S_lawOrder_ok (So.n (lk rfl) (A.boxAg 1 1 (n := 8) rfl (by intro j hj; first | rfl | trivial | (match j, hj with | 0, _ => (first | trivial | rfl) | 1, _ => (first | trivial | rfl) | 2, _ => (first | trivial | rfl) | 3, _ => (first | trivial | rfl) | 4, _ => (first | trivial | rfl) | 5, _ => (first | trivial | rfl) | 6, _ => (first | trivial | rfl) | 7, _ => (first | trivial | rfl)) | (split <;> first | rfl | trivial | (split <;> first | rfl | trivial))) rfl trivial (So.q rfl rfl (V.as (v := .p (.v (.bool false))) rfl (So.e (HT.seq (HT.region S_lawOrder_ok ?_))))))))
 refine So.n (lk rfl) (A.call0 [] 2 rfl rfl rfl rfl trivial trivial () trivial trivial (by trivial) (Φ := fun _ => True) (fun _ _ => trivial) (.inl rfl) (v := .p (.v (.bool true))) rfl (O' := _) rfl (fun h1 => ?_))
 refine So.q rfl rfl (V.as (v := .p (.v (.bool true))) rfl (So.e (HT.seq (HT.seq (HT.region S_lawOrder_ok (So.q rfl rfl (V.mv (v := .p (.bs _)) rfl (So.q rfl rfl (V.len ty22 (v := .p (.bs _)) rfl rfl (So.q rfl rfl (V.bin (a := (.v (.int .i64 _))) (b := (.v (.int .i64 (32)))) (r := .v (.bool _)) rfl rfl rfl trivial (So.e ?_))))))))))))
 show HT _ _ _ _ _
 refine R.cond rfl rfl (fun h2 => ?_) (fun h2 => ?_)
 ·have h2 := of_decide_eq_false (bnT h2)
  refine HT.seq (HT.region S_lawOrder_ok (So.q rfl rfl (V.mv (v := .p (.v (.bool true))) rfl (So.q rfl rfl (V.as (v := .p (.v (.bool true))) rfl (So.e ?_))))))
  show HT _ _ _ _ _
  refine HT.ret ?_
  exact ret_ok (sg []) h rfl rfl rfl trivial ⟨trivial, trivial⟩ rfl ⟨⟨⟨le_bool (by first | with_reducible rfl | rfl), trivial⟩, trivial⟩, trivial⟩
 ·have h2 := of_decide_eq_true (bnF h2)
  refine HT.skip (HT.seq (HT.region S_lawOrder_ok (So.n (lk rfl) (A.alloc 2 1 ty44 rfl trivial (f := fun _ => .str []) (fun j hj => by match j, hj with | 0, _ => rfl | 1, _ => rfl | 2, _ => rfl | 3, _ => rfl | 4, _ => rfl | 5, _ => rfl | 6, _ => rfl | 7, _ => rfl) (So.e (HT.seq (HT.region S_lawOrder_ok (So.q rfl rfl (V.mv (v := .p (.bs _)) rfl ?_)))))))))
  refine So.n (lk rfl) (A.call0 [.p (.bs _)] 3 rfl rfl rfl rfl ⟨trivial, trivial⟩ trivial _ ⟨.refl _, trivial⟩ trivial (by trivial) (Φ := fun _ => True) (fun _ _ => trivial) (.inl rfl) (v := .agg 3 _) rfl (O' := _) rfl (fun h3 => ?_))
  refine So.n (lk rfl) (A.alloc 3 1 ty26 rfl trivial (f := fun j => ([.v (.int .i64 0), .v (.slice none 0 0), .v (.slice none 0 0)] : List PV).getD j (.v undef)) (fun j hj => by match j, hj with | 0, _ => rfl | 1, _ => rfl | 2, _ => rfl) (So.s (A.stoAg ty26 rfl (n := 3) rfl (by decide) (by intro j hj; first | rfl | trivial | (match j, hj with | 0, _ => (first | trivial | rfl) | 1, _ => (first | trivial | rfl) | 2, _ => (first | trivial | rfl))) rfl rfl rfl (So.e (HT.seq (HT.seq (HT.region S_lawOrder_ok (So.q rfl rfl (V.as (v := .p (.v (.int .i64 (0)))) rfl (So.e (HT.block ?_)))))))))))
  refine R.loop (σ := Nat) (fun m => [(8, .p (.v (.int .i64 ((m : Int)))))]) (fun m => [(2, ⟨44, 1, 8, true, .rows (fun j => .str (if j < m then kyN 0 s j else []))⟩), (3, ⟨26, 1, 3, true, .rows (fun j => ([.v (.int .i64 (m : Int)), .bs (nxN 0 s m), .sl ([] : KL).length 2 (kR [])] : List PV).getD j (.v undef))⟩)]) [0, 3, 5, 6, 7] [1] (fun m => m ≤ 8) (fun m => 8 - m) (0) (fr0 := [(0, .p (.bs _)), (3, .ptr 1 0), (5, .p (.v (.bool true))), (6, .ptr 2 0), (7, .ptr 3 0)]) (O0 := [(1, ⟨_, _, _, _, .rows _⟩)]) rfl rfl (by first | rfl | omega | (simp; done) | (simp; omega)) ⟨⟨⟨le_int (by first | rfl | omega | (intro j hj; rfl) | (intro j hj; match j, hj with | 0, _ => rfl | 1, _ => exact congrArg PV.bs (if_pos (by omega)) | 2, _ => rfl)), trivial⟩, ⟨.refl _, trivial⟩, ⟨.refl _, rfl⟩, ⟨.refl _, trivial⟩, ⟨.refl _, rfl⟩, ⟨.refl _, rfl⟩, trivial⟩, ⟨⟨_, rfl, .inr (ob_rows (by first | rfl | ((try dsimp only); first | rfl | omega | (intro j hj; rfl) | (intro j hj; match j, hj with | 0, _ => rfl | 1, _ => exact congrArg PV.bs (if_pos (by omega)) | 2, _ => rfl))) (by first | rfl | ((try dsimp only); first | rfl | omega | (intro j hj; rfl) | (intro j hj; match j, hj with | 0, _ => rfl | 1, _ => exact congrArg PV.bs (if_pos (by omega)) | 2, _ => rfl)))), trivial⟩, ⟨_, rfl, .inr (ob_rows (by first | rfl | ((try dsimp only); first | rfl | omega | (intro j hj; rfl) | (intro j hj; match j, hj with | 0, _ => rfl | 1, _ => exact congrArg PV.bs (if_pos (by omega)) | 2, _ => rfl))) (by first | rfl | ((try dsimp only); first | rfl | omega | (intro j hj; rfl) | (intro j hj; match j, hj with | 0, _ => rfl | 1, _ => exact congrArg PV.bs (if_pos (by omega)) | 2, _ => rfl)))), trivial⟩, ⟨_, rfl, .inl rfl, trivial⟩, trivial⟩⟩ (fun m hP0 => ?_)
  refine HT.seq (HT.seq (HT.region S_lawOrder_ok (So.q rfl rfl (V.mv (v := .p (.v (.int .i64 ((_ : Nat) : Int)))) rfl (So.q rfl rfl (V.bin (a := (.v (.int .i64 ((_ : Nat) : Int)))) (b := (.v (.int .i64 (8)))) (r := .v (.bool _)) rfl rfl rfl trivial (So.e ?_)))))))
  show HT _ _ _ _ _
  refine R.cond rfl rfl (fun h4 => ?_) (fun h4 => ?_)
  ·have h4 := of_decide_eq_true h4
   refine HT.skip (HT.seq (HT.block (HT.seq (HT.region S_lawOrder_ok ?_))))
   have hX := nx_ord (s := s) (by omega) (n := m) (by omega)
   have hXe := congrArg TK.e hX.1
   have hXb := congrArg TK.b hX.1
   have hXg := hX.2
   dsimp only at hXe hXb
   refine So.q rfl rfl (V.ldPtrA ty26 rfl rfl rfl rfl (lk rfl) ?_)
   refine So.n (lk rfl) (A.call0 [.agg 3 _] 4 rfl rfl rfl rfl ⟨trivial, trivial⟩ trivial ((m : Int), nxN 0 s m, []) ⟨le_agg (fun j hj => by match j, hj with | 0, _ => rfl | 1, _ => (first | rfl | (show PV.bs _ = PV.bs _; congr 1; first | rfl | (rw [hz]; rfl) | (rw [if_pos (by omega)]; done) | (rw [if_neg (by omega)]; done) | (simp only [take_full]; done))) | 2, _ => rfl), trivial⟩ trivial (by first | omega | (simp only [List.drop_zero, List.take_length]; omega) | (simp; done) | (simp; omega)) (Φ := fun _ => True) (fun _ _ => trivial) (.inl rfl) (v := .tup 4 _) rfl (O' := _) rfl (fun h5 => ?_))
   refine So.q rfl rfl (V.mv (v := .tup 4 _) rfl (So.q rfl rfl (V.ext rfl (lk rfl) (v := .agg 3 _) rfl (So.q rfl rfl (V.ext rfl (lk rfl) (v := .p (.v (.int .i64 _))) rfl (So.q rfl rfl (V.ext rfl (lk rfl) (v := .p (.bs _)) rfl (So.q rfl rfl (V.ext rfl (lk rfl) (v := .p (.v (.int .i64 _))) rfl (So.n (lk rfl) (A.alloc 4 1 ty26 rfl trivial (f := fun j => ([.v (.int .i64 0), .v (.slice none 0 0), .v (.slice none 0 0)] : List PV).getD j (.v undef)) (fun j hj => by match j, hj with | 0, _ => rfl | 1, _ => rfl | 2, _ => rfl) (So.s (A.stoAg ty26 rfl (n := 3) rfl (by decide) (by intro j hj; first | rfl | trivial | (match j, hj with | 0, _ => (first | trivial | rfl) | 1, _ => (first | trivial | rfl) | 2, _ => (first | trivial | rfl))) rfl rfl rfl (So.q rfl rfl (V.as (v := .p (.v (.int .i64 _))) rfl (So.q rfl rfl (V.as (v := .p (.bs _)) rfl (So.q rfl rfl (V.as (v := .p (.v (.int .i64 _))) rfl ?_)))))))))))))))))))
   refine So.e (HT.seq (HT.seq (HT.region S_lawOrder_ok (So.q rfl rfl (V.mv (v := .p (.v (.int .i64 _))) rfl (So.q rfl rfl (V.bin (a := (.v (.int .i64 _))) (b := (.v (.int .i64 (0)))) (r := .v (.bool _)) rfl rfl rfl trivial (So.q rfl rfl (V.mv (v := .p (.v (.bool _))) rfl ?_)))))))))
   refine So.gd rfl rfl (lk rfl) (lk rfl) (fun h6 => ?_) (fun h6 => ?_)
   ·have h6 := of_decide_eq_true (bnF h6)
    refine A.v rfl (V.mv (v := .p (.v (.int .i64 _))) rfl (So.gy rfl rfl (lk rfl) (lk rfl) (A.v rfl (V.mv (v := .p (.v (.int .i64 ((_ : Nat) : Int)))) rfl (So.gy rfl rfl (lk rfl) (lk rfl) (A.v rfl (V.bin (a := (.v (.int .i64 _))) (b := (.v (.int .i64 ((_ : Nat) : Int)))) (r := .v (.bool _)) rfl rfl rfl trivial (So.q rfl rfl (V.pkFalse (u := .p (.v (.bool _))) rfl rfl (So.e ?_))))))))))
    show HT _ _ _ _ _
    refine R.cond rfl rfl (fun h7 => ?_) (fun h7 => ?_)
    ·have h7 := of_decide_eq_false (bnT h7)
     refine HT.seq ?_
     exfalso; omega
    ·have h7 := of_decide_eq_true (bnF h7)
     refine HT.skip (HT.seq (HT.region S_lawOrder_ok (So.q rfl rfl (V.mv (v := .p (.v (.int .i64 ((_ : Nat) : Int)))) rfl (So.q rfl rfl (V.mv (v := .p (.bs _)) rfl (So.q rfl rfl (V.cvBs ty9 rfl rfl (So.q rfl rfl (V.ixArrP10 ty44 ty9 rfl rfl rfl (by first | rfl | omega | (simp; done) | (simp; omega)) rfl (by omega) (Int.toNat_natCast _) (So.s (A.sto ty9 rfl rfl rfl (v := .p (.str _)) rfl trivial rfl (by first | rfl | omega | (simp; done) | (simp; omega)) rfl rfl (So.e (HT.region S_lawOrder_ok ?_))))))))))))))
     refine So.q rfl rfl (V.ldPtrA ty26 rfl rfl rfl rfl (lk rfl) (So.s (A.stoAg ty26 rfl (n := 3) rfl (by decide) (by intro j hj; first | rfl | trivial | (match j, hj with | 0, _ => (first | trivial | rfl) | 1, _ => (first | trivial | rfl) | 2, _ => (first | trivial | rfl))) rfl rfl rfl (So.e (HT.region S_lawOrder_ok (So.q rfl rfl (V.mv (v := .p (.v (.int .i64 ((_ : Nat) : Int)))) rfl (So.q rfl rfl (V.addI rfl rfl (by omega) (So.q rfl rfl (V.as (v := .p (.v (.int .i64 _))) rfl (So.e ?_))))))))))))
     refine ⟨m + 1, by first | rfl | omega | (simp; done) | (simp; omega), by omega, ⟨⟨⟨le_int (by first | rfl | omega | (simp; done) | (simp; omega)), trivial⟩, ⟨.refl _, trivial⟩, ⟨.refl _, rfl⟩, ⟨.refl _, trivial⟩, ⟨.refl _, rfl⟩, ⟨.refl _, rfl⟩, trivial⟩, ⟨⟨_, rfl, .inr (ob_rows (by first | rfl | ((try dsimp only); (intro j hj; rw [hXb]; exact want_up _ _ _))) (by first | rfl | ((try dsimp only); (intro j hj; rw [hXb]; exact want_up _ _ _)))), trivial⟩, ⟨_, rfl, .inr (ob_rows (by first | rfl | ((try dsimp only); (intro j hj; rw [hX.1]; match j, hj with | 0, _ => rfl | 1, _ => rfl | 2, _ => rfl))) (by first | rfl | ((try dsimp only); (intro j hj; rw [hX.1]; match j, hj with | 0, _ => rfl | 1, _ => rfl | 2, _ => rfl)))), trivial⟩, ⟨_, rfl, .inl rfl, trivial⟩, trivial⟩⟩⟩
   ·have h6 := of_decide_eq_false (bnT h6)
    refine So.gn (b := true) rfl rfl rfl (lk rfl) (lk rfl) (So.gn (b := true) rfl rfl rfl (lk rfl) (lk rfl) (So.q rfl rfl (V.pkTrue (u := .p (.v (.bool true))) rfl rfl (So.e ?_))))
    show HT _ _ _ _ _
    refine R.condT rfl ?_
    refine HT.seq ?_
    exfalso; omega
  ·have h4 := of_decide_eq_false h4
   refine HT.exit ?_
   show HT _ _ _ _ _
   refine HT.seq (HT.region S_lawOrder_ok (So.q rfl rfl (V.mv (v := .p (.bs _)) rfl ?_)))
   refine So.n (lk rfl) (A.call0 [.p (.bs _)] 4 rfl rfl rfl rfl ⟨trivial, trivial⟩ trivial _ ⟨.refl _, trivial⟩ trivial (by trivial) (Φ := fun _ => True) (fun _ _ => trivial) (.inl rfl) (v := .agg 3 _) rfl (O' := _) rfl (fun h8 => ?_))
   refine So.n (lk rfl) (A.alloc 4 1 ty26 rfl trivial (f := fun j => ([.v (.int .i64 0), .v (.slice none 0 0), .v (.slice none 0 0)] : List PV).getD j (.v undef)) (fun j hj => by match j, hj with | 0, _ => rfl | 1, _ => rfl | 2, _ => rfl) (So.s (A.stoAg ty26 rfl (n := 3) rfl (by decide) (by intro j hj; first | rfl | trivial | (match j, hj with | 0, _ => (first | trivial | rfl) | 1, _ => (first | trivial | rfl) | 2, _ => (first | trivial | rfl))) rfl rfl rfl (So.e (HT.seq (HT.region S_lawOrder_ok (So.n (lk rfl) (A.alloc 5 1 ty45 rfl trivial (f := fun _ => .v (.bool false)) (fun _ _ => rfl) (So.e (HT.seq (HT.seq (HT.region S_lawOrder_ok ?_))))))))))))
   refine So.q rfl rfl (V.as (v := .p (.v (.int .i64 (0)))) rfl (So.e (HT.block ?_)))
   refine R.loop (σ := Nat) (fun n => [(15, .p (.v (.int .i64 ((n : Int)))))]) (fun n => [(4, ⟨26, 1, 3, true, .rows (fun j => ([.v (.int .i64 (ordN s o n).g), .bs (ordN s o n).s, .sl (ordN s o n).K.length 2 (kR (ordN s o n).K)] : List PV).getD j (.v undef))⟩), (5, ⟨45, 1, 8, true, .rows (fun j => .v (.bool ((ordN s o n).used j)))⟩)]) [3, 5, 6, 13, 14] [1, 2, 3] (fun n => n ≤ 8) (fun n => 8 - n) (0) (fr0 := [(3, .ptr 1 0), (5, .p (.v (.bool true))), (6, .ptr 2 0), (13, .ptr 4 0), (14, .ptr 5 0)]) (O0 := [(1, ⟨_, _, _, _, .rows _⟩), (2, ⟨_, _, _, _, .rows _⟩), (3, ⟨_, _, _, _, .rows _⟩)]) rfl rfl (by first | rfl | omega | (simp; done) | (simp; omega)) ⟨⟨⟨le_int (by first | rfl | omega | (intro j hj; rfl) | (intro j hj; match j, hj with | 0, _ => rfl | 1, _ => exact congrArg PV.bs (if_pos (by omega)) | 2, _ => rfl)), trivial⟩, ⟨.refl _, rfl⟩, ⟨.refl _, trivial⟩, ⟨.refl _, rfl⟩, ⟨.refl _, rfl⟩, ⟨.refl _, rfl⟩, trivial⟩, ⟨⟨_, rfl, .inr (ob_rows (by first | rfl | ((try dsimp only); first | rfl | omega | (intro j hj; rfl) | (intro j hj; match j, hj with | 0, _ => rfl | 1, _ => exact congrArg PV.bs (if_pos (by omega)) | 2, _ => rfl))) (by first | rfl | ((try dsimp only); first | rfl | omega | (intro j hj; rfl) | (intro j hj; match j, hj with | 0, _ => rfl | 1, _ => exact congrArg PV.bs (if_pos (by omega)) | 2, _ => rfl)))), trivial⟩, ⟨_, rfl, .inr (ob_rows (by first | rfl | ((try dsimp only); first | rfl | omega | (intro j hj; rfl) | (intro j hj; match j, hj with | 0, _ => rfl | 1, _ => exact congrArg PV.bs (if_pos (by omega)) | 2, _ => rfl))) (by first | rfl | ((try dsimp only); first | rfl | omega | (intro j hj; rfl) | (intro j hj; match j, hj with | 0, _ => rfl | 1, _ => exact congrArg PV.bs (if_pos (by omega)) | 2, _ => rfl)))), trivial⟩, ⟨_, rfl, .inl rfl, trivial⟩, ⟨_, rfl, .inl rfl, trivial⟩, ⟨_, rfl, .inl rfl, trivial⟩, trivial⟩⟩ (fun n hP1 => ?_)
   refine HT.seq (HT.seq (HT.region S_lawOrder_ok (So.q rfl rfl (V.mv (v := .p (.v (.int .i64 ((_ : Nat) : Int)))) rfl (So.q rfl rfl (V.bin (a := (.v (.int .i64 ((_ : Nat) : Int)))) (b := (.v (.int .i64 (8)))) (r := .v (.bool _)) rfl rfl rfl trivial (So.e ?_)))))))
   show HT _ _ _ _ _
   refine R.cond rfl rfl (fun h9 => ?_) (fun h9 => ?_)
   ·have h9 := of_decide_eq_true h9
    refine HT.skip (HT.seq (HT.block (HT.seq (HT.region S_lawOrder_ok ?_))))
    have hO := ord_ok (s0 := s) (by omega) o n
    have hu8 := mod8 (o.getD n 0)
    have hk16 := hO.k.r.2.2.2.2
    have hE1 : (ordN s o n).used (o.getD n 0 % 8).toNat = true → (takeF (ordN s o n).g (ordN s o n).s (ordN s o n).K ((o.getD n 0 % 8).toNat : Int)).e = 171 := fun q => OS.e_used hO.k (by omega) q
    have hE2 : (ordN s o n).used (o.getD n 0 % 8).toNat = false → (takeF (ordN s o n).g (ordN s o n).s (ordN s o n).K ((o.getD n 0 % 8).toNat : Int)).e = 0 ∧ (takeF (ordN s o n).g (ordN s o n).s (ordN s o n).K ((o.getD n 0 % 8).toNat : Int)).b = kyN 0 s (o.getD n 0 % 8).toNat := fun q => ⟨(OS.oi_tk hO hu8 q).1, (OS.oi_tk hO hu8 q).2.1⟩
    have hN1 : (takeF (ordN s o n).g (ordN s o n).s (ordN s o n).K ((o.getD n 0 % 8).toNat : Int)).e ≠ 0 → ordN s o (n + 1) = (ordN s o n) := fun q => OS.next_no q
    have hN2 : (takeF (ordN s o n).g (ordN s o n).s (ordN s o n).K ((o.getD n 0 % 8).toNat : Int)).e = 0 → ordN s o (n + 1) = ⟨(takeF (ordN s o n).g (ordN s o n).s (ordN s o n).K ((o.getD n 0 % 8).toNat : Int)).g, (takeF (ordN s o n).g (ordN s o n).s (ordN s o n).K ((o.getD n 0 % 8).toNat : Int)).s, (takeF (ordN s o n).g (ordN s o n).s (ordN s o n).K ((o.getD n 0 % 8).toNat : Int)).K, fun j => if j = (o.getD n 0 % 8).toNat then true else (ordN s o n).used j⟩ := fun q => OS.next_yes q
    refine So.q rfl rfl (V.mv (v := .p (.v (.int .i64 ((_ : Nat) : Int)))) rfl (So.q rfl rfl (V.ixArrP10 ty43 ty5 rfl rfl rfl (by first | rfl | omega | (simp; done) | (simp; omega)) rfl (by omega) (Int.toNat_natCast _) (So.q rfl rfl (V.ldPtr ty5 rfl rfl rfl (by first | rfl | omega | (simp; done) | (simp; omega)) (v := .p (.u8 _)) rfl (So.q rfl rfl (V.bin (a := (.u8 _)) (b := (.u8 8)) (r := .u8 _) rfl rfl rfl (by first | rfl | omega | (simp; done) | (simp; omega)) (So.q rfl rfl (V.as (v := .p (.u8 _)) rfl (So.e (HT.seq (HT.region S_lawOrder_ok (So.q rfl rfl (V.ldPtrA ty26 rfl rfl rfl rfl (lk rfl) (So.q rfl rfl (V.mv (v := .p (.u8 _)) rfl ?_))))))))))))))))
    refine So.q rfl rfl (V.cvN ty2 ty5 (a := (.u8 _)) (r := (.v (.int .i64 _))) rfl rfl ?_)
    refine So.n (lk rfl) (A.call0 [.agg 3 _, .p (.v (.int .i64 _))] 6 rfl rfl rfl rfl ⟨trivial, trivial, trivial⟩ trivial ((ordN s o n).g, (ordN s o n).s, (ordN s o n).K, ((o.getD n 0 % 8).toNat : Int)) ⟨le_agg (fun j hj => by match j, hj with | 0, _ => rfl | 1, _ => (first | rfl | (show PV.bs _ = PV.bs _; congr 1; first | rfl | (rw [hz]; rfl) | (rw [if_pos (by omega)]; done) | (rw [if_neg (by omega)]; done) | (simp only [take_full]; done))) | 2, _ => rfl), .refl _, trivial⟩ trivial (by first | omega | (simp only [List.drop_zero, List.take_length]; omega) | (simp; done) | (simp; omega)) (Φ := fun _ => True) (fun _ _ => trivial) (.inl rfl) (v := .tup 3 _) rfl (O' := _) rfl (fun h10 => ?_))
    refine So.q rfl rfl (V.mv (v := .tup 3 _) rfl (So.q rfl rfl (V.ext rfl (lk rfl) (v := .agg 3 _) rfl (So.q rfl rfl (V.ext rfl (lk rfl) (v := .p (.bs _)) rfl (So.q rfl rfl (V.ext rfl (lk rfl) (v := .p (.v (.int .i64 _))) rfl (So.n (lk rfl) (A.alloc 6 1 ty26 rfl trivial (f := fun j => ([.v (.int .i64 0), .v (.slice none 0 0), .v (.slice none 0 0)] : List PV).getD j (.v undef)) (fun j hj => by match j, hj with | 0, _ => rfl | 1, _ => rfl | 2, _ => rfl) (So.s (A.stoAg ty26 rfl (n := 3) rfl (by decide) (by intro j hj; first | rfl | trivial | (match j, hj with | 0, _ => (first | trivial | rfl) | 1, _ => (first | trivial | rfl) | 2, _ => (first | trivial | rfl))) rfl rfl rfl (So.q rfl rfl (V.as (v := .p (.bs _)) rfl (So.q rfl rfl (V.as (v := .p (.v (.int .i64 _))) rfl (So.e (HT.seq ?_)))))))))))))))))
    refine HT.seq (HT.region S_lawOrder_ok (So.q rfl rfl (V.mv (v := .p (.u8 _)) rfl (So.q rfl rfl (V.ixArrP10T ty45 ty4 rfl rfl rfl (by first | rfl | omega | (simp; done) | (simp; omega)) rfl (by omega) rfl (So.q rfl rfl (V.ldPtr ty4 rfl rfl rfl (by first | rfl | omega | (simp; done) | (simp; omega)) (v := .p (.v (.bool _))) rfl (So.e ?_))))))))
    show HT _ _ _ _ _
    refine R.cond rfl rfl (fun h11 => ?_) (fun h11 => ?_)
    ·refine HT.seq ?_
     refine HT.seq (HT.region S_lawOrder_ok (So.q rfl rfl (V.mv (v := .p (.v (.int .i64 _))) rfl (So.q rfl rfl (V.bin (a := (.v (.int .i64 _))) (b := (.v (.int .i64 (171)))) (r := .v (.bool _)) rfl rfl rfl trivial (So.e ?_))))))
     show HT _ _ _ _ _
     refine R.cond rfl rfl (fun h12 => ?_) (fun h12 => ?_)
     ·have h12 := of_decide_eq_false (bnT h12)
      refine HT.seq ?_
      exfalso; exact absurd (hE1 (by assumption)) (by assumption)
     ·have h12 := of_decide_eq_true (bnF h12)
      refine HT.skip ?_
      show HT _ _ _ _ _
      refine HT.exit ?_
      show HT _ _ _ _ _
      refine HT.region S_lawOrder_ok (So.q rfl rfl (V.mv (v := .p (.v (.int .i64 ((_ : Nat) : Int)))) rfl (So.q rfl rfl (V.addI rfl rfl (by omega) (So.q rfl rfl (V.as (v := .p (.v (.int .i64 _))) rfl (So.e ?_)))))))
      refine ⟨n + 1, by first | rfl | omega | (simp; done) | (simp; omega), by omega, ⟨⟨⟨le_int (by first | rfl | omega | (simp; done) | (simp; omega)), trivial⟩, ⟨.refl _, rfl⟩, ⟨.refl _, trivial⟩, ⟨.refl _, rfl⟩, ⟨.refl _, rfl⟩, ⟨.refl _, rfl⟩, trivial⟩, ⟨⟨_, rfl, .inr (ob_rows (by first | rfl | ((try dsimp only); (intro j hj; (first | rw [hN1 (by omega)] | rw [hN2 (by omega)]); first | done | (match j, hj with | 0, _ => rfl | 1, _ => rfl | 2, _ => rfl)))) (by first | rfl | ((try dsimp only); (intro j hj; (first | rw [hN1 (by omega)] | rw [hN2 (by omega)]); first | done | (match j, hj with | 0, _ => rfl | 1, _ => rfl | 2, _ => rfl))))), trivial⟩, ⟨_, rfl, .inr (ob_rows (by first | rfl | ((try dsimp only); (intro j hj; (first | rw [hN1 (by omega)] | rw [hN2 (by omega)]); first | done | rfl | (rw [Int.toNat_natCast]; by_cases e9 : j = (o.getD n 0 % 8).toNat <;> first | (rw [if_pos e9]; exact congrArg (fun b => PV.v (Value.bool b)) (if_pos e9).symm) | (rw [if_neg e9]; exact congrArg (fun b => PV.v (Value.bool b)) (if_neg e9).symm))))) (by first | rfl | ((try dsimp only); (intro j hj; (first | rw [hN1 (by omega)] | rw [hN2 (by omega)]); first | done | rfl | (rw [Int.toNat_natCast]; by_cases e9 : j = (o.getD n 0 % 8).toNat <;> first | (rw [if_pos e9]; exact congrArg (fun b => PV.v (Value.bool b)) (if_pos e9).symm) | (rw [if_neg e9]; exact congrArg (fun b => PV.v (Value.bool b)) (if_neg e9).symm)))))), trivial⟩, ⟨_, rfl, .inl rfl, trivial⟩, ⟨_, rfl, .inl rfl, trivial⟩, ⟨_, rfl, .inl rfl, trivial⟩, trivial⟩⟩⟩
    ·refine HT.skip ?_
     show HT _ _ _ _ _
     refine HT.seq (HT.seq ?_)
     refine HT.drawn S_lawOrder_ok S_lawOrder_det mixed (by kernel_rfl) ?_
     refine Sd.n (lk rfl) (V.mv (v := .p (.v (.int .i64 _))) rfl (Sd.n (lk rfl) (V.bin (a := (.v (.int .i64 _))) (b := (.v (.int .i64 (0)))) (r := .v (.bool _)) rfl rfl rfl trivial (Sd.n (lk rfl) (V.mv (v := .p (.v (.bool _))) rfl ?_)))))
     refine Sd.gd rfl rfl (lk rfl) (lk rfl) (fun h13 => ?_) (fun h13 => ?_)
     ·have h13 := of_decide_eq_true (bnF h13)
      refine V.mv (v := .p (.bs _)) rfl ?_
      refine Sd.gy rfl rfl (lk rfl) (lk rfl) ?_
      refine V.cvBs ty9 rfl rfl ?_
      refine Sd.gy rfl rfl (lk rfl) (lk rfl) ?_
      refine V.mv (v := .p (.u8 _)) rfl ?_
      refine Sd.gy rfl rfl (lk rfl) (lk rfl) ?_
      refine V.ixArrP10T ty44 ty9 rfl rfl rfl (by first | rfl | omega | (simp; done) | (simp; omega)) rfl (by omega) rfl ?_
      refine Sd.gy rfl rfl (lk rfl) (lk rfl) ?_
      refine V.ldPtr ty9 rfl rfl rfl (by first | rfl | omega | (simp; done) | (simp; omega)) (v := .p (.str _)) rfl ?_
      refine Sd.gy rfl rfl (lk rfl) (lk rfl) ?_
      refine V.bin (a := (.str _)) (b := (.str _)) (r := .v (.bool _)) rfl rfl rfl trivial ?_
      refine Sd.n (lk rfl) (V.pkFalse (u := .p (.v (.bool _))) rfl rfl (Sd.e ?_))
      show HT _ _ _ _ _
      refine R.cond rfl rfl (fun h14 => ?_) (fun h14 => ?_)
      ·have h14 := of_decide_eq_false (bnT h14)
       refine HT.seq ?_
       exfalso; first | exact absurd (hE2 (by assumption)).1 (by assumption) | exact absurd (show (takeF (ordN s o n).g (ordN s o n).s (ordN s o n).K ((o.getD n 0 % 8).toNat : Int)).b = (if (((o.getD n 0 % 8).toNat : Nat) : Int).toNat < m then kyN 0 s (((o.getD n 0 % 8).toNat : Nat) : Int).toNat else []) from by rw [(hE2 (by assumption)).2, if_pos (by omega), Int.toNat_natCast]) (by assumption)
      ·have h14 := of_decide_eq_true (bnF h14)
       refine HT.skip (HT.seq (HT.region S_lawOrder_ok (So.q rfl rfl (V.mv (v := .p (.u8 _)) rfl (So.q rfl rfl (V.ixArrP10T ty45 ty4 rfl rfl rfl (by first | rfl | omega | (simp; done) | (simp; omega)) rfl (by omega) rfl (So.s (A.sto ty4 rfl rfl rfl (v := .p (.v (.bool true))) rfl rfl rfl (by first | rfl | omega | (simp; done) | (simp; omega)) rfl rfl (So.e (HT.region S_lawOrder_ok (So.q rfl rfl (V.ldPtrA ty26 rfl rfl rfl rfl (lk rfl) (So.s (A.stoAg ty26 rfl (n := 3) rfl (by decide) (by intro j hj; first | rfl | trivial | (match j, hj with | 0, _ => (first | trivial | rfl) | 1, _ => (first | trivial | rfl) | 2, _ => (first | trivial | rfl))) rfl rfl rfl ?_))))))))))))))
       refine So.e (HT.region S_lawOrder_ok (So.q rfl rfl (V.mv (v := .p (.v (.int .i64 ((_ : Nat) : Int)))) rfl (So.q rfl rfl (V.addI rfl rfl (by omega) (So.q rfl rfl (V.as (v := .p (.v (.int .i64 _))) rfl (So.e ?_))))))))
       refine ⟨n + 1, by first | rfl | omega | (simp; done) | (simp; omega), by omega, ⟨⟨⟨le_int (by first | rfl | omega | (simp; done) | (simp; omega)), trivial⟩, ⟨.refl _, rfl⟩, ⟨.refl _, trivial⟩, ⟨.refl _, rfl⟩, ⟨.refl _, rfl⟩, ⟨.refl _, rfl⟩, trivial⟩, ⟨⟨_, rfl, .inr (ob_rows (by first | rfl | ((try dsimp only); (intro j hj; (first | rw [hN1 (by omega)] | rw [hN2 (by omega)]); first | done | (match j, hj with | 0, _ => rfl | 1, _ => rfl | 2, _ => rfl)))) (by first | rfl | ((try dsimp only); (intro j hj; (first | rw [hN1 (by omega)] | rw [hN2 (by omega)]); first | done | (match j, hj with | 0, _ => rfl | 1, _ => rfl | 2, _ => rfl))))), trivial⟩, ⟨_, rfl, .inr (ob_rows (by first | rfl | ((try dsimp only); (intro j hj; (first | rw [hN1 (by omega)] | rw [hN2 (by omega)]); first | done | rfl | (rw [Int.toNat_natCast]; by_cases e9 : j = (o.getD n 0 % 8).toNat <;> first | (rw [if_pos e9]; exact congrArg (fun b => PV.v (Value.bool b)) (if_pos e9).symm) | (rw [if_neg e9]; exact congrArg (fun b => PV.v (Value.bool b)) (if_neg e9).symm))))) (by first | rfl | ((try dsimp only); (intro j hj; (first | rw [hN1 (by omega)] | rw [hN2 (by omega)]); first | done | rfl | (rw [Int.toNat_natCast]; by_cases e9 : j = (o.getD n 0 % 8).toNat <;> first | (rw [if_pos e9]; exact congrArg (fun b => PV.v (Value.bool b)) (if_pos e9).symm) | (rw [if_neg e9]; exact congrArg (fun b => PV.v (Value.bool b)) (if_neg e9).symm)))))), trivial⟩, ⟨_, rfl, .inl rfl, trivial⟩, ⟨_, rfl, .inl rfl, trivial⟩, ⟨_, rfl, .inl rfl, trivial⟩, trivial⟩⟩⟩
     ·have h13 := of_decide_eq_false (bnT h13)
      refine Sd.gn (b := true) rfl rfl rfl (lk rfl) (lk rfl) (Sd.gn (b := true) rfl rfl rfl (lk rfl) (lk rfl) (Sd.gn (b := true) rfl rfl rfl (lk rfl) (lk rfl) (Sd.gn (b := true) rfl rfl rfl (lk rfl) (lk rfl) (Sd.gn (b := true) rfl rfl rfl (lk rfl) (lk rfl) (Sd.n (lk rfl) (V.pkTrue (u := .p (.v (.bool true))) rfl rfl (Sd.e ?_)))))))
      show HT _ _ _ _ _
      refine R.condT rfl ?_
      refine HT.seq ?_
      exfalso; first | exact absurd (hE2 (by assumption)).1 (by assumption) | exact absurd (show (takeF (ordN s o n).g (ordN s o n).s (ordN s o n).K ((o.getD n 0 % 8).toNat : Int)).b = (if (((o.getD n 0 % 8).toNat : Nat) : Int).toNat < m then kyN 0 s (((o.getD n 0 % 8).toNat : Nat) : Int).toNat else []) from by rw [(hE2 (by assumption)).2, if_pos (by omega), Int.toNat_natCast]) (by assumption)
   ·have h9 := of_decide_eq_false h9
    refine HT.exit ?_
    show HT _ _ _ _ _
    refine HT.seq (HT.region S_lawOrder_ok (So.q rfl rfl (V.mv (v := .p (.v (.bool true))) rfl (So.q rfl rfl (V.as (v := .p (.v (.bool true))) rfl (So.e ?_))))))
    show HT _ _ _ _ _
    refine HT.ret ?_
    exact ret_ok (sg []) h rfl rfl rfl trivial ⟨trivial, trivial⟩ rfl ⟨⟨⟨le_bool (by first | with_reducible rfl | rfl), trivial⟩, trivial⟩, trivial⟩
end Go.Vh
