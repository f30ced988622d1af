/- What is proved: each function of the seat's program does what its contract says, wherever it is called; no condition. -/
import Derived.Test.YtdpdgejnfhjomaaDoorWalk0
import Derived.Test.YtdpdgejnfhjomaaDoorWalk1
set_option linter.unusedVariables false
set_option linter.unusedSimpArgs false
namespace Go.Vh
open Go Go.Vc Go.Proofs Go.Vw
def hatSp : Sp := ⟨[1, 2], mkE (α := (List UInt8) × Int × PLs × Int) (fun (G, e, L, i) => [.ptr 1 0, .p (.v (.int .i64 i))]) (fun (G, e, L, i) => [(1, ⟨63, 4, 4, true, .cells [.p (.bs G), .p (.v (.int .i64 e)), .own 2 0 ((L).length), .p (.v (.slice none 0 0))]⟩), (2, ⟨45, 3, (L).length * 3, true, .rows (pR L)⟩)]) (fun (G, e, L, i) => few L ∧ L.length ≤ 1000) (fun (G, e, L, i) => [.agg 3 (fun j => ([.v (.int .i64 (atK L i)), .v (.int .i64 (atE L i)), .bs (atB L i)] : List PV).getD j (.v undef)), .p (.v (.int .i64 (atR L i)))]) (fun (G, e, L, i) => [(1, ⟨63, 4, 4, true, .cells [.p (.bs G), .p (.v (.int .i64 e)), .own 2 0 ((L).length), .p (.v (.slice none 0 0))]⟩), (2, ⟨45, 3, (L).length * 3, true, .rows (pR L)⟩)])⟩
def S_hat : FuncId → Option Sp := fun f => if f = 30 then some cloneSp else none
theorem S_hat_ok : ∀ f s, S_hat f = some s → FOK Tryd.prog gl f s := fun f s h => by
 unfold S_hat at h
 split at h
 ·rename_i e; cases h; subst e; exact clone_ok
 cases h
set_option maxHeartbeats 1000000 in
set_option maxRecDepth 20000 in
theorem hat_ok : FOK Tryd.prog gl 18 hatSp := by
 refine FOK.ofEC (tyOf_ok Tryd.prog) (rvs := [.cell 4 45, .tmp 5]) (nt := 31) Tryd.func18 rfl rfl rfl rfl (by decide) 2 (fun ⟨_, _, _, _⟩ => rfl) (by decide) (fun ⟨_, _, _, _⟩ => ⟨rfl, trivial, trivial⟩) ?_
 rintro ⟨G, e, L, i⟩ kk hlen hpre h
 replace hpre : few L ∧ L.length ≤ 1000 := hpre
 show HT (cx Tryd.prog 31 (tyOf Tryd.prog) gl [1, 2]) _ [(0, .ptr 1 0), (1, .p (.v (.int .i64 i)))] [(1, ⟨63, 4, 4, true, .cells [.p (.bs G), .p (.v (.int .i64 e)), .own 2 0 ((L).length), .p (.v (.slice none 0 0))]⟩), (2, ⟨45, 3, (L).length * 3, true, .rows (pR L)⟩)] _
 refine HT.seq (HT.region S_hat_ok (So.n (lk rfl) (A.alloc 3 1 ty45 rfl ⟨lk rfl, lk rfl, trivial⟩ (f := fun j => ([.v (.int .i64 0), .v (.int .i64 0), .v (.slice none 0 0)] : List PV).getD j (.v undef)) (fun j hj => by match j, hj with | 0, _ => rfl | 1, _ => rfl | 2, _ => rfl) (So.q rfl rfl (V.as (v := .p (.v (.int .i64 0))) rfl (So.e (HT.seq (HT.seq (HT.region S_hat_ok (So.q rfl rfl (V.mv (v := .p (.v (.int .i64 _))) rfl (So.q rfl rfl (V.bin (a := .v (.int .i64 _)) (b := .v (.int .i64 0)) (r := .v (.bool _)) rfl rfl rfl trivial ?_)))))))))))))
 refine So.q rfl rfl (V.mv (v := .p (.v (.bool _))) rfl ?_)
 refine So.gd rfl rfl (lk rfl) (lk rfl) (fun h1 => ?_) (fun h1 => ?_)
 ·have h1 := of_decide_eq_false h1
  refine A.v rfl (V.mv (v := .p (.v (.int .i64 _))) rfl (So.gy rfl rfl (lk rfl) (lk rfl) (A.v rfl (V.mv (v := .ptr 1 0) rfl (So.gy rfl rfl (lk rfl) (lk rfl) (A.v rfl (V.ncPtr rfl (So.gy rfl rfl (lk rfl) (lk rfl) (A.v rfl (V.faPtr ty63 rfl ty56 (lk rfl) rfl rfl (lk rfl) (So.gy rfl rfl (lk rfl) (lk rfl) (A.v rfl (V.ldPtr ty56 rfl rfl rfl (lk rfl) (v := .own 2 0 _) rfl (So.gy rfl rfl (lk rfl) (lk rfl) ?_))))))))))))))
  refine A.v rfl (V.len ty56 (v := .own 2 0 _) rfl rfl (So.gy rfl rfl (lk rfl) (lk rfl) (A.v rfl (V.bin (a := .v (.int .i64 _)) (b := .v (.int .i64 _)) (r := .v (.bool _)) rfl rfl rfl trivial (So.q rfl rfl (V.pkFalse (u := .p (.v (.bool _))) rfl rfl (So.e ?_)))))))
  show HT _ _ _ _ _
  refine R.cond rfl rfl (fun h2 => ?_) (fun h2 => ?_)
  ·have h2 := of_decide_eq_true h2
   refine HT.seq (HT.region S_hat_ok (So.n (lk rfl) (A.bldS ty45 rfl rfl trivial rfl (f := fun j => ([.v (.int .i64 0), .v (.int .i64 0), .v (.slice none 0 0)] : List PV).getD j (.v undef)) (by exact allP_spec (P := fun j => _ = _) ⟨⟨⟨trivial, rfl⟩, rfl⟩, rfl⟩) (So.s (A.stoAg ty45 rfl (n := 3) rfl (by decide) (by intro j hj; (match j, hj with | 0, _ => (trivial) | 1, _ => (trivial) | 2, _ => (trivial))) rfl rfl rfl (So.q rfl rfl (V.as (v := .p (.v (.int .i64 1))) rfl (So.e ?_))))))))
   show HT _ _ _ _ _
   refine HT.ret ?_
   have hA := at_no (L := L) (i := i) (fun q => by omega)
   obtain ⟨hA0, hA1, hA2, hA3⟩ := hA
   exact retC_ok (sg [(1, 1), (2, 2)]) [(4, .ptr 3 0), (5, .p (.v (.int .i64 (atR L i))))] [(3, ⟨45, 1, 3, true, .rows (fun j => ([.v (.int .i64 (atK L i)), .v (.int .i64 (atE L i)), .bs (atB L i)] : List PV).getD j (.v undef))⟩), (1, ⟨63, 4, 4, true, .cells [.p (.bs G), .p (.v (.int .i64 e)), .own 2 0 ((L).length), .p (.v (.slice none 0 0))]⟩), (2, ⟨45, 3, (L).length * 3, true, .rows (pR L)⟩)] h ⟨⟨⟨.refl _, rfl⟩, ⟨le_int (by exact hA3.symm), trivial⟩, trivial⟩, ⟨⟨_, rfl, .inr (ob_rowsL (by intro j hj; match j, hj with | 0, _ => exact le_int hA0.symm | 1, _ => exact le_int hA1.symm | 2, _ => (exact le_nil hA2))), trivial⟩, ⟨_, rfl, .inl (by rfl), ⟨trivial, trivial, rfl, trivial, trivial⟩⟩, ⟨_, rfl, .inr (ob_rows (by rfl) (by ((try dsimp only); ((intro j hj; rfl))))), trivial⟩, trivial⟩⟩ ⟨rvA_cell ty45 rfl rfl rfl rfl (Nat.le_refl _) (le_agg (fun j _ => by (dsimp only; rw [Nat.zero_add]))), .refl _, trivial⟩ ⟨rfl, rfl, trivial⟩ rfl ⟨⟨trivial, trivial, rfl, trivial, trivial⟩, trivial, trivial⟩ ⟨trivial, trivial, trivial⟩ rfl
  ·have h2 := of_decide_eq_false h2
   refine HT.skip (HT.seq (HT.region S_hat_ok ?_))
   have hpl := hpre.1 i.toNat (by omega)
   refine So.q rfl rfl (V.mv (v := .ptr 1 0) rfl (So.q rfl rfl (V.ncPtr rfl (So.q rfl rfl (V.faPtr ty63 rfl ty56 (lk rfl) rfl rfl (lk rfl) (So.q rfl rfl (V.ldPtr ty56 rfl rfl rfl (lk rfl) (v := .own 2 0 _) rfl (So.q rfl rfl (V.mv (v := .p (.v (.int .i64 _))) rfl (So.q rfl rfl (V.ixOwnS0 (mi := i.toNat) ty56 ty45 (s := 3) rfl rfl rfl rfl rfl (by omega) (by omega) (So.q rfl rfl (V.ldPtrA ty45 rfl rfl rfl rfl (by (simp; omega)) (So.n (lk rfl) (A.alloc 4 1 ty45 rfl ⟨lk rfl, lk rfl, trivial⟩ (f := fun j => ([.v (.int .i64 0), .v (.int .i64 0), .v (.slice none 0 0)] : List PV).getD j (.v undef)) (fun j hj => by match j, hj with | 0, _ => rfl | 1, _ => rfl | 2, _ => rfl) (So.s (A.stoAg ty45 rfl (n := 3) rfl (by decide) (by intro j hj; exact pR_oneB _ _) rfl rfl rfl (So.e ?_))))))))))))))))))
   show HT _ _ _ _ _
   refine HT.seq ?_
   refine R.tell [] [(4, ⟨45, 1, 3, true, .rows (fun j => ([.v (.int .i64 (pK L i.toNat)), .v (.int .i64 (pE L i.toNat)), .bs (pB L i.toNat)] : List PV).getD j (.v undef))⟩)] [4, 5, 6] [1, 2, 3] (fr0 := [(4, .ptr 3 0), (5, .p (.v (.int .i64 _))), (6, .ptr 4 0)]) (O0 := [(1, ⟨_, _, _, _, .cells [.p (.bs _), .p (.v (.int .i64 _)), .own 2 0 _, .p (.v (.slice none 0 0))]⟩), (2, ⟨_, _, _, _, .rows _⟩), (3, ⟨_, _, _, _, .rows _⟩)]) rfl rfl ⟨⟨⟨.refl _, rfl⟩, ⟨.refl _, trivial⟩, ⟨.refl _, rfl⟩, trivial⟩, ⟨⟨_, rfl, .inr (ob_rowsL (by intro j hj; match j, hj with | 0, _ => exact le_eqB (pR_0 L _) | 1, _ => exact le_eqB (pR_1 L _) | 2, _ => exact le_eqB (pR_2 L _))), trivial⟩, ⟨_, rfl, .inl rfl, ⟨trivial, trivial, rfl, trivial, trivial⟩⟩, ⟨_, rfl, .inl rfl, trivial⟩, ⟨_, rfl, .inl rfl, trivial⟩, trivial⟩⟩ ?_
   show HT _ _ _ _ _
   refine HT.region S_hat_ok (So.q rfl rfl (V.faPtr ty45 rfl ty23 (lk rfl) rfl rfl (lk rfl) (So.q rfl rfl (V.ldPtr ty23 rfl rfl rfl (lk rfl) (v := .p (.bs _)) rfl ?_))))
   refine So.n (lk rfl) (A.call0 [.p (.bs _)] 5 rfl rfl rfl rfl ⟨trivial, trivial⟩ ⟨lk rfl, lk rfl, trivial⟩ _ ⟨.refl _, trivial⟩ trivial (by omega) (Φ := fun _ => True) (fun _ _ => trivial) (.inl rfl) (v := .own 6 0 _) rfl (O' := (6, ⟨5, 1, _, true, .bs _⟩) :: _) rfl (fun h3 => ?_))
   refine So.q rfl rfl (V.faPtr ty45 rfl ty23 (lk rfl) rfl rfl (lk rfl) (So.s (A.stoF ty23 rfl rfl rfl rfl rfl rfl rfl (v := .p (.bs _)) rfl trivial rfl (lk rfl) rfl rfl (So.e (HT.seq (HT.region S_hat_ok (So.q rfl rfl (V.ldPtrA ty45 rfl rfl rfl rfl (lk rfl) (So.s (A.stoAg ty45 rfl (n := 3) rfl (by decide) (by intro j hj; (match j, hj with | 0, _ => (trivial) | 1, _ => (trivial) | 2, _ => (trivial))) rfl rfl rfl (So.q rfl rfl (V.as (v := .p (.v (.int .i64 0))) rfl (So.e ?_)))))))))))))
   show HT _ _ _ _ _
   refine HT.ret ?_
   have hA := at_yes (L := L) (i := i) ⟨by omega, by omega⟩
   obtain ⟨hA0, hA1, hA2, hA3⟩ := hA
   exact retC_ok (sg [(1, 1), (2, 2)]) [(4, .ptr 3 0), (5, .p (.v (.int .i64 (atR L i))))] [(3, ⟨45, 1, 3, true, .rows (fun j => ([.v (.int .i64 (atK L i)), .v (.int .i64 (atE L i)), .bs (atB L i)] : List PV).getD j (.v undef))⟩), (1, ⟨63, 4, 4, true, .cells [.p (.bs G), .p (.v (.int .i64 e)), .own 2 0 ((L).length), .p (.v (.slice none 0 0))]⟩), (2, ⟨45, 3, (L).length * 3, true, .rows (pR L)⟩)] h ⟨⟨⟨.refl _, rfl⟩, ⟨le_int (by exact hA3.symm), trivial⟩, trivial⟩, ⟨⟨_, rfl, .inr (ob_rowsL (by intro j hj; match j, hj with | 0, _ => exact le_int hA0.symm | 1, _ => exact le_int hA1.symm | 2, _ => (exact le_bs ((take_full _).trans hA2.symm)))), trivial⟩, ⟨_, rfl, .inl (by rfl), ⟨trivial, trivial, rfl, trivial, trivial⟩⟩, ⟨_, rfl, .inr (ob_rows (by rfl) (by ((try dsimp only); ((intro j hj; rfl))))), trivial⟩, trivial⟩⟩ ⟨rvA_cell ty45 rfl rfl rfl rfl (Nat.le_refl _) (le_agg (fun j _ => by (dsimp only; rw [Nat.zero_add]))), .refl _, trivial⟩ ⟨rfl, rfl, trivial⟩ rfl ⟨⟨trivial, trivial, rfl, trivial, trivial⟩, trivial, trivial⟩ ⟨trivial, trivial, trivial⟩ rfl
 ·have h1 := of_decide_eq_true h1
  refine So.gn (b := true) rfl rfl rfl (lk rfl) (lk rfl) (So.gn (b := true) rfl rfl rfl (lk rfl) (lk rfl) (So.gn (b := true) rfl rfl rfl (lk rfl) (lk rfl) (So.gn (b := true) rfl rfl rfl (lk rfl) (lk rfl) (So.gn (b := true) rfl rfl rfl (lk rfl) (lk rfl) (So.gn (b := true) rfl rfl rfl (lk rfl) (lk rfl) (So.q rfl rfl (V.pkTrue (u := .p (.v (.bool true))) rfl rfl (So.e ?_))))))))
  show HT _ _ _ _ _
  refine R.condT rfl ?_
  refine HT.seq (HT.region S_hat_ok (So.n (lk rfl) (A.bldS ty45 rfl rfl trivial rfl (f := fun j => ([.v (.int .i64 0), .v (.int .i64 0), .v (.slice none 0 0)] : List PV).getD j (.v undef)) (by exact allP_spec (P := fun j => _ = _) ⟨⟨⟨trivial, rfl⟩, rfl⟩, rfl⟩) (So.s (A.stoAg ty45 rfl (n := 3) rfl (by decide) (by intro j hj; (match j, hj with | 0, _ => (trivial) | 1, _ => (trivial) | 2, _ => (trivial))) rfl rfl rfl (So.q rfl rfl (V.as (v := .p (.v (.int .i64 1))) rfl (So.e ?_))))))))
  show HT _ _ _ _ _
  refine HT.ret ?_
  have hA := at_no (L := L) (i := i) (fun q => by omega)
  obtain ⟨hA0, hA1, hA2, hA3⟩ := hA
  exact retC_ok (sg [(1, 1), (2, 2)]) [(4, .ptr 3 0), (5, .p (.v (.int .i64 (atR L i))))] [(3, ⟨45, 1, 3, true, .rows (fun j => ([.v (.int .i64 (atK L i)), .v (.int .i64 (atE L i)), .bs (atB L i)] : List PV).getD j (.v undef))⟩), (1, ⟨63, 4, 4, true, .cells [.p (.bs G), .p (.v (.int .i64 e)), .own 2 0 ((L).length), .p (.v (.slice none 0 0))]⟩), (2, ⟨45, 3, (L).length * 3, true, .rows (pR L)⟩)] h ⟨⟨⟨.refl _, rfl⟩, ⟨le_int (by exact hA3.symm), trivial⟩, trivial⟩, ⟨⟨_, rfl, .inr (ob_rowsL (by intro j hj; match j, hj with | 0, _ => exact le_int hA0.symm | 1, _ => exact le_int hA1.symm | 2, _ => (exact le_nil hA2))), trivial⟩, ⟨_, rfl, .inl (by rfl), ⟨trivial, trivial, rfl, trivial, trivial⟩⟩, ⟨_, rfl, .inr (ob_rows (by rfl) (by ((try dsimp only); ((intro j hj; rfl))))), trivial⟩, trivial⟩⟩ ⟨rvA_cell ty45 rfl rfl rfl rfl (Nat.le_refl _) (le_agg (fun j _ => by (dsimp only; rw [Nat.zero_add]))), .refl _, trivial⟩ ⟨rfl, rfl, trivial⟩ rfl ⟨⟨trivial, trivial, rfl, trivial, trivial⟩, trivial, trivial⟩ ⟨trivial, trivial, trivial⟩ rfl
def lawOrder1Sp : Sp := ⟨[], mkE (α := (List UInt8) × (List OpR)) (fun (G, l) => [.p (.bs G), .p (.sl (l.length) 8 (oR l))]) (fun (G, l) => []) (fun (G, l) => 0 < G.length ∧ G.length ≤ 32) (fun (G, l) => [.p (.v (.bool true))]) (fun (G, l) => [])⟩
def S_lawOrder1 : FuncId → Option Sp := fun f => if f = 7 then some headSp else if f = 8 then some hnewSp else if f = 16 then some lgreatSp else if f = 12 then some lmsgSp else if f = 11 then some hPostSp else if f = 14 then some lsealSp else if f = 13 then some hTextSp else if f = 17 then some hlenSp else if f = 18 then some hatSp else if f = 15 then some hepochSp else if f = 19 then some fgetSp else none
theorem S_lawOrder1_ok : ∀ f s, S_lawOrder1 f = some s → FOK Tryd.prog gl f s := fun f s h => by
 unfold S_lawOrder1 at h
 rcases ite_some h with ⟨rfl, rfl⟩ | h
 ·exact head_ok
 rcases ite_some h with ⟨rfl, rfl⟩ | h
 ·exact hnew_ok
 rcases ite_some h with ⟨rfl, rfl⟩ | h
 ·exact lgreat_ok
 rcases ite_some h with ⟨rfl, rfl⟩ | h
 ·exact lmsg_ok
 rcases ite_some h with ⟨rfl, rfl⟩ | h
 ·exact hPost_ok
 rcases ite_some h with ⟨rfl, rfl⟩ | h
 ·exact lseal_ok
 rcases ite_some h with ⟨rfl, rfl⟩ | h
 ·exact hText_ok
 rcases ite_some h with ⟨rfl, rfl⟩ | h
 ·exact hlen_ok
 rcases ite_some h with ⟨rfl, rfl⟩ | h
 ·exact hat_ok
 rcases ite_some h with ⟨rfl, rfl⟩ | h
 ·exact hepoch_ok
 rcases ite_some h with ⟨rfl, rfl⟩ | h
 ·exact fget_ok
 cases h
theorem S_lawOrder1_det : ∀ f s, S_lawOrder1 f = some s → SpDet s.sp := fun f s h => by
 unfold S_lawOrder1 at h
 rcases ite_some h with ⟨e, rfl⟩ | h
 ·exact mkE_det _ _ _ _ _
 rcases ite_some h with ⟨e, rfl⟩ | h
 ·exact mkE_det _ _ _ _ _
 rcases ite_some h with ⟨e, rfl⟩ | h
 ·exact mkE_det _ _ _ _ _
 rcases ite_some h with ⟨e, rfl⟩ | h
 ·exact mkE_det _ _ _ _ _
 rcases ite_some h with ⟨e, rfl⟩ | h
 ·exact mkE_det _ _ _ _ _
 rcases ite_some h with ⟨e, rfl⟩ | h
 ·exact mkE_det _ _ _ _ _
 rcases ite_some h with ⟨e, rfl⟩ | h
 ·exact mkE_det _ _ _ _ _
 rcases ite_some h with ⟨e, rfl⟩ | h
 ·exact mkE_det _ _ _ _ _
 rcases ite_some h with ⟨e, rfl⟩ | h
 ·exact mkE_det _ _ _ _ _
 rcases ite_some h with ⟨e, rfl⟩ | h
 ·exact mkE_det _ _ _ _ _
 rcases ite_some h with ⟨e, rfl⟩ | h
 ·exact mkE_det _ _ _ _ _
 cases h
set_option maxHeartbeats 1000000 in
set_option maxRecDepth 20000 in
theorem lawOrder1_ok : FOK Tryd.prog gl 5 lawOrder1Sp := by
 refine FOK.ofE (tyOf_ok Tryd.prog) (slots := [4]) (nt := 160) Tryd.func5 rfl rfl rfl rfl (by decide) 2 (fun ⟨_, _⟩ => rfl) (by decide) (fun ⟨_, _⟩ => ⟨trivial, trivial, trivial⟩) ?_
 rintro ⟨G, l⟩ kk hlen hpre h
 have hl0 : (G).length ≤ 9223372036854775807 := hlen.1
 have hl1 : l.length ≤ 9223372036854775807 := hlen.2.1
 replace hpre : 0 < G.length ∧ G.length ≤ 32 := hpre
 show HT (cx Tryd.prog 160 (tyOf Tryd.prog) gl []) _ [(0, .p (.bs G)), (1, .p (.sl (l.length) 8 (oR l)))] [] _
 refine HT.seq (HT.region S_lawOrder1_ok (So.q rfl rfl (V.as (v := .p (.v (.bool false))) rfl (So.e (HT.seq (HT.region S_lawOrder1_ok ?_))))))
 refine So.n (lk rfl) (A.call0 [] 1 rfl rfl rfl rfl trivial trivial () trivial trivial (by trivial) (Φ := fun _ => True) (fun _ _ => trivial) (.inl rfl) (v := .p (.v (.bool true))) rfl (O' := _) rfl (fun h1 => ?_))
 refine So.q rfl rfl (V.as (v := .p (.v (.bool true))) rfl (So.e (HT.seq (HT.region S_lawOrder1_ok (So.q rfl rfl (V.mv (v := .p (.bs _)) rfl ?_))))))
 refine So.n (lk rfl) (A.call0 [.p (.bs _)] 1 rfl rfl rfl rfl ⟨trivial, trivial⟩ trivial (.inl G) ⟨.refl _, trivial⟩ trivial (by (simp; omega)) (Φ := fun _ => True) (fun _ _ => trivial) (.inl rfl) (v := .ptr 2 0) rfl (O' := (2, ⟨63, 4, _, true, .cells _⟩) :: (3, ⟨45, 3, _, true, .rows _⟩) :: _) rfl (fun h2 => ?_))
 refine So.q rfl rfl (V.as (v := .ptr 2 0) rfl (So.e (HT.seq (HT.seq (HT.region S_lawOrder1_ok (So.q rfl rfl (V.mv (v := .ptr 2 0) rfl (So.q rfl rfl (V.eqPtr ty25 rfl rfl rfl rfl (So.q rfl rfl (V.mv (v := .p (.v (.bool false))) rfl (So.gy rfl rfl (lk rfl) (lk rfl) (A.v rfl (V.mv (v := .p (.sl _ 8 _)) rfl ?_))))))))))))))
 refine So.gy rfl rfl (lk rfl) (lk rfl) ?_
 refine A.call0 [.p (.sl _ 8 _)] 4 rfl rfl rfl rfl ⟨trivial, trivial⟩ trivial l ⟨.refl _, trivial⟩ trivial (by trivial) (Φ := fun _ => True) (fun _ _ => trivial) (.inl rfl) (v := .p (.v (.bool _))) rfl (O' := _) rfl (fun h3 => ?_)
 refine So.q rfl rfl (V.pkFalse (u := .p (.v (.bool _))) rfl rfl (So.e ?_))
 show HT _ _ _ _ _
 refine R.cond rfl rfl (fun h4 => ?_) (fun h4 => ?_)
 ·have h4 := of_decide_eq_true h4
  refine HT.seq (HT.region S_lawOrder1_ok (So.q rfl rfl (V.mv (v := .p (.v (.bool true))) rfl (So.q rfl rfl (V.as (v := .p (.v (.bool true))) rfl (So.e ?_))))))
  show HT _ _ _ _ _
  refine HT.ret ?_
  exact ret_ok (sg []) h rfl rfl rfl trivial ⟨trivial, trivial⟩ rfl ⟨⟨⟨le_bool (by with_reducible rfl), trivial⟩, trivial⟩, trivial⟩
 ·have h4 := of_decide_eq_false h4
  refine HT.skip (HT.seq (HT.region S_lawOrder1_ok (So.q rfl rfl (V.as (v := .p (.v (.slice none 0 0))) rfl (So.e (HT.seq (HT.seq (HT.region S_lawOrder1_ok (So.q rfl rfl (V.as (v := .p (.v (.int .i64 0))) rfl (So.e ?_)))))))))))
  show HT _ _ _ _ _
  refine HT.block ?_
  refine R.phan 7 4 23 1 (.rows (wR [])) rfl rfl rfl trivial ?_
  refine R.loop (σ := Nat) (fun n => [(8, .p (.v (.int .i64 ((n : Int))))), (7, .own 4 0 ((ordH G l n).L.length))]) (fun n => [(2, ⟨63, 4, 4, true, .cells [.p (.bs G), .p (.v (.int .i64 ((ordH G l n).e))), .own 3 0 ((ordH G l n).L.length), .p (.v (.slice none 0 0))]⟩), (3, ⟨45, 3, ((ordH G l n).L).length * 3, true, .rows (pR ((ordH G l n).L))⟩), (4, ⟨23, 1, (ordH G l n).L.length, true, .rows (wR (ordH G l n).L)⟩)]) [1, 4, 5, 6] [] (fun n => n ≤ l.length) (fun n => l.length - n) (0) (fr0 := [(1, .p (.sl _ 8 _)), (4, .p (.v (.bool false))), (5, .p (.v (.bool true))), (6, .ptr 2 0)]) (O0 := []) rfl rfl (by omega) ⟨⟨⟨le_int (by rfl), trivial⟩, ⟨le_own2 (by rfl) (by rfl), rfl⟩, ⟨.refl _, trivial⟩, ⟨.refl _, trivial⟩, ⟨.refl _, trivial⟩, ⟨.refl _, rfl⟩, trivial⟩, ⟨⟨_, rfl, .inl (by rfl), ⟨trivial, trivial, rfl, trivial, trivial⟩⟩, ⟨_, rfl, .inr (ob_rows (by rfl) (by ((try dsimp only); (intro j hj; rfl)))), trivial⟩, ⟨_, rfl, .inr (ob_rows (by rfl) (by ((try dsimp only); omega))), trivial⟩, trivial⟩⟩ (fun n hP0 => ?_)
  refine HT.seq (HT.seq (HT.region S_lawOrder1_ok (So.q rfl rfl (V.mv (v := .p (.v (.int .i64 ((_ : Nat) : Int)))) rfl (So.q rfl rfl (V.mv (v := .p (.sl _ 8 _)) rfl (So.q rfl rfl (V.len ty39 (v := .p (.sl _ 8 _)) rfl rfl (So.q rfl rfl (V.bin (a := (.v (.int .i64 ((_ : Nat) : Int)))) (b := .v (.int .i64 _)) (r := .v (.bool _)) rfl rfl rfl trivial (So.e ?_)))))))))))
  show HT _ _ _ _ _
  refine R.cond rfl rfl (fun h5 => ?_) (fun h5 => ?_)
  ·have h5 := of_decide_eq_true h5
   refine HT.skip (HT.seq (HT.block (HT.seq (HT.region S_lawOrder1_ok ?_))))
   have hgl := great_few (by assumption)
   have hB := ordH_bnd G l n
   have hop := oP_len l n
   have hos := oS_len l n
   refine So.q rfl rfl (V.mv (v := .p (.sl _ 8 _)) rfl (So.q rfl rfl (V.mv (v := .p (.v (.int .i64 ((_ : Nat) : Int)))) rfl (So.q rfl rfl (V.ixSlS (mi := n) ty39 ty42 (s := 8) rfl (by decide) rfl rfl (by omega) (by omega) (So.q rfl rfl (V.faRp ty42 rfl ty36 (lk rfl) rfl (by omega) (So.q rfl rfl (V.ldRpA ty36 rfl rfl (by exact lk rfl) ?_)))))))))
   refine So.n (lk rfl) (A.call0 [.agg 5 _] 5 rfl rfl rfl rfl ⟨trivial, trivial⟩ trivial (oG l n, oE l n, oF l n, oK l n, oY l n) ⟨le_agg (fun j hj => by match j, hj with | 0, _ => exact oR_k l n 1 (by decide) | 1, _ => exact oR_k l n 2 (by decide) | 2, _ => exact oR_k l n 3 (by decide) | 3, _ => exact oR_k l n 4 (by decide) | 4, _ => exact oR_k l n 5 (by decide)), trivial⟩ trivial (by trivial) (Φ := fun _ => True) (fun _ _ => trivial) (.inl rfl) (v := .p (.bs _)) rfl (O' := _) rfl (fun h6 => ?_))
   refine So.q rfl rfl (V.as (v := .p (.bs _)) rfl (So.e (HT.seq (HT.region S_lawOrder1_ok (So.q rfl rfl (V.as (v := .p (.v (.int .i64 0))) rfl (So.e (HT.seq (HT.seq (HT.region S_lawOrder1_ok (So.q rfl rfl (V.mv (v := .p (.sl _ 8 _)) rfl ?_))))))))))))
   refine So.q rfl rfl (V.mv (v := .p (.v (.int .i64 ((_ : Nat) : Int)))) rfl (So.q rfl rfl (V.ixSlS (mi := n) ty39 ty42 (s := 8) rfl (by decide) rfl rfl (by omega) (by omega) (So.q rfl rfl (V.faRp ty42 rfl ty3 (lk rfl) rfl (by omega) (So.q rfl rfl (V.ldRp ty3 rfl rfl (lk rfl) (v := .v (.int .i64 (oW l n))) (by exact oR_k l n 0 (by decide)) (So.q rfl rfl (V.bin (a := .v (.int .i64 _)) (b := .v (.int .i64 1)) (r := .v (.int .i64 _)) rfl rfl rfl trivial (So.q rfl rfl (V.bin (a := .v (.int .i64 _)) (b := .v (.int .i64 0)) (r := .v (.bool _)) rfl rfl rfl trivial (So.e ?_))))))))))))
   show HT _ _ _ _ _
   refine R.cond rfl rfl (fun h7 => ?_) (fun h7 => ?_)
   ·have h7 := of_decide_eq_true h7
    refine HT.region S_lawOrder1_ok ?_
    have hX := ordX_1 (G := G) (l := l) (n := n) (s := ordH G l n) (by assumption)
    refine So.q rfl rfl (V.mv (v := .ptr 2 0) rfl (So.q rfl rfl (V.mv (v := .p (.bs _)) rfl ?_)))
    refine So.n (lk rfl) (A.call [.ptr 1 _, .p (.bs _)] [(1, ⟨_, _, _, _, .cells [.p (.bs _), .p (.v (.int .i64 _)), .own 2 0 _, .p (.v (.slice none 0 0))]⟩), (2, ⟨_, _, _, _, .rows _⟩)] (sg [(1, 2), (2, 3)]) 5 rfl rfl rfl rfl ⟨rfl, rfl, trivial⟩ rfl ⟨⟨trivial, trivial, rfl, trivial, trivial⟩, trivial, trivial⟩ ⟨rfl, trivial, trivial⟩ trivial rfl (G, (ordH G l n).e, (ordH G l n).L, oP l n) ⟨.refl _, .refl _, trivial⟩ ⟨⟨_, rfl, .inl rfl, ⟨trivial, trivial, rfl, trivial, trivial⟩⟩, ⟨_, rfl, .inl rfl, trivial⟩, trivial⟩ (by omega) (Φ := fun _ => True) (fun _ _ => trivial) ⟨⟨_, _, rfl, rfl, rfl, Nat.le_refl _⟩, trivial⟩ (.inl rfl) rfl (v := .tup 2 _) rfl (O' := (2, ⟨_, _, _, _, .cells _⟩) :: (7, ⟨_, _, _, _, .rows _⟩) :: _) rfl (fun h8 => ?_))
    refine So.q rfl rfl (V.mv (v := .tup 2 _) rfl (So.q rfl rfl (V.ext rfl (lk rfl) (v := .p (.v (.int .i64 _))) rfl (So.q rfl rfl (V.ext rfl (lk rfl) (v := .p (.v (.int .i64 _))) rfl (So.q rfl rfl (V.as (v := .p (.v (.int .i64 _))) rfl (So.e (HT.seq (HT.region S_lawOrder1_ok (So.q rfl rfl (V.mv (v := .p (.v (.int .i64 _))) rfl (So.q rfl rfl (V.bin (a := .v (.int .i64 _)) (b := .v (.int .i64 0)) (r := .v (.bool _)) rfl rfl rfl trivial (So.e ?_)))))))))))))))
    show HT _ _ _ _ _
    refine R.cond rfl rfl (fun h9 => ?_) (fun h9 => ?_)
    ·have h9 := of_decide_eq_true h9
     refine HT.region S_lawOrder1_ok (So.q rfl rfl (V.mv (v := .own 4 0 _) rfl (So.q rfl rfl (V.mv (v := .p (.bs _)) rfl (So.n (lk rfl) (A.bsl 8 ty22 ty23 rfl (lk rfl) (lk rfl) (fun _ => rfl) rfl rfl trivial ⟨trivial, trivial⟩ rfl (N := 1) rfl (c := .rows _) rfl (So.n (lk rfl) (A.apRows1 ty22 ty23 rfl rfl rfl rfl (lk rfl) rfl rfl (u := .own 8 0 _) rfl rfl (by intro j hj; match j, hj with | 0, _ => trivial) rfl (by (simp; omega)) rfl rfl rfl (So.q rfl rfl (V.as (v := .own 4 0 _) rfl (So.e ?_)))))))))))
     show HT _ _ _ _ _
     refine HT.swap 7 3 rfl rfl rfl ?_
     show HT _ _ _ _ _
     refine R.norm [1, 4, 5, 6, 7, 8] [2, 3, 4] (fr0 := [(1, .p (.sl _ 8 _)), (4, .p (.v (.bool false))), (5, .p (.v (.bool true))), (6, .ptr 2 0), (7, .own 4 0 _), (8, .p (.v (.int .i64 ((_ : Nat) : Int))))]) (O0 := [(2, ⟨_, _, _, _, .cells [.p (.bs _), .p (.v (.int .i64 _)), .own 3 0 _, .p (.v (.slice none 0 0))]⟩), (3, ⟨_, _, _, _, .rows _⟩), (4, ⟨_, _, _, _, .rows _⟩)]) rfl rfl ⟨⟨⟨.refl _, trivial⟩, ⟨.refl _, trivial⟩, ⟨.refl _, trivial⟩, ⟨.refl _, rfl⟩, ⟨.refl _, rfl⟩, ⟨.refl _, trivial⟩, trivial⟩, ⟨⟨_, rfl, .inl rfl, ⟨trivial, trivial, rfl, trivial, trivial⟩⟩, ⟨_, rfl, .inl rfl, trivial⟩, ⟨_, rfl, .inl rfl, trivial⟩, trivial⟩⟩ ?_
     refine HT.region S_lawOrder1_ok ?_
     have hL := ord_y1 (G := G) (l := l) (n := n) (by assumption) (by assumption)
     refine So.q rfl rfl (V.mv (v := .p (.v (.int .i64 ((_ : Nat) : Int)))) rfl (So.q rfl rfl (V.addI rfl rfl (by omega) (So.q rfl rfl (V.as (v := .p (.v (.int .i64 _))) rfl (So.e ?_))))))
     refine ⟨n + 1, by omega, by omega, ⟨⟨⟨le_int (by rfl), trivial⟩, ⟨le_own2 (by rfl) (by (rw [hL, List.length_append]; rfl)), rfl⟩, ⟨.refl _, trivial⟩, ⟨.refl _, trivial⟩, ⟨.refl _, trivial⟩, ⟨.refl _, rfl⟩, trivial⟩, ⟨⟨_, rfl, .inl (by (rw [ordH_s, hX]; rfl)), ⟨trivial, trivial, rfl, trivial, trivial⟩⟩, ⟨_, rfl, .inr (ob_rows (by (rw [ordH_s, hX]; rfl)) (by (rw [ordH_s, hX]; intro j hj; rfl))), trivial⟩, ⟨_, rfl, .inr (ob_rows (by (rw [hL, List.length_append]; rfl)) (by (rw [hL]; intro j hj; exact wR_up2 _ _ _ _ j hj))), trivial⟩, trivial⟩⟩⟩
    ·have h9 := of_decide_eq_false h9
     refine HT.skip ?_
     show HT _ _ _ _ _
     refine HT.swap 7 3 rfl rfl rfl ?_
     show HT _ _ _ _ _
     refine R.norm [1, 4, 5, 6, 7, 8] [2, 3, 4] (fr0 := [(1, .p (.sl _ 8 _)), (4, .p (.v (.bool false))), (5, .p (.v (.bool true))), (6, .ptr 2 0), (7, .own 4 0 _), (8, .p (.v (.int .i64 ((_ : Nat) : Int))))]) (O0 := [(2, ⟨_, _, _, _, .cells [.p (.bs _), .p (.v (.int .i64 _)), .own 3 0 _, .p (.v (.slice none 0 0))]⟩), (3, ⟨_, _, _, _, .rows _⟩), (4, ⟨_, _, _, _, .rows _⟩)]) rfl rfl ⟨⟨⟨.refl _, trivial⟩, ⟨.refl _, trivial⟩, ⟨.refl _, trivial⟩, ⟨.refl _, rfl⟩, ⟨.refl _, rfl⟩, ⟨.refl _, trivial⟩, trivial⟩, ⟨⟨_, rfl, .inl rfl, ⟨trivial, trivial, rfl, trivial, trivial⟩⟩, ⟨_, rfl, .inl rfl, trivial⟩, ⟨_, rfl, .inl rfl, trivial⟩, trivial⟩⟩ ?_
     refine HT.region S_lawOrder1_ok ?_
     have hL := ord_n1 (G := G) (l := l) (n := n) (by assumption) (by assumption)
     refine So.q rfl rfl (V.mv (v := .p (.v (.int .i64 ((_ : Nat) : Int)))) rfl (So.q rfl rfl (V.addI rfl rfl (by omega) (So.q rfl rfl (V.as (v := .p (.v (.int .i64 _))) rfl (So.e ?_))))))
     refine ⟨n + 1, by omega, by omega, ⟨⟨⟨le_int (by rfl), trivial⟩, ⟨le_own2 (by rfl) (by (rw [hL]; done)), rfl⟩, ⟨.refl _, trivial⟩, ⟨.refl _, trivial⟩, ⟨.refl _, trivial⟩, ⟨.refl _, rfl⟩, trivial⟩, ⟨⟨_, rfl, .inl (by (rw [ordH_s, hX]; done)), ⟨trivial, trivial, rfl, trivial, trivial⟩⟩, ⟨_, rfl, .inr (ob_rows (by (rw [ordH_s, hX]; done)) (by (rw [ordH_s, hX]; intro j hj; rfl))), trivial⟩, ⟨_, rfl, .inr (ob_rows (by (rw [hL]; rfl)) (by (rw [hL]; intro j hj; rfl))), trivial⟩, trivial⟩⟩⟩
   ·have h7 := of_decide_eq_false h7
    refine HT.seq (HT.region S_lawOrder1_ok ?_)
    have hX := ordX_2 (G := G) (l := l) (n := n) (s := ordH G l n) (by assumption)
    refine So.q rfl rfl (V.mv (v := .p (.sl _ 8 _)) rfl (So.q rfl rfl (V.mv (v := .p (.v (.int .i64 ((_ : Nat) : Int)))) rfl (So.q rfl rfl (V.ixSlS (mi := n) ty39 ty42 (s := 8) rfl (by decide) rfl rfl (by omega) (by omega) (So.q rfl rfl (V.faRp ty42 rfl ty36 (lk rfl) rfl (by omega) (So.q rfl rfl (V.ldRpA ty36 rfl rfl (by exact lk rfl) ?_)))))))))
    refine So.n (lk rfl) (A.call0 [.agg 5 _] 5 rfl rfl rfl rfl ⟨trivial, trivial⟩ trivial (oG l n, oE l n, oF l n, oK l n, oY l n) ⟨le_agg (fun j hj => by match j, hj with | 0, _ => exact oR_k l n 1 (by decide) | 1, _ => exact oR_k l n 2 (by decide) | 2, _ => exact oR_k l n 3 (by decide) | 3, _ => exact oR_k l n 4 (by decide) | 4, _ => exact oR_k l n 5 (by decide)), trivial⟩ trivial (by trivial) (Φ := fun _ => True) (fun _ _ => trivial) (.inl rfl) (v := .p (.bs _)) rfl (O' := _) rfl (fun h10 => ?_))
    refine So.q rfl rfl (V.as (v := .p (.bs _)) rfl (So.e (HT.region S_lawOrder1_ok (So.q rfl rfl (V.mv (v := .ptr 2 0) rfl (So.q rfl rfl (V.mv (v := .p (.bs _)) rfl ?_)))))))
    refine So.n (lk rfl) (A.call [.ptr 1 _, .p (.bs _)] [(1, ⟨_, _, _, _, .cells [.p (.bs _), .p (.v (.int .i64 _)), .own 2 0 _, .p (.v (.slice none 0 0))]⟩), (2, ⟨_, _, _, _, .rows _⟩)] (sg [(1, 2), (2, 3)]) 5 rfl rfl rfl rfl ⟨rfl, rfl, trivial⟩ rfl ⟨⟨trivial, trivial, rfl, trivial, trivial⟩, trivial, trivial⟩ ⟨rfl, trivial, trivial⟩ trivial rfl (G, (ordH G l n).e, (ordH G l n).L, oS l n) ⟨.refl _, .refl _, trivial⟩ ⟨⟨_, rfl, .inl rfl, ⟨trivial, trivial, rfl, trivial, trivial⟩⟩, ⟨_, rfl, .inl rfl, trivial⟩, trivial⟩ (by omega) (Φ := fun _ => True) (fun _ _ => trivial) ⟨⟨_, _, rfl, rfl, rfl, Nat.le_refl _⟩, trivial⟩ (.inl rfl) rfl (v := .tup 2 _) rfl (O' := (2, ⟨_, _, _, _, .cells _⟩) :: (7, ⟨_, _, _, _, .rows _⟩) :: _) rfl (fun h11 => ?_))
    refine So.q rfl rfl (V.mv (v := .tup 2 _) rfl (So.q rfl rfl (V.ext rfl (lk rfl) (v := .p (.v (.int .i64 _))) rfl (So.q rfl rfl (V.ext rfl (lk rfl) (v := .p (.v (.int .i64 _))) rfl (So.q rfl rfl (V.as (v := .p (.v (.int .i64 _))) rfl (So.e (HT.seq (HT.region S_lawOrder1_ok (So.q rfl rfl (V.mv (v := .p (.v (.int .i64 _))) rfl (So.q rfl rfl (V.bin (a := .v (.int .i64 _)) (b := .v (.int .i64 0)) (r := .v (.bool _)) rfl rfl rfl trivial (So.e ?_)))))))))))))))
    show HT _ _ _ _ _
    refine R.cond rfl rfl (fun h12 => ?_) (fun h12 => ?_)
    ·have h12 := of_decide_eq_true h12
     refine HT.region S_lawOrder1_ok (So.q rfl rfl (V.mv (v := .own 4 0 _) rfl (So.q rfl rfl (V.mv (v := .p (.bs _)) rfl (So.n (lk rfl) (A.bsl 8 ty22 ty23 rfl (lk rfl) (lk rfl) (fun _ => rfl) rfl rfl trivial ⟨trivial, trivial⟩ rfl (N := 1) rfl (c := .rows _) rfl (So.n (lk rfl) (A.apRows1 ty22 ty23 rfl rfl rfl rfl (lk rfl) rfl rfl (u := .own 8 0 _) rfl rfl (by intro j hj; match j, hj with | 0, _ => trivial) rfl (by (simp; omega)) rfl rfl rfl (So.q rfl rfl (V.as (v := .own 4 0 _) rfl (So.e ?_)))))))))))
     show HT _ _ _ _ _
     refine HT.swap 7 3 rfl rfl rfl ?_
     show HT _ _ _ _ _
     refine R.norm [1, 4, 5, 6, 7, 8] [2, 3, 4] (fr0 := [(1, .p (.sl _ 8 _)), (4, .p (.v (.bool false))), (5, .p (.v (.bool true))), (6, .ptr 2 0), (7, .own 4 0 _), (8, .p (.v (.int .i64 ((_ : Nat) : Int))))]) (O0 := [(2, ⟨_, _, _, _, .cells [.p (.bs _), .p (.v (.int .i64 _)), .own 3 0 _, .p (.v (.slice none 0 0))]⟩), (3, ⟨_, _, _, _, .rows _⟩), (4, ⟨_, _, _, _, .rows _⟩)]) rfl rfl ⟨⟨⟨.refl _, trivial⟩, ⟨.refl _, trivial⟩, ⟨.refl _, trivial⟩, ⟨.refl _, rfl⟩, ⟨.refl _, rfl⟩, ⟨.refl _, trivial⟩, trivial⟩, ⟨⟨_, rfl, .inl rfl, ⟨trivial, trivial, rfl, trivial, trivial⟩⟩, ⟨_, rfl, .inl rfl, trivial⟩, ⟨_, rfl, .inl rfl, trivial⟩, trivial⟩⟩ ?_
     refine HT.region S_lawOrder1_ok ?_
     have hL := ord_y2 (G := G) (l := l) (n := n) (by assumption) (by assumption)
     refine So.q rfl rfl (V.mv (v := .p (.v (.int .i64 ((_ : Nat) : Int)))) rfl (So.q rfl rfl (V.addI rfl rfl (by omega) (So.q rfl rfl (V.as (v := .p (.v (.int .i64 _))) rfl (So.e ?_))))))
     refine ⟨n + 1, by omega, by omega, ⟨⟨⟨le_int (by rfl), trivial⟩, ⟨le_own2 (by rfl) (by (rw [hL, List.length_append]; rfl)), rfl⟩, ⟨.refl _, trivial⟩, ⟨.refl _, trivial⟩, ⟨.refl _, trivial⟩, ⟨.refl _, rfl⟩, trivial⟩, ⟨⟨_, rfl, .inl (by (rw [ordH_s, hX]; rfl)), ⟨trivial, trivial, rfl, trivial, trivial⟩⟩, ⟨_, rfl, .inr (ob_rows (by (rw [ordH_s, hX]; rfl)) (by (rw [ordH_s, hX]; intro j hj; rfl))), trivial⟩, ⟨_, rfl, .inr (ob_rows (by (rw [hL, List.length_append]; rfl)) (by (rw [hL]; intro j hj; exact wR_up2 _ _ _ _ j hj))), trivial⟩, trivial⟩⟩⟩
    ·have h12 := of_decide_eq_false h12
     refine HT.skip ?_
     show HT _ _ _ _ _
     refine HT.swap 7 3 rfl rfl rfl ?_
     show HT _ _ _ _ _
     refine R.norm [1, 4, 5, 6, 7, 8] [2, 3, 4] (fr0 := [(1, .p (.sl _ 8 _)), (4, .p (.v (.bool false))), (5, .p (.v (.bool true))), (6, .ptr 2 0), (7, .own 4 0 _), (8, .p (.v (.int .i64 ((_ : Nat) : Int))))]) (O0 := [(2, ⟨_, _, _, _, .cells [.p (.bs _), .p (.v (.int .i64 _)), .own 3 0 _, .p (.v (.slice none 0 0))]⟩), (3, ⟨_, _, _, _, .rows _⟩), (4, ⟨_, _, _, _, .rows _⟩)]) rfl rfl ⟨⟨⟨.refl _, trivial⟩, ⟨.refl _, trivial⟩, ⟨.refl _, trivial⟩, ⟨.refl _, rfl⟩, ⟨.refl _, rfl⟩, ⟨.refl _, trivial⟩, trivial⟩, ⟨⟨_, rfl, .inl rfl, ⟨trivial, trivial, rfl, trivial, trivial⟩⟩, ⟨_, rfl, .inl rfl, trivial⟩, ⟨_, rfl, .inl rfl, trivial⟩, trivial⟩⟩ ?_
     refine HT.region S_lawOrder1_ok ?_
     have hL := ord_n2 (G := G) (l := l) (n := n) (by assumption) (by assumption)
     refine So.q rfl rfl (V.mv (v := .p (.v (.int .i64 ((_ : Nat) : Int)))) rfl (So.q rfl rfl (V.addI rfl rfl (by omega) (So.q rfl rfl (V.as (v := .p (.v (.int .i64 _))) rfl (So.e ?_))))))
     refine ⟨n + 1, by omega, by omega, ⟨⟨⟨le_int (by rfl), trivial⟩, ⟨le_own2 (by rfl) (by (rw [hL]; done)), rfl⟩, ⟨.refl _, trivial⟩, ⟨.refl _, trivial⟩, ⟨.refl _, trivial⟩, ⟨.refl _, rfl⟩, trivial⟩, ⟨⟨_, rfl, .inl (by (rw [ordH_s, hX]; done)), ⟨trivial, trivial, rfl, trivial, trivial⟩⟩, ⟨_, rfl, .inr (ob_rows (by (rw [ordH_s, hX]; done)) (by (rw [ordH_s, hX]; intro j hj; rfl))), trivial⟩, ⟨_, rfl, .inr (ob_rows (by (rw [hL]; rfl)) (by (rw [hL]; intro j hj; rfl))), trivial⟩, trivial⟩⟩⟩
  ·have h5 := of_decide_eq_false h5
   refine HT.exit ?_
   show HT _ _ _ _ _
   refine HT.seq (HT.seq (HT.region S_lawOrder1_ok ?_))
   have hgl := great_few (by assumption)
   obtain rfl : n = l.length := by omega
   have hI := ordH_inv G l l.length
   have hB := ordH_bnd G l l.length
   have hF := ordH_few G l l.length
   refine So.q rfl rfl (V.mv (v := .ptr 2 0) rfl ?_)
   refine So.n (lk rfl) (A.call [.ptr 1 _] [(1, ⟨_, _, _, _, .cells [.p (.bs _), .p (.v (.int .i64 _)), .own 2 0 _, .p (.v (.slice none 0 0))]⟩), (2, ⟨_, _, _, _, .rows _⟩)] (sg [(1, 2), (2, 3)]) 5 rfl rfl rfl rfl ⟨rfl, rfl, trivial⟩ rfl ⟨⟨trivial, trivial, rfl, trivial, trivial⟩, trivial, trivial⟩ ⟨rfl, trivial⟩ trivial rfl (G, (ordH G l l.length).e, (ordH G l l.length).L) ⟨.refl _, trivial⟩ ⟨⟨_, rfl, .inl rfl, ⟨trivial, trivial, rfl, trivial, trivial⟩⟩, ⟨_, rfl, .inl rfl, trivial⟩, trivial⟩ (by trivial) (Φ := fun _ => True) (fun _ _ => trivial) ⟨⟨_, _, rfl, rfl, rfl, Nat.le_refl _⟩, ⟨_, _, rfl, rfl, rfl, Nat.le_refl _⟩, trivial⟩ (.inl rfl) rfl (v := .p (.v (.int .i64 _))) rfl (O' := (2, ⟨_, _, _, _, .cells _⟩) :: (3, ⟨_, _, _, _, .rows _⟩) :: _) rfl (fun h13 => ?_))
   refine So.q rfl rfl (V.mv (v := .own 4 0 _) rfl (So.q rfl rfl (V.len ty22 (v := .own 4 0 _) rfl rfl (So.q rfl rfl (V.bin (a := .v (.int .i64 _)) (b := .v (.int .i64 _)) (r := .v (.bool _)) rfl rfl rfl trivial (So.e ?_))))))
   show HT _ _ _ _ _
   refine R.cond rfl rfl (fun h14 => ?_) (fun h14 => ?_)
   ·have h14 := of_decide_eq_false (bnT h14)
    refine HT.seq ?_
    exfalso; omega
   ·have h14 := of_decide_eq_true (bnF h14)
    refine HT.skip (HT.seq (HT.region S_lawOrder1_ok (So.q rfl rfl (V.as (v := .p (.v (.int .i64 0))) rfl (So.e (HT.seq (HT.region S_lawOrder1_ok (So.q rfl rfl (V.as (v := .p (.v (.int .i64 (-1)))) rfl (So.e (HT.seq ?_)))))))))))
    refine HT.seq (HT.region S_lawOrder1_ok (So.q rfl rfl (V.as (v := .p (.v (.int .i64 0))) rfl (So.e (HT.block ?_)))))
    refine R.loop (σ := Nat) (fun m => [(13, .p (.v (.int .i64 ((m : Int))))), (11, .p (.v (.int .i64 (lastE (ordH G l l.length).L m)))), (12, .p (.v (.int .i64 (endN (ordH G l l.length).L m))))]) (fun m => []) [5, 6, 7] [2, 3, 4] (fun m => m ≤ (ordH G l l.length).L.length) (fun m => (ordH G l l.length).L.length - m) (0) (fr0 := [(5, .p (.v (.bool true))), (6, .ptr 2 0), (7, .own 4 0 _)]) (O0 := [(2, ⟨_, _, _, _, .cells _⟩), (3, ⟨_, _, _, _, .rows _⟩), (4, ⟨_, _, _, _, .rows _⟩)]) rfl rfl (by omega) ⟨⟨⟨le_int (by rfl), trivial⟩, ⟨le_int (by rfl), trivial⟩, ⟨le_int (by rfl), trivial⟩, ⟨.refl _, trivial⟩, ⟨.refl _, rfl⟩, ⟨.refl _, rfl⟩, trivial⟩, ⟨⟨_, rfl, .inl rfl, ⟨trivial, trivial, rfl, trivial, trivial⟩⟩, ⟨_, rfl, .inl rfl, trivial⟩, ⟨_, rfl, .inl rfl, trivial⟩, trivial⟩⟩ (fun m hP1 => ?_)
    refine HT.seq (HT.seq (HT.region S_lawOrder1_ok (So.q rfl rfl (V.mv (v := .p (.v (.int .i64 ((_ : Nat) : Int)))) rfl (So.q rfl rfl (V.mv (v := .own 4 0 _) rfl (So.q rfl rfl (V.len ty22 (v := .own 4 0 _) rfl rfl (So.q rfl rfl (V.bin (a := (.v (.int .i64 ((_ : Nat) : Int)))) (b := .v (.int .i64 _)) (r := .v (.bool _)) rfl rfl rfl trivial (So.e ?_)))))))))))
    show HT _ _ _ _ _
    refine R.cond rfl rfl (fun h15 => ?_) (fun h15 => ?_)
    ·have h15 := of_decide_eq_true h15
     refine HT.skip (HT.seq (HT.block (HT.seq (HT.region S_lawOrder1_ok ?_))))
     obtain ⟨hA0, hA1, hA2, hA3⟩ := at_yes (L := (ordH G l l.length).L) (i := (m : Int)) ⟨by omega, by omega⟩
     obtain ⟨hS1, hS2, hS3⟩ := hI.at (i := m) (by omega)
     have hp := hI.p m (by omega)
     refine So.q rfl rfl (V.mv (v := .ptr 2 0) rfl (So.q rfl rfl (V.mv (v := .p (.v (.int .i64 ((_ : Nat) : Int)))) rfl ?_)))
     refine So.n (lk rfl) (A.call [.ptr 1 _, .p (.v (.int .i64 ((_ : Nat) : Int)))] [(1, ⟨_, _, _, _, .cells [.p (.bs _), .p (.v (.int .i64 _)), .own 2 0 _, .p (.v (.slice none 0 0))]⟩), (2, ⟨_, _, _, _, .rows _⟩)] (sg [(1, 2), (2, 3)]) 5 rfl rfl rfl rfl ⟨rfl, rfl, trivial⟩ rfl ⟨⟨trivial, trivial, rfl, trivial, trivial⟩, trivial, trivial⟩ ⟨rfl, trivial, trivial⟩ trivial rfl (G, (ordH G l l.length).e, (ordH G l l.length).L, (m : Int)) ⟨.refl _, .refl _, trivial⟩ ⟨⟨_, rfl, .inl rfl, ⟨trivial, trivial, rfl, trivial, trivial⟩⟩, ⟨_, rfl, .inl rfl, trivial⟩, trivial⟩ (by exact ⟨hF, by omega⟩) (Φ := fun _ => True) (fun _ _ => trivial) ⟨⟨_, _, rfl, rfl, rfl, Nat.le_refl _⟩, ⟨_, _, rfl, rfl, rfl, Nat.le_refl _⟩, trivial⟩ (.inl rfl) rfl (v := .tup 2 _) rfl (O' := (2, ⟨_, _, _, _, .cells _⟩) :: (3, ⟨_, _, _, _, .rows _⟩) :: _) rfl (fun h16 => ?_))
     refine So.q rfl rfl (V.mv (v := .tup 2 _) rfl (So.q rfl rfl (V.ext rfl (lk rfl) (v := .agg 3 _) rfl (So.q rfl rfl (V.ext rfl (lk rfl) (v := .p (.v (.int .i64 _))) rfl (So.n (lk rfl) (A.alloc 5 1 ty45 rfl trivial (f := fun j => ([.v (.int .i64 0), .v (.int .i64 0), .v (.slice none 0 0)] : List PV).getD j (.v undef)) (fun j hj => by match j, hj with | 0, _ => rfl | 1, _ => rfl | 2, _ => rfl) (So.s (A.stoAg ty45 rfl (n := 3) rfl (by decide) (by intro j hj; (match j, hj with | 0, _ => (trivial) | 1, _ => (trivial) | 2, _ => (trivial))) rfl rfl rfl (So.q rfl rfl (V.as (v := .p (.v (.int .i64 _))) rfl (So.e (HT.seq (HT.seq ?_))))))))))))))
     refine R.tell [(15, .p (.v (.int .i64 0)))] [(5, ⟨45, 1, 3, true, .rows (fun j => ([.v (.int .i64 (pK (ordH G l l.length).L m)), .v (.int .i64 (pE (ordH G l l.length).L m)), .bs (pB (ordH G l l.length).L m)] : List PV).getD j (.v undef))⟩), (4, ⟨23, 1, (ordH G l l.length).L.length, true, .rows (wR (ordH G l l.length).L)⟩)] [5, 6, 7, 11, 12, 13, 14] [2, 3] (fr0 := [(5, .p (.v (.bool true))), (6, .ptr 2 0), (7, .own 4 0 _), (11, .p (.v (.int .i64 _))), (12, .p (.v (.int .i64 _))), (13, .p (.v (.int .i64 ((_ : Nat) : Int)))), (14, .ptr 5 0)]) (O0 := [(2, ⟨_, _, _, _, .cells [.p (.bs _), .p (.v (.int .i64 _)), .own 3 0 _, .p (.v (.slice none 0 0))]⟩), (3, ⟨_, _, _, _, .rows _⟩)]) rfl rfl ⟨⟨⟨le_int (by exact hA3), trivial⟩, ⟨.refl _, trivial⟩, ⟨.refl _, rfl⟩, ⟨.refl _, rfl⟩, ⟨.refl _, trivial⟩, ⟨.refl _, trivial⟩, ⟨.refl _, trivial⟩, ⟨.refl _, rfl⟩, trivial⟩, ⟨⟨_, rfl, .inr (ob_rowsL (by intro j hj; match j, hj with | 0, _ => exact le_int hA0 | 1, _ => exact le_int hA1 | 2, _ => exact le_bs hA2)), trivial⟩, ⟨_, rfl, .inr (ob_rows (by rfl) (by intro j hj; rfl)), trivial⟩, ⟨_, rfl, .inl rfl, ⟨trivial, trivial, rfl, trivial, trivial⟩⟩, ⟨_, rfl, .inl rfl, trivial⟩, trivial⟩⟩ ?_
     show HT _ _ _ _ _
     refine HT.planS S_lawOrder1_ok S_lawOrder1_det mixed [20, 21, 24, 25] [⟨[0, 1, 2, 3, 4, 5, 6, 7, 8, 9, 10, 11, 12, 13, 14, 15, 16, 17, 18, 19, 20, 21, 22], 23, [20, 21]⟩] (by kernel_rfl) ?_
     refine Pl.lk ?_
     refine Si.n rfl (lk rfl) (V.mv (v := .p (.v (.int .i64 _))) rfl (Si.n rfl (lk rfl) (V.bin (a := .v (.int .i64 _)) (b := .v (.int .i64 0)) (r := .v (.bool _)) rfl rfl rfl trivial (Si.n rfl (lk rfl) (V.mv (v := .p (.v (.bool _))) rfl ?_)))))
     refine Si.gd rfl rfl rfl (lk rfl) (lk rfl) (fun h17 => ?_) (fun h17 => ?_)
     ·have h17 := of_decide_eq_true (bnF h17)
      refine V.faPtr ty45 rfl ty23 (lk rfl) rfl rfl (lk rfl) ?_
      refine Si.gy rfl rfl rfl (lk rfl) (lk rfl) ?_
      refine V.ldPtr ty23 rfl rfl rfl (lk rfl) (v := .p (.bs _)) rfl ?_
      refine Si.gy rfl rfl rfl (lk rfl) (lk rfl) ?_
      refine V.cvBs ty9 rfl rfl ?_
      refine Si.gy rfl rfl rfl (lk rfl) (lk rfl) ?_
      refine V.mv (v := .own 4 0 _) rfl ?_
      refine Si.gy rfl rfl rfl (lk rfl) (lk rfl) ?_
      refine V.mv (v := .p (.v (.int .i64 ((_ : Nat) : Int)))) rfl ?_
      refine Si.gy rfl rfl rfl (lk rfl) (lk rfl) ?_
      refine V.ixOwn10 (mi := m) ty22 ty23 rfl rfl rfl rfl rfl (by omega) (by omega) ?_
      refine Si.gy rfl rfl rfl (lk rfl) (lk rfl) ?_
      refine V.ldPtr ty23 rfl rfl rfl (by (simp; omega)) (v := .p (.bs (pB (ordH G l l.length).L m))) (by rfl) ?_
      refine Si.gy rfl rfl rfl (lk rfl) (lk rfl) ?_
      refine V.cvBs ty9 rfl rfl ?_
      refine Si.gy rfl rfl rfl (lk rfl) (lk rfl) ?_
      refine V.bin (a := .str _) (b := .str _) (r := .v (.bool _)) rfl rfl rfl trivial ?_
      refine Si.n rfl (lk rfl) (V.pkFalse (u := .p (.v (.bool _))) rfl rfl (Si.n rfl (lk rfl) (V.mv (v := .p (.v (.bool _))) rfl ?_)))
      refine Si.gd rfl rfl rfl (lk rfl) (lk rfl) (fun h18 => ?_) (fun h18 => ?_)
      ·have h18 := of_decide_eq_true (bnF h18)
       refine V.faPtr ty45 rfl ty2 (lk rfl) rfl rfl (lk rfl) ?_
       refine Si.gy rfl rfl rfl (lk rfl) (lk rfl) ?_
       refine V.ldPtr ty2 rfl rfl rfl (lk rfl) (v := .p (.v (.int .i64 _))) rfl ?_
       refine Si.gy rfl rfl rfl (lk rfl) (lk rfl) ?_
       refine V.mv (v := .p (.v (.int .i64 _))) rfl ?_
       refine Si.gy rfl rfl rfl (lk rfl) (lk rfl) ?_
       refine V.bin (a := .v (.int .i64 _)) (b := .v (.int .i64 _)) (r := .v (.bool _)) rfl rfl rfl trivial ?_
       refine Si.n rfl (lk rfl) (V.pkFalse (u := .p (.v (.bool _))) rfl rfl (Si.n rfl (lk rfl) (V.mv (v := .p (.v (.bool _))) rfl ?_)))
       refine Si.gd rfl rfl rfl (lk rfl) (lk rfl) (fun h19 => ?_) (fun h19 => ?_)
       ·have h19 := of_decide_eq_false h19
        refine V.faPtr ty45 rfl ty2 (lk rfl) rfl rfl (lk rfl) ?_
        refine Si.gy rfl rfl rfl (lk rfl) (lk rfl) ?_
        refine V.ldPtr ty2 rfl rfl rfl (lk rfl) (v := .p (.v (.int .i64 _))) rfl ?_
        refine Si.gy rfl rfl rfl (lk rfl) (lk rfl) ?_
        refine V.mv (v := .ptr 2 0) rfl ?_
        refine Si.e ?_
        refine ⟨flEq_nil, fun ff => ?_⟩
        refine Lo.gy rfl rfl rfl (lk rfl) (lk rfl) ?_
        refine A.call [.ptr 1 _] [(1, ⟨_, _, _, _, .cells [.p (.bs _), .p (.v (.int .i64 _)), .own 2 0 _, .p (.v (.slice none 0 0))]⟩), (2, ⟨_, _, _, _, .rows _⟩)] (sg [(1, 2), (2, 3)]) 6 rfl rfl rfl rfl ⟨rfl, rfl, trivial⟩ rfl ⟨⟨trivial, trivial, rfl, trivial, trivial⟩, trivial, trivial⟩ ⟨rfl, trivial⟩ trivial rfl (G, (ordH G l l.length).e, (ordH G l l.length).L) ⟨.refl _, trivial⟩ ⟨⟨_, rfl, .inl rfl, ⟨trivial, trivial, rfl, trivial, trivial⟩⟩, ⟨_, rfl, .inl rfl, trivial⟩, trivial⟩ (by trivial) (Φ := fun _ => True) (fun _ _ => trivial) ⟨⟨_, _, rfl, rfl, rfl, Nat.le_refl _⟩, ⟨_, _, rfl, rfl, rfl, Nat.le_refl _⟩, trivial⟩ (.inl rfl) rfl (v := .p (.v (.int .i64 _))) rfl (O' := (2, ⟨_, _, _, _, .cells _⟩) :: (3, ⟨_, _, _, _, .rows _⟩) :: _) rfl (fun h20 => ?_)
        refine ⟨_, fun ff => ff, ap0dg, rfl, FG.id, ?_⟩
        show planA _ _ _ _ _ [(20, .ptr 5 1), (21, .p (.v (.int .i64 _)))] _ _ _
        refine Pl.e ?_
        refine Si.gy rfl rfl rfl (lk rfl) (lk rfl) ?_
        refine V.faPtr ty45 rfl ty2 (lk rfl) rfl rfl (lk rfl) ?_
        refine Si.gy rfl rfl rfl (lk rfl) (lk rfl) ?_
        refine V.ldPtr ty2 rfl rfl rfl (lk rfl) (v := .p (.v (.int .i64 _))) rfl ?_
        refine Si.gy rfl rfl rfl (lk rfl) (lk rfl) ?_
        refine V.bin (a := .v (.int .i64 _)) (b := .v (.int .i64 _)) (r := .v (.bool _)) rfl rfl rfl trivial ?_
        refine Si.n rfl (lk rfl) (V.pkFalse (u := .p (.v (.bool _))) rfl rfl (Si.e ?_))
        refine ⟨(flEq_cons rfl (flEq_cons rfl flEq_nil)), ?_⟩
        show HT _ _ _ _ _
        refine R.cond rfl rfl (fun h21 => ?_) (fun h21 => ?_)
        ·have h21 := of_decide_eq_true h21
         refine HT.seq ?_
         exfalso; omega
        ·have h21 := of_decide_eq_false h21
         refine HT.skip (HT.seq (HT.region S_lawOrder1_ok (So.q rfl rfl (V.faPtr ty45 rfl ty2 (lk rfl) rfl rfl (lk rfl) (So.q rfl rfl (V.ldPtr ty2 rfl rfl rfl (lk rfl) (v := .p (.v (.int .i64 _))) rfl (So.q rfl rfl (V.as (v := .p (.v (.int .i64 _))) rfl (So.e (HT.seq (HT.region S_lawOrder1_ok (So.q rfl rfl (V.faPtr ty45 rfl ty23 (lk rfl) rfl rfl (lk rfl) ?_)))))))))))))
         refine So.q rfl rfl (V.ldPtr ty23 rfl rfl rfl (lk rfl) (v := .p (.bs _)) rfl ?_)
         refine So.n (lk rfl) (A.call0 [.p (.bs _)] 6 rfl rfl rfl rfl ⟨trivial, trivial⟩ trivial _ ⟨.refl _, trivial⟩ trivial (by trivial) (Φ := fun _ => True) (fun _ _ => trivial) (.inl rfl) (v := .tup 2 _) rfl (O' := _) rfl (fun h22 => ?_))
         refine So.q rfl rfl (V.mv (v := .tup 2 _) rfl (So.q rfl rfl (V.ext rfl (lk rfl) (v := .agg 8 _) rfl (So.q rfl rfl (V.ext rfl (lk rfl) (v := .p (.v (.int .i64 _))) rfl (So.n (lk rfl) (A.alloc 6 1 ty49 rfl trivial (f := fun j => ([.v (.slice none 0 0), .v (.int .i64 0), .v (.int .i64 0), .v (.int .i64 0), .v (.slice none 0 0), .v (.slice none 0 0), .v (.slice none 0 0), .v (.slice none 0 0)] : List PV).getD j (.v undef)) (fun j hj => by match j, hj with | 0, _ => rfl | 1, _ => rfl | 2, _ => rfl | 3, _ => rfl | 4, _ => rfl | 5, _ => rfl | 6, _ => rfl | 7, _ => rfl) (So.s (A.stoAg ty49 rfl (n := 8) rfl (by decide) (by intro j hj; (match j, hj with | 0, _ => (trivial) | 1, _ => (trivial) | 2, _ => (trivial) | 3, _ => (trivial) | 4, _ => (trivial) | 5, _ => (trivial) | 6, _ => (trivial) | 7, _ => (trivial))) rfl rfl rfl (So.q rfl rfl (V.as (v := .p (.v (.int .i64 _))) rfl (So.e (HT.seq (HT.seq (HT.region S_lawOrder1_ok ?_)))))))))))))))
         refine So.q rfl rfl (V.faPtr ty45 rfl ty3 (lk rfl) rfl rfl (lk rfl) (So.q rfl rfl (V.ldPtr ty3 rfl rfl rfl (lk rfl) (v := .p (.v (.int .i64 _))) rfl (So.q rfl rfl (V.bin (a := .v (.int .i64 _)) (b := .v (.int .i64 1)) (r := .v (.bool _)) rfl rfl rfl trivial (So.q rfl rfl (V.mv (v := .p (.v (.bool _))) rfl ?_)))))))
         refine So.gd rfl rfl (lk rfl) (lk rfl) (fun h23 => ?_) (fun h23 => ?_)
         ·have h23 := of_decide_eq_true h23
          refine A.v rfl (V.mv (v := .p (.v (.int .i64 _))) rfl (So.gy rfl rfl (lk rfl) (lk rfl) (A.v rfl (V.bin (a := .v (.int .i64 _)) (b := .v (.int .i64 0)) (r := .v (.bool _)) rfl rfl rfl trivial (So.gy rfl rfl (lk rfl) (lk rfl) (A.v rfl (V.mv (v := .p (.v (.bool _))) rfl ?_)))))))
          refine So.gd rfl rfl (lk rfl) (lk rfl) (fun h24 => ?_) (fun h24 => ?_)
          ·have h24 := of_decide_eq_true (bnF h24)
           refine A.v rfl (V.faPtr ty49 rfl ty36 (lk rfl) rfl rfl (lk rfl) (So.gy rfl rfl (lk rfl) (lk rfl) (A.v rfl (V.faPtr ty36 rfl ty2 (lk rfl) rfl rfl (lk rfl) (So.gy rfl rfl (lk rfl) (lk rfl) (A.v rfl (V.ldPtr ty2 rfl rfl rfl (lk rfl) (v := .p (.v (.int .i64 _))) rfl (So.gy rfl rfl (lk rfl) (lk rfl) (A.v rfl (V.faPtr ty45 rfl ty2 (lk rfl) rfl rfl (lk rfl) (So.gy rfl rfl (lk rfl) (lk rfl) (A.v rfl (V.ldPtr ty2 rfl rfl rfl (lk rfl) (v := .p (.v (.int .i64 _))) rfl (So.gy rfl rfl (lk rfl) (lk rfl) ?_))))))))))))))
           refine A.v rfl (V.bin (a := .v (.int .i64 _)) (b := .v (.int .i64 _)) (r := .v (.bool _)) rfl rfl rfl trivial (So.gy rfl rfl (lk rfl) (lk rfl) (A.v rfl (V.pkFalse (u := .p (.v (.bool _))) rfl rfl (So.q rfl rfl (V.pkTrue (u := .p (.v (.bool _))) rfl rfl (So.e ?_)))))))
           show HT _ _ _ _ _
           refine R.cond rfl rfl (fun h25 => ?_) (fun h25 => ?_)
           ·have h25 := of_decide_eq_false (bnT h25)
            refine HT.seq ?_
            exfalso; have h9 := hp.2 (by assumption); exact absurd h9.2 (by assumption)
           ·have h25 := of_decide_eq_true (bnF h25)
            refine HT.skip (HT.seq (HT.region S_lawOrder1_ok (So.q rfl rfl (V.faPtr ty45 rfl ty3 (lk rfl) rfl rfl (lk rfl) (So.q rfl rfl (V.ldPtr ty3 rfl rfl rfl (lk rfl) (v := .p (.v (.int .i64 _))) rfl (So.q rfl rfl (V.bin (a := .v (.int .i64 _)) (b := .v (.int .i64 1)) (r := .v (.bool _)) rfl rfl rfl trivial (So.q rfl rfl (V.mv (v := .p (.v (.bool _))) rfl ?_))))))))))
            refine So.gd rfl rfl (lk rfl) (lk rfl) (fun h26 => ?_) (fun h26 => ?_)
            ·have h26 := of_decide_eq_true h26
             refine A.v rfl (V.faPtr ty49 rfl ty36 (lk rfl) rfl rfl (lk rfl) (So.gy rfl rfl (lk rfl) (lk rfl) (A.v rfl (V.faPtr ty36 rfl ty3 (lk rfl) rfl rfl (lk rfl) (So.gy rfl rfl (lk rfl) (lk rfl) (A.v rfl (V.ldPtr ty3 rfl rfl rfl (lk rfl) (v := .p (.v (.int .i64 _))) rfl (So.gy rfl rfl (lk rfl) (lk rfl) (A.v rfl (V.bin (a := .v (.int .i64 _)) (b := .v (.int .i64 4)) (r := .v (.bool _)) rfl rfl rfl trivial (So.q rfl rfl (V.pkTrue (u := .p (.v (.bool _))) rfl rfl (So.e ?_)))))))))))))
             show HT _ _ _ _ _
             refine R.cond rfl rfl (fun h27 => ?_) (fun h27 => ?_)
             ·have h27 := of_decide_eq_true h27
              refine HT.seq (HT.seq (HT.region S_lawOrder1_ok (So.q rfl rfl (V.faPtr ty45 rfl ty2 (lk rfl) rfl rfl (lk rfl) (So.q rfl rfl (V.ldPtr ty2 rfl rfl rfl (lk rfl) (v := .p (.v (.int .i64 _))) rfl (So.q rfl rfl (V.mv (v := .p (.v (.int .i64 _))) rfl (So.q rfl rfl (V.bin (a := .v (.int .i64 _)) (b := .v (.int .i64 _)) (r := .v (.bool _)) rfl rfl rfl trivial (So.e ?_)))))))))))
              show HT _ _ _ _ _
              refine R.cond rfl rfl (fun h28 => ?_) (fun h28 => ?_)
              ·have h28 := of_decide_eq_true h28
               refine HT.seq ?_
               exfalso; omega
              ·have h28 := of_decide_eq_false h28
               refine HT.skip (HT.region S_lawOrder1_ok (So.q rfl rfl (V.faPtr ty45 rfl ty2 (lk rfl) rfl rfl (lk rfl) (So.q rfl rfl (V.ldPtr ty2 rfl rfl rfl (lk rfl) (v := .p (.v (.int .i64 _))) rfl (So.q rfl rfl (V.as (v := .p (.v (.int .i64 _))) rfl (So.e (HT.region S_lawOrder1_ok (So.q rfl rfl (V.mv (v := .p (.v (.int .i64 ((_ : Nat) : Int)))) rfl (So.q rfl rfl (V.addI rfl rfl (by omega) (So.q rfl rfl (V.as (v := .p (.v (.int .i64 _))) rfl ?_)))))))))))))))
               refine So.e ?_
               refine ⟨m + 1, by omega, by omega, ⟨⟨⟨le_int (by rfl), trivial⟩, ⟨le_int (by rfl), trivial⟩, ⟨le_int (by exact (endN_1 (by assumption) (by assumption)).symm), trivial⟩, ⟨.refl _, trivial⟩, ⟨.refl _, rfl⟩, ⟨.refl _, rfl⟩, trivial⟩, ⟨⟨_, rfl, .inl rfl, ⟨trivial, trivial, rfl, trivial, trivial⟩⟩, ⟨_, rfl, .inl rfl, trivial⟩, ⟨_, rfl, .inl rfl, trivial⟩, trivial⟩⟩⟩
             ·have h27 := of_decide_eq_false h27
              refine HT.skip (HT.region S_lawOrder1_ok (So.q rfl rfl (V.mv (v := .p (.v (.int .i64 ((_ : Nat) : Int)))) rfl (So.q rfl rfl (V.addI rfl rfl (by omega) (So.q rfl rfl (V.as (v := .p (.v (.int .i64 _))) rfl (So.e ?_))))))))
              refine ⟨m + 1, by omega, by omega, ⟨⟨⟨le_int (by rfl), trivial⟩, ⟨le_int (by rfl), trivial⟩, ⟨le_int (by exact (endN_2 (fun h9 => absurd h9.2 (by assumption))).symm), trivial⟩, ⟨.refl _, trivial⟩, ⟨.refl _, rfl⟩, ⟨.refl _, rfl⟩, trivial⟩, ⟨⟨_, rfl, .inl rfl, ⟨trivial, trivial, rfl, trivial, trivial⟩⟩, ⟨_, rfl, .inl rfl, trivial⟩, ⟨_, rfl, .inl rfl, trivial⟩, trivial⟩⟩⟩
            ·have h26 := of_decide_eq_false h26
             refine So.gn (b := false) rfl rfl rfl (lk rfl) (lk rfl) (So.gn (b := false) rfl rfl rfl (lk rfl) (lk rfl) (So.gn (b := false) rfl rfl rfl (lk rfl) (lk rfl) (So.q rfl rfl (V.pkFalse (u := .p (.v (.bool false))) rfl rfl (So.e ?_)))))
             show HT _ _ _ _ _
             refine R.condF rfl ?_
             refine HT.skip (HT.region S_lawOrder1_ok (So.q rfl rfl (V.mv (v := .p (.v (.int .i64 ((_ : Nat) : Int)))) rfl (So.q rfl rfl (V.addI rfl rfl (by omega) (So.q rfl rfl (V.as (v := .p (.v (.int .i64 _))) rfl (So.e ?_))))))))
             refine ⟨m + 1, by omega, by omega, ⟨⟨⟨le_int (by rfl), trivial⟩, ⟨le_int (by rfl), trivial⟩, ⟨le_int (by exact (endN_2 (fun h9 => absurd h9.1 (by assumption))).symm), trivial⟩, ⟨.refl _, trivial⟩, ⟨.refl _, rfl⟩, ⟨.refl _, rfl⟩, trivial⟩, ⟨⟨_, rfl, .inl rfl, ⟨trivial, trivial, rfl, trivial, trivial⟩⟩, ⟨_, rfl, .inl rfl, trivial⟩, ⟨_, rfl, .inl rfl, trivial⟩, trivial⟩⟩⟩
          ·have h24 := of_decide_eq_false (bnT h24)
           refine So.gn (b := true) rfl rfl rfl (lk rfl) (lk rfl) (So.gn (b := true) rfl rfl rfl (lk rfl) (lk rfl) (So.gn (b := true) rfl rfl rfl (lk rfl) (lk rfl) (So.gn (b := true) rfl rfl rfl (lk rfl) (lk rfl) (So.gn (b := true) rfl rfl rfl (lk rfl) (lk rfl) (So.gy rfl rfl (lk rfl) (lk rfl) (A.v rfl (V.pkTrue (u := .p (.v (.bool true))) rfl rfl (So.q rfl rfl (V.pkTrue (u := .p (.v (.bool true))) rfl rfl (So.e ?_))))))))))
           show HT _ _ _ _ _
           refine R.condT rfl ?_
           refine HT.seq ?_
           exfalso; have h9 := hp.2 (by assumption); exact absurd h9.1 (by assumption)
         ·have h23 := of_decide_eq_false h23
          refine So.gn (b := false) rfl rfl rfl (lk rfl) (lk rfl) (So.gn (b := false) rfl rfl rfl (lk rfl) (lk rfl) ?_)
          refine So.gu rfl rfl (lk rfl) ?_
          refine So.gu rfl rfl (lk rfl) ?_
          refine So.gu rfl rfl (lk rfl) ?_
          refine So.gu rfl rfl (lk rfl) ?_
          refine So.gu rfl rfl (lk rfl) ?_
          refine So.gu rfl rfl (lk rfl) ?_
          refine So.gn (b := false) rfl rfl rfl (lk rfl) (lk rfl) (So.q rfl rfl (V.pkFalse (u := .p (.v (.bool false))) rfl rfl (So.e ?_)))
          show HT _ _ _ _ _
          refine R.condF rfl ?_
          refine HT.skip (HT.seq (HT.region S_lawOrder1_ok (So.q rfl rfl (V.faPtr ty45 rfl ty3 (lk rfl) rfl rfl (lk rfl) (So.q rfl rfl (V.ldPtr ty3 rfl rfl rfl (lk rfl) (v := .p (.v (.int .i64 _))) rfl (So.q rfl rfl (V.bin (a := .v (.int .i64 _)) (b := .v (.int .i64 1)) (r := .v (.bool _)) rfl rfl rfl trivial (So.q rfl rfl (V.mv (v := .p (.v (.bool _))) rfl ?_))))))))))
          refine So.gd rfl rfl (lk rfl) (lk rfl) (fun h29 => ?_) (fun h29 => ?_)
          ·have h29 := of_decide_eq_true h29
           refine A.v rfl (V.faPtr ty49 rfl ty36 (lk rfl) rfl rfl (lk rfl) (So.gy rfl rfl (lk rfl) (lk rfl) (A.v rfl (V.faPtr ty36 rfl ty3 (lk rfl) rfl rfl (lk rfl) (So.gy rfl rfl (lk rfl) (lk rfl) (A.v rfl (V.ldPtr ty3 rfl rfl rfl (lk rfl) (v := .p (.v (.int .i64 _))) rfl (So.gy rfl rfl (lk rfl) (lk rfl) (A.v rfl (V.bin (a := .v (.int .i64 _)) (b := .v (.int .i64 4)) (r := .v (.bool _)) rfl rfl rfl trivial (So.q rfl rfl (V.pkTrue (u := .p (.v (.bool _))) rfl rfl (So.e ?_)))))))))))))
           show HT _ _ _ _ _
           refine R.cond rfl rfl (fun h30 => ?_) (fun h30 => ?_)
           ·have h30 := of_decide_eq_true h30
            refine HT.seq (HT.seq (HT.region S_lawOrder1_ok (So.q rfl rfl (V.faPtr ty45 rfl ty2 (lk rfl) rfl rfl (lk rfl) (So.q rfl rfl (V.ldPtr ty2 rfl rfl rfl (lk rfl) (v := .p (.v (.int .i64 _))) rfl (So.q rfl rfl (V.mv (v := .p (.v (.int .i64 _))) rfl (So.q rfl rfl (V.bin (a := .v (.int .i64 _)) (b := .v (.int .i64 _)) (r := .v (.bool _)) rfl rfl rfl trivial (So.e ?_)))))))))))
            show HT _ _ _ _ _
            refine R.cond rfl rfl (fun h31 => ?_) (fun h31 => ?_)
            ·have h31 := of_decide_eq_true h31
             refine HT.seq ?_
             exfalso; omega
            ·have h31 := of_decide_eq_false h31
             refine HT.skip (HT.region S_lawOrder1_ok (So.q rfl rfl (V.faPtr ty45 rfl ty2 (lk rfl) rfl rfl (lk rfl) (So.q rfl rfl (V.ldPtr ty2 rfl rfl rfl (lk rfl) (v := .p (.v (.int .i64 _))) rfl (So.q rfl rfl (V.as (v := .p (.v (.int .i64 _))) rfl (So.e (HT.region S_lawOrder1_ok (So.q rfl rfl (V.mv (v := .p (.v (.int .i64 ((_ : Nat) : Int)))) rfl (So.q rfl rfl (V.addI rfl rfl (by omega) (So.q rfl rfl (V.as (v := .p (.v (.int .i64 _))) rfl ?_)))))))))))))))
             refine So.e ?_
             refine ⟨m + 1, by omega, by omega, ⟨⟨⟨le_int (by rfl), trivial⟩, ⟨le_int (by rfl), trivial⟩, ⟨le_int (by exact (endN_1 (by assumption) (by assumption)).symm), trivial⟩, ⟨.refl _, trivial⟩, ⟨.refl _, rfl⟩, ⟨.refl _, rfl⟩, trivial⟩, ⟨⟨_, rfl, .inl rfl, ⟨trivial, trivial, rfl, trivial, trivial⟩⟩, ⟨_, rfl, .inl rfl, trivial⟩, ⟨_, rfl, .inl rfl, trivial⟩, trivial⟩⟩⟩
           ·have h30 := of_decide_eq_false h30
            refine HT.skip (HT.region S_lawOrder1_ok (So.q rfl rfl (V.mv (v := .p (.v (.int .i64 ((_ : Nat) : Int)))) rfl (So.q rfl rfl (V.addI rfl rfl (by omega) (So.q rfl rfl (V.as (v := .p (.v (.int .i64 _))) rfl (So.e ?_))))))))
            refine ⟨m + 1, by omega, by omega, ⟨⟨⟨le_int (by rfl), trivial⟩, ⟨le_int (by rfl), trivial⟩, ⟨le_int (by exact (endN_2 (fun h9 => absurd h9.1 (by assumption))).symm), trivial⟩, ⟨.refl _, trivial⟩, ⟨.refl _, rfl⟩, ⟨.refl _, rfl⟩, trivial⟩, ⟨⟨_, rfl, .inl rfl, ⟨trivial, trivial, rfl, trivial, trivial⟩⟩, ⟨_, rfl, .inl rfl, trivial⟩, ⟨_, rfl, .inl rfl, trivial⟩, trivial⟩⟩⟩
          ·have h29 := of_decide_eq_false h29
           refine So.gn (b := false) rfl rfl rfl (lk rfl) (lk rfl) (So.gn (b := false) rfl rfl rfl (lk rfl) (lk rfl) (So.gn (b := false) rfl rfl rfl (lk rfl) (lk rfl) (So.q rfl rfl (V.pkFalse (u := .p (.v (.bool false))) rfl rfl (So.e ?_)))))
           show HT _ _ _ _ _
           refine R.condF rfl ?_
           refine HT.skip (HT.region S_lawOrder1_ok (So.q rfl rfl (V.mv (v := .p (.v (.int .i64 ((_ : Nat) : Int)))) rfl (So.q rfl rfl (V.addI rfl rfl (by omega) (So.q rfl rfl (V.as (v := .p (.v (.int .i64 _))) rfl (So.e ?_))))))))
           refine ⟨m + 1, by omega, by omega, ⟨⟨⟨le_int (by rfl), trivial⟩, ⟨le_int (by rfl), trivial⟩, ⟨le_int (by exact (endN_2 (fun h9 => absurd h9.1 (by assumption))).symm), trivial⟩, ⟨.refl _, trivial⟩, ⟨.refl _, rfl⟩, ⟨.refl _, rfl⟩, trivial⟩, ⟨⟨_, rfl, .inl rfl, ⟨trivial, trivial, rfl, trivial, trivial⟩⟩, ⟨_, rfl, .inl rfl, trivial⟩, ⟨_, rfl, .inl rfl, trivial⟩, trivial⟩⟩⟩
       ·have h19 := of_decide_eq_true h19
        refine Si.gn rfl (b := true) rfl rfl rfl (lk rfl) (lk rfl) ?_
        refine Si.gn rfl (b := true) rfl rfl rfl (lk rfl) (lk rfl) ?_
        refine Si.e ?_
        refine ⟨flEq_nil, fun ff => ?_⟩
        refine Lo.gn rfl (b := true) rfl rfl rfl (lk rfl) (lk rfl) ?_
        refine ⟨_, fun ff => ff, ap0dg, rfl, FG.id, ?_⟩
        show planA _ _ _ _ _ [(20, .p (.v undef)), (21, .p (.v undef))] _ _ _
        refine Pl.e ?_
        refine Si.gn rfl (b := true) rfl rfl rfl (lk rfl) (lk rfl) ?_
        refine Si.gn rfl (b := true) rfl rfl rfl (lk rfl) (lk rfl) ?_
        refine Si.gn rfl (b := true) rfl rfl rfl (lk rfl) (lk rfl) ?_
        refine Si.n rfl (lk rfl) (V.pkTrue (u := .p (.v (.bool true))) rfl rfl (Si.e ?_))
        refine ⟨(flEq_cons rfl (flEq_cons rfl flEq_nil)), ?_⟩
        show HT _ _ _ _ _
        refine R.condT rfl ?_
        refine HT.seq ?_
        exfalso; omega
      ·have h18 := of_decide_eq_false (bnT h18)
       refine Si.gn rfl (b := true) rfl rfl rfl (lk rfl) (lk rfl) ?_
       refine Si.gn rfl (b := true) rfl rfl rfl (lk rfl) (lk rfl) ?_
       refine Si.gn rfl (b := true) rfl rfl rfl (lk rfl) (lk rfl) ?_
       refine Si.n rfl (lk rfl) (V.pkTrue (u := .p (.v (.bool true))) rfl rfl (Si.n rfl (lk rfl) (V.mv (v := .p (.v (.bool true))) rfl ?_)))
       refine Si.gn rfl (b := true) rfl rfl rfl (lk rfl) (lk rfl) ?_
       refine Si.gn rfl (b := true) rfl rfl rfl (lk rfl) (lk rfl) ?_
       refine Si.gn rfl (b := true) rfl rfl rfl (lk rfl) (lk rfl) ?_
       refine Si.e ?_
       refine ⟨flEq_nil, fun ff => ?_⟩
       refine Lo.gn rfl (b := true) rfl rfl rfl (lk rfl) (lk rfl) ?_
       refine ⟨_, fun ff => ff, ap0dg, rfl, FG.id, ?_⟩
       show planA _ _ _ _ _ [(20, .p (.v undef)), (21, .p (.v undef))] _ _ _
       refine Pl.e ?_
       refine Si.gn rfl (b := true) rfl rfl rfl (lk rfl) (lk rfl) ?_
       refine Si.gn rfl (b := true) rfl rfl rfl (lk rfl) (lk rfl) ?_
       refine Si.gn rfl (b := true) rfl rfl rfl (lk rfl) (lk rfl) ?_
       refine Si.n rfl (lk rfl) (V.pkTrue (u := .p (.v (.bool true))) rfl rfl (Si.e ?_))
       refine ⟨(flEq_cons rfl (flEq_cons rfl flEq_nil)), ?_⟩
       show HT _ _ _ _ _
       refine R.condT rfl ?_
       refine HT.seq ?_
       exfalso; exact absurd rfl (by assumption)
     ·have h17 := of_decide_eq_false (bnT h17)
      refine Si.gn rfl (b := true) rfl rfl rfl (lk rfl) (lk rfl) ?_
      refine Si.gn rfl (b := true) rfl rfl rfl (lk rfl) (lk rfl) ?_
      refine Si.gn rfl (b := true) rfl rfl rfl (lk rfl) (lk rfl) ?_
      refine Si.gn rfl (b := true) rfl rfl rfl (lk rfl) (lk rfl) ?_
      refine Si.gn rfl (b := true) rfl rfl rfl (lk rfl) (lk rfl) ?_
      refine Si.gn rfl (b := true) rfl rfl rfl (lk rfl) (lk rfl) ?_
      refine Si.gn rfl (b := true) rfl rfl rfl (lk rfl) (lk rfl) ?_
      refine Si.gn rfl (b := true) rfl rfl rfl (lk rfl) (lk rfl) ?_
      refine Si.n rfl (lk rfl) (V.pkTrue (u := .p (.v (.bool true))) rfl rfl (Si.n rfl (lk rfl) (V.mv (v := .p (.v (.bool true))) rfl ?_)))
      refine Si.gn rfl (b := true) rfl rfl rfl (lk rfl) (lk rfl) ?_
      refine Si.gn rfl (b := true) rfl rfl rfl (lk rfl) (lk rfl) ?_
      refine Si.gn rfl (b := true) rfl rfl rfl (lk rfl) (lk rfl) ?_
      refine Si.gn rfl (b := true) rfl rfl rfl (lk rfl) (lk rfl) ?_
      refine Si.n rfl (lk rfl) (V.pkTrue (u := .p (.v (.bool true))) rfl rfl (Si.n rfl (lk rfl) (V.mv (v := .p (.v (.bool true))) rfl ?_)))
      refine Si.gn rfl (b := true) rfl rfl rfl (lk rfl) (lk rfl) ?_
      refine Si.gn rfl (b := true) rfl rfl rfl (lk rfl) (lk rfl) ?_
      refine Si.gn rfl (b := true) rfl rfl rfl (lk rfl) (lk rfl) ?_
      refine Si.e ?_
      refine ⟨flEq_nil, fun ff => ?_⟩
      refine Lo.gn rfl (b := true) rfl rfl rfl (lk rfl) (lk rfl) ?_
      refine ⟨_, fun ff => ff, ap0dg, rfl, FG.id, ?_⟩
      show planA _ _ _ _ _ [(20, .p (.v undef)), (21, .p (.v undef))] _ _ _
      refine Pl.e ?_
      refine Si.gn rfl (b := true) rfl rfl rfl (lk rfl) (lk rfl) ?_
      refine Si.gn rfl (b := true) rfl rfl rfl (lk rfl) (lk rfl) ?_
      refine Si.gn rfl (b := true) rfl rfl rfl (lk rfl) (lk rfl) ?_
      refine Si.n rfl (lk rfl) (V.pkTrue (u := .p (.v (.bool true))) rfl rfl (Si.e ?_))
      refine ⟨(flEq_cons rfl (flEq_cons rfl flEq_nil)), ?_⟩
      show HT _ _ _ _ _
      refine R.condT rfl ?_
      refine HT.seq ?_
      exfalso; omega
    ·have h15 := of_decide_eq_false h15
     refine HT.exit ?_
     show HT _ _ _ _ _
     refine HT.seq (HT.region S_lawOrder1_ok ?_)
     obtain rfl : m = (ordH G l l.length).L.length := by omega
     have hIe := hI.e
     refine So.q rfl rfl (V.mv (v := .p (.v (.bool true))) rfl (So.q rfl rfl (V.mv (v := .p (.v (.bool true))) rfl (So.gy rfl rfl (lk rfl) (lk rfl) (A.v rfl (V.mv (v := .ptr 2 0) rfl (So.gy rfl rfl (lk rfl) (lk rfl) ?_)))))))
     refine A.call [.ptr 1 _] [(1, ⟨_, _, _, _, .cells [.p (.bs _), .p (.v (.int .i64 _)), .own 2 0 _, .p (.v (.slice none 0 0))]⟩), (2, ⟨_, _, _, _, .rows _⟩)] (sg [(1, 2), (2, 3)]) 5 rfl rfl rfl rfl ⟨rfl, rfl, trivial⟩ rfl ⟨⟨trivial, trivial, rfl, trivial, trivial⟩, trivial, trivial⟩ ⟨rfl, trivial⟩ trivial rfl (G, (ordH G l l.length).e, (ordH G l l.length).L) ⟨.refl _, trivial⟩ ⟨⟨_, rfl, .inl rfl, ⟨trivial, trivial, rfl, trivial, trivial⟩⟩, ⟨_, rfl, .inl rfl, trivial⟩, trivial⟩ (by trivial) (Φ := fun _ => True) (fun _ _ => trivial) ⟨⟨_, _, rfl, rfl, rfl, Nat.le_refl _⟩, ⟨_, _, rfl, rfl, rfl, Nat.le_refl _⟩, trivial⟩ (.inl rfl) rfl (v := .p (.v (.int .i64 _))) rfl (O' := (2, ⟨_, _, _, _, .cells _⟩) :: (3, ⟨_, _, _, _, .rows _⟩) :: _) rfl (fun h32 => ?_)
     refine So.gy rfl rfl (lk rfl) (lk rfl) (A.v rfl (V.mv (v := .p (.v (.int .i64 _))) rfl (So.gy rfl rfl (lk rfl) (lk rfl) (A.v rfl (V.addI rfl rfl (by omega) (So.gy rfl rfl (lk rfl) (lk rfl) (A.v rfl (V.bin (a := .v (.int .i64 _)) (b := .v (.int .i64 _)) (r := .v (.bool _)) rfl rfl rfl trivial (So.q rfl rfl (V.pkTrue (u := .p (.v (.bool _))) rfl rfl (So.q rfl rfl (V.as (v := .p (.v (.bool _))) rfl (So.e ?_)))))))))))))
     show HT _ _ _ _ _
     refine HT.ret ?_
     exact ret_ok (sg []) h rfl rfl rfl trivial ⟨trivial, trivial⟩ rfl ⟨⟨⟨le_bool (by exact decide_eq_true hIe), trivial⟩, trivial⟩, trivial⟩
end Go.Vh
