/- What is proved: each function of the seat's program does what its contract says, wherever it is called; no condition. -/
import Derived.Test.YtblndbaoefaoiaaDoorWalk0
import Derived.Test.YtblndbaoefaoiaaDoorWalk1
import Derived.Test.YtblndbaoefaoiaaDoorPure0
set_option linter.unusedVariables false
set_option linter.unusedSimpArgs false
set_option linter.unusedVariables false
set_option linter.unusedSimpArgs false
namespace Go.Vh
open Go Go.Vc Go.Proofs Go.Vw
def lawLeavesSp : Sp := ⟨[], mkE (α := (List UInt8) × UInt8 × Int) (fun (e, dp, lf) => [.p (.bs (e)), .p (.u8 (dp)), .p (.v (.int .u16 (lf)))]) (fun (e, dp, lf) => []) (fun (e, dp, lf) => 0 ≤ lf ∧ lf < 65536) (fun (e, dp, lf) => [.p (.v (.bool true))]) (fun (e, dp, lf) => [])⟩
def S_lawLeaves : FuncId → Option Sp := fun f => if f = 8 then some headSp else if f = 12 then some rsecretSp else none
theorem S_lawLeaves_ok : ∀ f s, S_lawLeaves f = some s → FOK Tryd.prog gl f s := fun f s h => by
 unfold S_lawLeaves at h
 split at h
 ·rename_i e; cases h; subst e; exact head_ok
 split at h
 ·rename_i e; cases h; subst e; exact rsecret_ok
 cases h
theorem S_lawLeaves_det : ∀ f s, S_lawLeaves f = some s → SpDet s.sp := fun f s h => by
 unfold S_lawLeaves at h
 split at h
 ·cases h; exact mkE_det _ _ _ _ _
 split at h
 ·cases h; exact mkE_det _ _ _ _ _
 cases h
set_option maxHeartbeats 1000000 in
set_option maxRecDepth 20000 in
theorem lawLeaves_ok : FOK Tryd.prog gl 5 lawLeavesSp := by
 refine FOK.ofE (tyOf_ok Tryd.prog) (slots := [6]) (nt := 72) Tryd.func5 rfl rfl rfl rfl (by decide) 3 (fun ⟨_, _, _⟩ => rfl) (by decide) (fun ⟨_, _, _⟩ => ⟨trivial, trivial, trivial, trivial⟩) ?_
 rintro ⟨e, dp, lf⟩ kk hlen hpre h
 have hl0 : (e).length ≤ 9223372036854775807 := hlen.1
 replace hpre : 0 ≤ lf ∧ lf < 65536 := hpre
 show HT (cx Tryd.prog 72 (tyOf Tryd.prog) gl []) _ [(0, .p (.bs (e))), (1, .p (.u8 (dp))), (2, .p (.v (.int .u16 (lf))))] [] _
 obtain ⟨d, hd⟩ : ∃ d : Nat, d = 1 + dp.toNat % 16 := ⟨_, rfl⟩
 obtain ⟨l, hl⟩ : ∃ l : Nat, l = lf.toNat % 2 ^ d := ⟨_, rfl⟩
 have hdb := dp.toNat_lt
 have hll : l < 2 ^ d := by rw [hl]; exact Nat.mod_lt _ (Nat.two_pow_pos _)
 have hp16 := p2_16 (k := d) (by omega)
 have hp15 := p2_16 (k := d - 1) (by omega)
 have hsh : iShl .i64 1 (d : Int).toNat = ((2 ^ d : Nat) : Int) := shl1_16 (by omega)
 have hsh1 : iShl .i64 1 ((d : Int) - 1).toNat = ((2 ^ (d - 1) : Nat) : Int) := by rw [show ((d : Int) - 1).toNat = d - 1 by omega]; exact shl1_16 (by omega)
 have hq : l / 2 ^ (d - 1) ≤ l := Nat.div_le_self _ _
 have hml : lf % ((2 ^ d : Nat) : Int) = (l : Int) := by rw [hl, Int.natCast_emod, Int.toNat_of_nonneg hpre.1]
 refine HT.seq (HT.region S_lawLeaves_ok (So.q rfl rfl (V.as (v := .p (.v (.bool false))) rfl (So.e (HT.seq (HT.region S_lawLeaves_ok ?_))))))
 refine So.n (lk rfl) (A.call0 [] 1 rfl rfl rfl rfl trivial trivial () trivial trivial (by trivial) (Φ := fun _ => True) (fun _ _ => trivial) (.inl rfl) (v := .p (.v (.bool true))) rfl (O' := _) rfl (fun h1 => ?_))
 refine So.q rfl rfl (V.as (v := .p (.v (.bool true))) rfl (So.e (HT.seq (HT.region S_lawLeaves_ok (So.q rfl rfl (V.mv (v := .p (.u8 _)) rfl (So.q rfl rfl (V.cvN ty3 ty5 (a := (.u8 _)) (r := (.v (.int .i64 _))) rfl rfl (So.q rfl rfl (V.remI rfl rfl (by omega) (So.q rfl rfl (V.addI rfl rfl (by omega) (So.q rfl rfl (V.as (v := .p (.v (.int .i64 _))) rfl (So.e ?_)))))))))))))))
 show HT _ _ _ _ _
 refine HT.seq ?_
 refine R.tell [(8, .p (.v (.int .i64 ((d : Int)))))] [] [0, 2, 6, 7] [] (fr0 := [(0, .p (.bs _)), (2, .p (.v (.int .u16 _))), (6, .p (.v (.bool false))), (7, .p (.v (.bool true)))]) (O0 := []) rfl rfl ⟨⟨⟨le_int (by omega), trivial⟩, ⟨.refl _, trivial⟩, ⟨.refl _, trivial⟩, ⟨.refl _, trivial⟩, ⟨.refl _, trivial⟩, trivial⟩, trivial⟩ ?_
 show HT _ _ _ _ _
 refine HT.region S_lawLeaves_ok (So.q rfl rfl (V.mv (v := .p (.v (.int .u16 _))) rfl (So.q rfl rfl (V.cvI ty3 ty36 rfl (by omega) (So.q rfl rfl (V.mv (v := .p (.v (.int .i64 ((_ : Nat) : Int)))) rfl (So.q rfl rfl (V.bin (a := (.v (.int .i64 (1)))) (b := (.v (.int .i64 ((_ : Nat) : Int)))) (r := .v (.int .i64 _)) rfl rfl rfl (by first | rfl | omega | (simp; done) | (simp; omega)) (So.q rfl rfl (V.remI rfl rfl (by omega) (So.q rfl rfl (V.as (v := .p (.v (.int .i64 _))) rfl (So.e (HT.seq (HT.seq ?_)))))))))))))))
 refine R.tell [(9, .p (.v (.int .i64 ((l : Int)))))] [] [0, 6, 7, 8] [] (fr0 := [(0, .p (.bs _)), (6, .p (.v (.bool false))), (7, .p (.v (.bool true))), (8, .p (.v (.int .i64 ((_ : Nat) : Int))))]) (O0 := []) rfl rfl ⟨⟨⟨le_int (by rw [hsh]; exact hml), trivial⟩, ⟨.refl _, trivial⟩, ⟨.refl _, trivial⟩, ⟨.refl _, trivial⟩, ⟨.refl _, trivial⟩, trivial⟩, trivial⟩ ?_
 show HT _ _ _ _ _
 refine HT.region S_lawLeaves_ok (So.q rfl rfl (V.mv (v := .p (.bs _)) rfl (So.q rfl rfl (V.len ty22 (v := .p (.bs _)) rfl rfl (So.q rfl rfl (V.bin (a := (.v (.int .i64 _))) (b := (.v (.int .i64 (32)))) (r := .v (.bool _)) rfl rfl rfl trivial (So.e ?_)))))))
 show HT _ _ _ _ _
 refine R.cond rfl rfl (fun h2 => ?_) (fun h2 => ?_)
 ·have h2 := of_decide_eq_false (bnT h2)
  refine HT.seq (HT.region S_lawLeaves_ok (So.q rfl rfl (V.mv (v := .p (.v (.bool true))) rfl (So.q rfl rfl (V.mv (v := .p (.v (.bool true))) rfl (So.gy rfl rfl (lk rfl) (lk rfl) (A.v rfl (V.mv (v := .p (.bs _)) rfl (So.gy rfl rfl (lk rfl) (lk rfl) (A.v rfl (V.mv (v := .p (.v (.int .i64 ((_ : Nat) : Int)))) rfl (So.gy rfl rfl (lk rfl) (lk rfl) (A.v rfl (V.mv (v := .p (.v (.int .i64 ((_ : Nat) : Int)))) rfl ?_))))))))))))))
  refine So.gy rfl rfl (lk rfl) (lk rfl) ?_
  refine A.call0 [.p (.bs _), .p (.v (.int .i64 ((_ : Nat) : Int))), .p (.v (.int .i64 ((_ : Nat) : Int)))] 1 rfl rfl rfl rfl ⟨trivial, trivial, trivial, trivial⟩ trivial (_, _, _) ⟨.refl _, .refl _, .refl _, trivial⟩ trivial (by trivial) (Φ := fun _ => True) (fun _ _ => trivial) (.inl rfl) (v := .p (.bs _)) rfl (O' := _) rfl (fun h3 => ?_)
  refine So.gy rfl rfl (lk rfl) (lk rfl) (A.v rfl (V.len ty22 (v := .p (.bs _)) rfl rfl (So.gy rfl rfl (lk rfl) (lk rfl) (A.v rfl (V.bin (a := (.v (.int .i64 _))) (b := (.v (.int .i64 (0)))) (r := .v (.bool _)) rfl rfl rfl trivial (So.q rfl rfl (V.pkTrue (u := .p (.v (.bool _))) rfl rfl (So.q rfl rfl (V.as (v := .p (.v (.bool _))) rfl (So.e ?_))))))))))
  show HT _ _ _ _ _
  refine HT.ret ?_
  exact ret_ok (sg []) h rfl rfl rfl trivial ⟨trivial, trivial⟩ rfl ⟨⟨⟨le_bool (by first | with_reducible rfl | exact decide_eq_true (by first | omega | exact congrArg PV.str (leaves (by omega) (by omega) (by omega) hll) | exact leaves (by omega) (by omega) (by omega) hll | exact leaf_0 (by omega) | (rw [(half_len (by omega) (by omega) hll).1]; rfl) | (rw [sec_len_no (by omega)]; rfl))), trivial⟩, trivial⟩, trivial⟩
 ·have h2 := of_decide_eq_true (bnF h2)
  refine HT.skip (HT.seq (HT.region S_lawLeaves_ok (So.q rfl rfl (V.mv (v := .p (.bs _)) rfl (So.q rfl rfl (V.mv (v := .p (.v (.int .i64 ((_ : Nat) : Int)))) rfl (So.q rfl rfl (V.mv (v := .p (.v (.int .i64 ((_ : Nat) : Int)))) rfl (So.q rfl rfl (V.subI rfl rfl (by omega) (So.q rfl rfl (V.bin (a := (.v (.int .i64 ((_ : Nat) : Int)))) (b := (.v (.int .i64 _))) (r := .v (.int .i64 _)) rfl rfl rfl (by first | rfl | omega | (simp; done) | (simp; omega)) ?_))))))))))))
  refine So.n (lk rfl) (A.call0 [.p (.bs _), .p (.v (.int .i64 _)), .p (.v (.int .i64 _))] 1 rfl rfl rfl rfl ⟨trivial, trivial, trivial, trivial⟩ trivial (e, 1, ((l / 2 ^ (d - 1) : Nat) : Int)) ⟨.refl _, .refl _, le_int (by rw [show ((d : Int) - 1).toNat = d - 1 by omega]; exact shr_nat (by omega)), trivial⟩ trivial (by trivial) (Φ := fun _ => True) (fun _ _ => trivial) (.inl rfl) (v := .p (.bs _)) rfl (O' := _) rfl (fun h4 => ?_))
  refine So.q rfl rfl (V.as (v := .p (.bs _)) rfl (So.e (HT.seq ?_)))
  refine HT.drawn S_lawLeaves_ok S_lawLeaves_det mixed (by kernel_rfl) ?_
  refine Sd.n (lk rfl) (V.mv (v := .p (.v (.bool true))) rfl (Sd.n (lk rfl) (V.mv (v := .p (.v (.bool true))) rfl (Sd.gy rfl rfl (lk rfl) (lk rfl) ?_))))
  refine V.mv (v := .p (.bs _)) rfl ?_
  refine Sd.gy rfl rfl (lk rfl) (lk rfl) ?_
  refine V.len ty22 (v := .p (.bs _)) rfl rfl ?_
  refine Sd.gy rfl rfl (lk rfl) (lk rfl) ?_
  refine V.bin (a := (.v (.int .i64 _))) (b := (.v (.int .i64 (32)))) (r := .v (.bool _)) rfl rfl rfl trivial ?_
  refine Sd.n (lk rfl) (V.pkTrue (u := .p (.v (.bool _))) rfl rfl (Sd.n (lk rfl) (V.mv (v := .p (.v (.bool _))) rfl ?_)))
  refine Sd.gd rfl rfl (lk rfl) (lk rfl) (fun h5 => ?_) (fun h5 => ?_)
  ·have h5 := of_decide_eq_true h5
   refine V.mv (v := .p (.bs _)) rfl ?_
   refine Sd.gy rfl rfl (lk rfl) (lk rfl) ?_
   refine V.mv (v := .p (.v (.int .i64 ((_ : Nat) : Int)))) rfl ?_
   refine Sd.gy rfl rfl (lk rfl) (lk rfl) ?_
   refine V.mv (v := .p (.v (.int .i64 ((_ : Nat) : Int)))) rfl ?_
   refine Sd.gy rfl rfl (lk rfl) (lk rfl) ?_
   refine V.call [.p (.bs _), .p (.v (.int .i64 ((_ : Nat) : Int))), .p (.v (.int .i64 ((_ : Nat) : Int)))] 1 rfl rfl rfl rfl ⟨trivial, trivial, trivial, trivial⟩ trivial (_, _, _) ⟨.refl _, .refl _, .refl _, trivial⟩ trivial (by trivial) (Φ := fun _ => True) (fun _ _ => trivial) (.inl ⟨trivial, trivial, trivial, trivial⟩) (v := .p (.bs _)) rfl (fun h6 => ?_)
   refine Sd.gy rfl rfl (lk rfl) (lk rfl) ?_
   refine V.cvBs ty9 rfl rfl ?_
   refine Sd.gy rfl rfl (lk rfl) (lk rfl) ?_
   refine V.mv (v := .p (.bs _)) rfl ?_
   refine Sd.gy rfl rfl (lk rfl) (lk rfl) ?_
   refine V.mv (v := .p (.v (.int .i64 ((_ : Nat) : Int)))) rfl ?_
   refine Sd.gy rfl rfl (lk rfl) (lk rfl) ?_
   refine V.subI rfl rfl (by omega) ?_
   refine Sd.gy rfl rfl (lk rfl) (lk rfl) ?_
   refine V.mv (v := .p (.v (.int .i64 ((_ : Nat) : Int)))) rfl ?_
   refine Sd.gy rfl rfl (lk rfl) (lk rfl) ?_
   refine V.mv (v := .p (.v (.int .i64 ((_ : Nat) : Int)))) rfl ?_
   refine Sd.gy rfl rfl (lk rfl) (lk rfl) ?_
   refine V.subI rfl rfl (by omega) ?_
   refine Sd.gy rfl rfl (lk rfl) (lk rfl) ?_
   refine V.bin (a := (.v (.int .i64 (1)))) (b := (.v (.int .i64 _))) (r := .v (.int .i64 _)) rfl rfl rfl (by first | rfl | omega | (simp; done) | (simp; omega)) ?_
   refine Sd.gy rfl rfl (lk rfl) (lk rfl) ?_
   refine V.subI rfl rfl (by omega) ?_
   refine Sd.gy rfl rfl (lk rfl) (lk rfl) ?_
   refine V.bin (a := (.v (.int .i64 ((_ : Nat) : Int)))) (b := (.v (.int .i64 _))) (r := .v (.int .i64 _)) rfl rfl rfl trivial ?_
   refine Sd.gy rfl rfl (lk rfl) (lk rfl) ?_
   refine V.call [.p (.bs _), .p (.v (.int .i64 _)), .p (.v (.int .i64 _))] 1 rfl rfl rfl rfl ⟨trivial, trivial, trivial, trivial⟩ trivial ((rsecF e 1 ((l / 2 ^ (d - 1) : Nat) : Int)), ((d - 1 : Nat) : Int), ((l % 2 ^ (d - 1) : Nat) : Int)) ⟨.refl _, le_int (by omega), le_int (by rw [hsh1]; exact and_pow (by omega) (by omega)), trivial⟩ trivial (by trivial) (Φ := fun _ => True) (fun _ _ => trivial) (.inl ⟨trivial, trivial, trivial, trivial⟩) (v := .p (.bs _)) rfl (fun h7 => ?_)
   refine Sd.gy rfl rfl (lk rfl) (lk rfl) ?_
   refine V.cvBs ty9 rfl rfl ?_
   refine Sd.gy rfl rfl (lk rfl) (lk rfl) ?_
   refine V.bin (a := (.str _)) (b := (.str _)) (r := .v (.bool _)) rfl rfl rfl trivial ?_
   refine Sd.n (lk rfl) (V.pkTrue (u := .p (.v (.bool _))) rfl rfl (Sd.n (lk rfl) (V.mv (v := .p (.v (.bool _))) rfl ?_)))
   refine Sd.gd rfl rfl (lk rfl) (lk rfl) (fun h8 => ?_) (fun h8 => ?_)
   ·have h8 := of_decide_eq_true h8
    refine V.mv (v := .p (.bs _)) rfl ?_
    refine Sd.gy rfl rfl (lk rfl) (lk rfl) ?_
    refine V.call [.p (.bs _), .p (.v (.int .i64 _)), .p (.v (.int .i64 _))] 1 rfl rfl rfl rfl ⟨trivial, trivial, trivial, trivial⟩ trivial (_, _, _) ⟨.refl _, .refl _, .refl _, trivial⟩ trivial (by trivial) (Φ := fun _ => True) (fun _ _ => trivial) (.inl ⟨trivial, trivial, trivial, trivial⟩) (v := .p (.bs _)) rfl (fun h9 => ?_)
    refine Sd.gy rfl rfl (lk rfl) (lk rfl) ?_
    refine V.cvBs ty9 rfl rfl ?_
    refine Sd.gy rfl rfl (lk rfl) (lk rfl) ?_
    refine V.mv (v := .p (.bs _)) rfl ?_
    refine Sd.gy rfl rfl (lk rfl) (lk rfl) ?_
    refine V.cvBs ty9 rfl rfl ?_
    refine Sd.gy rfl rfl (lk rfl) (lk rfl) ?_
    refine V.bin (a := (.str _)) (b := (.str _)) (r := .v (.bool _)) rfl rfl rfl trivial ?_
    refine Sd.n (lk rfl) (V.pkTrue (u := .p (.v (.bool _))) rfl rfl (Sd.n (lk rfl) (V.as (v := .p (.v (.bool _))) rfl (Sd.e ?_))))
    show HT _ _ _ _ _
    refine HT.ret ?_
    exact ret_ok (sg []) h rfl rfl rfl trivial ⟨trivial, trivial⟩ rfl ⟨⟨⟨le_bool (by first | with_reducible rfl | exact decide_eq_true (by first | omega | exact congrArg PV.str (leaves (by omega) (by omega) (by omega) hll) | exact leaves (by omega) (by omega) (by omega) hll | exact leaf_0 (by omega) | (rw [(half_len (by omega) (by omega) hll).1]; rfl) | (rw [sec_len_no (by omega)]; rfl))), trivial⟩, trivial⟩, trivial⟩
   ·have h8 := of_decide_eq_false h8
    first | exact absurd (by first | omega | exact congrArg PV.str (leaves (by omega) (by omega) (by omega) hll) | exact leaves (by omega) (by omega) (by omega) hll | exact leaf_0 (by omega) | (rw [(half_len (by omega) (by omega) hll).1]; rfl) | (rw [sec_len_no (by omega)]; rfl)) h8 | exact absurd h8 (by first | omega | exact congrArg PV.str (leaves (by omega) (by omega) (by omega) hll) | exact leaves (by omega) (by omega) (by omega) hll | exact leaf_0 (by omega) | (rw [(half_len (by omega) (by omega) hll).1]; rfl) | (rw [sec_len_no (by omega)]; rfl))
  ·have h5 := of_decide_eq_false h5
   first | exact absurd (by first | omega | exact congrArg PV.str (leaves (by omega) (by omega) (by omega) hll) | exact leaves (by omega) (by omega) (by omega) hll | exact leaf_0 (by omega) | (rw [(half_len (by omega) (by omega) hll).1]; rfl) | (rw [sec_len_no (by omega)]; rfl)) h5 | exact absurd h5 (by first | omega | exact congrArg PV.str (leaves (by omega) (by omega) (by omega) hll) | exact leaves (by omega) (by omega) (by omega) hll | exact leaf_0 (by omega) | (rw [(half_len (by omega) (by omega) hll).1]; rfl) | (rw [sec_len_no (by omega)]; rfl))
end Go.Vh
