/- What is proved: each function of the seat's program does what its contract says, wherever it is called; no condition. -/
import Derived.Test.YtmlkellnophlaaaDoorWalk0
import Derived.Test.YtmlkellnophlaaaDoorPure0
set_option linter.unusedVariables false
set_option linter.unusedSimpArgs false
set_option linter.unusedVariables false
set_option linter.unusedSimpArgs false
namespace Go.Vh
open Go Go.Vc Go.Proofs Go.Vw

/-! ### sodality/hkdf.Mac -/
def hmacSp : Sp := ⟨[], mkE (α := (List UInt8) × (List UInt8)) (fun (k, t) => [.p (.bs (k)), .p (.bs (t))]) (fun (k, t) => []) (fun (k, t) => k.length ≤ 1000000000 ∧ t.length ≤ 1000000000) (fun (k, t) => [.own 2 (0) (32)]) (fun (k, t) => [(2, ⟨5, 1, 32, true, .bs (mac k t)⟩)])⟩
def S_hmac : FuncId → Option Sp := fun f => if f = 22 then some shasumSp else if f = 35 then some newSp else if f = 49 then some padcSp else if f = 36 then some writeSp else if f = 37 then some hsumSp else none
theorem S_hmac_ok : ∀ f s, S_hmac f = some s → FOK Tryd.prog gl f s := fun f s h => by
  unfold S_hmac at h
  split at h
  · rename_i e; cases h; subst e; exact shasum_ok
  split at h
  · rename_i e; cases h; subst e; exact new_ok
  split at h
  · rename_i e; cases h; subst e; exact padc_ok
  split at h
  · rename_i e; cases h; subst e; exact write_ok
  split at h
  · rename_i e; cases h; subst e; exact hsum_ok
  cases h
theorem S_hmac_det : ∀ f s, S_hmac f = some s → SpDet s.sp := fun f s h => by
  unfold S_hmac at h
  split at h
  · cases h; exact mkE_det _ _ _ _ _
  split at h
  · cases h; exact mkE_det _ _ _ _ _
  split at h
  · cases h; exact mkE_det _ _ _ _ _
  split at h
  · cases h; exact mkE_det _ _ _ _ _
  split at h
  · cases h; exact mkE_det _ _ _ _ _
  cases h
set_option maxHeartbeats 1000000 in
set_option maxRecDepth 20000 in
theorem hmac_ok : FOK Tryd.prog gl 38 hmacSp := by
  refine FOK.ofE (tyOf_ok Tryd.prog) (slots := [4]) (nt := 29) Tryd.func38 rfl rfl rfl rfl (by decide) 2 (fun ⟨_, _⟩ => rfl) (by decide) (fun ⟨_, _⟩ => ⟨trivial, trivial, trivial⟩) ?_
  rintro ⟨k, t⟩ kk hlen hpre h
  have hl0 : (k).length ≤ 9223372036854775807 := hlen.1
  have hl1 : (t).length ≤ 9223372036854775807 := hlen.2.1
  replace hpre : k.length ≤ 1000000000 ∧ t.length ≤ 1000000000 := hpre
  show HT (cx Tryd.prog 29 (tyOf Tryd.prog) gl []) _ [(0, .p (.bs (k))), (1, .p (.bs (t)))] [] _
  have hk0 := key0_le k
  have hp1 := padF_len (key0 k) 54
  have hp2 := padF_len (key0 k) 92
  have hs0 := sha_len (padF (key0 k) 54 ++ t)
  have hs1 := sha_len (nl ++ padF (key0 k) 54 ++ t)
  have hj1 : (jn nl (padF (key0 k) 54)).length ≤ 64 := by rw [jn_len]; simp [rst]; omega
  have hj2 : (jn (nl ++ padF (key0 k) 54) t).length ≤ 1000000064 := by have := rst_len (nl ++ padF (key0 k) 54); rw [jn_len, List.length_append]; omega
  have hnl : (nl ++ padF (key0 k) 54).length = 64 := hp1
  have hnt : (nl ++ padF (key0 k) 54 ++ t).length = 64 + t.length := by rw [List.length_append, hnl]
  refine HT.seq ?_
  refine HT.region S_hmac_ok ?_
  refine So.n (lk rfl) (A.box1 1 (v := .p (.bs _)) rfl (by first | rfl | trivial) rfl rfl trivial ?_)
  refine So.q rfl rfl (V.as (v := .p (.v (.slice none 0 0))) rfl ?_)
  refine So.e ?_
  show HT _ _ _ _ _
  refine R.cut (True) [] [(1, ⟨22, 1, 1, true, .cells [.p (.bs (key0 k))]⟩)] [1, 2, 4] [] (fr0 := [(1, .p (.bs _)), (2, .ptr 1 0), (4, .p (.v (.slice none 0 0)))]) (O0 := []) rfl rfl ?_ (fun hphi => ?_)
  · refine HT.seq ?_
    refine HT.region S_hmac_ok ?_
    refine So.q rfl rfl (V.ldPtr ty22 rfl rfl rfl (lk rfl) (v := .p (.bs _)) rfl ?_)
    refine So.q rfl rfl (V.len ty22 (v := .p (.bs _)) rfl rfl ?_)
    refine So.q rfl rfl (V.bin (a := (.v (.int .i64 _))) (b := (.v (.int .i64 (64)))) (r := .v (.bool _)) rfl rfl rfl trivial ?_)
    refine So.e ?_
    show HT _ _ _ _ _
    refine R.cond rfl rfl (fun h1 => ?_) (fun h1 => ?_)
    · have h1 := of_decide_eq_true h1
      refine HT.region S_hmac_ok ?_
      refine So.q rfl rfl (V.ldPtr ty22 rfl rfl rfl (lk rfl) (v := .p (.bs _)) rfl ?_)
      refine So.n (lk rfl) (A.call0F S_hmac_ok [.p (.bs _)] 2 rfl rfl rfl rfl ⟨trivial, trivial⟩ trivial _ ⟨.refl _, trivial⟩ trivial (by first | omega | (simp; done) | (simp; omega)) (Φ := fun _ => True) (fun _ _ => trivial) (.inl rfl) (t := 4) (off := 0) rfl (O' := (4, ⟨5, 1, _, true, .bs _⟩) :: _) rfl rfl rfl (y := .p (.bs _)) rfl rfl (fun h2 => ?_))
      refine So.s (A.sto ty22 rfl rfl rfl (v := .p (.bs _)) rfl trivial rfl (lk rfl) rfl rfl ?_)
      refine So.e ?_
      exact ⟨by first | trivial | (unfold key0; rw [if_pos (by omega)]; rfl) | (unfold key0; rw [if_pos (by omega), ap_sha k]; rfl) | (unfold key0; rw [if_neg (by omega)]; done) | (unfold key0; rw [if_neg (by omega)]; rfl), ⟨⟨⟨.refl _, trivial⟩, ⟨.refl _, rfl⟩, ⟨.refl _, trivial⟩, trivial⟩, ⟨⟨_, rfl, .inl (by first | rfl | ((try dsimp only); first | trivial | (unfold key0; rw [if_pos (by omega)]; rfl) | (unfold key0; rw [if_pos (by omega), ap_sha k]; rfl) | (unfold key0; rw [if_neg (by omega)]; done) | (unfold key0; rw [if_neg (by omega)]; rfl))), ⟨trivial, trivial⟩⟩, trivial⟩⟩⟩
    · have h1 := of_decide_eq_false h1
      refine HT.skip ?_
      exact ⟨by first | trivial | (unfold key0; rw [if_pos (by omega)]; rfl) | (unfold key0; rw [if_pos (by omega), ap_sha k]; rfl) | (unfold key0; rw [if_neg (by omega)]; done) | (unfold key0; rw [if_neg (by omega)]; rfl), ⟨⟨⟨.refl _, trivial⟩, ⟨.refl _, rfl⟩, ⟨.refl _, trivial⟩, trivial⟩, ⟨⟨_, rfl, .inl (by first | rfl | ((try dsimp only); first | trivial | (unfold key0; rw [if_pos (by omega)]; rfl) | (unfold key0; rw [if_pos (by omega), ap_sha k]; rfl) | (unfold key0; rw [if_neg (by omega)]; done) | (unfold key0; rw [if_neg (by omega)]; rfl))), ⟨trivial, trivial⟩⟩, trivial⟩⟩⟩
  · refine HT.seq ?_
    refine HT.region S_hmac_ok ?_
    refine So.n (lk rfl) (A.mkf (cs := [.ptr 1 _]) rfl rfl ?_)
    refine So.q rfl rfl (V.as (v := .clo 49 [.ptr 1 _]) rfl ?_)
    refine So.e ?_
    show HT _ _ _ _ _
    refine HT.seq ?_
    refine HT.region S_hmac_ok ?_
    refine So.n (lk rfl) (A.call0 [] 2 rfl rfl rfl rfl trivial trivial () trivial trivial (by trivial) (Φ := fun _ => True) (fun _ _ => trivial) (.inl rfl) (v := .ptr 3 0) rfl (O' := (3, ⟨67, 1, _, true, .cells _⟩) :: (4, ⟨5, 1, _, true, .bs _⟩) :: _) rfl (fun h3 => ?_))
    refine So.q rfl rfl (V.as (v := .ptr 3 0) rfl ?_)
    refine So.e ?_
    show HT _ _ _ _ _
    refine HT.seq ?_
    refine HT.region S_hmac_ok ?_
    refine So.q rfl rfl (V.mv (v := .ptr 3 0) rfl ?_)
    refine So.q rfl rfl (V.mv (v := .clo 49 [.ptr 1 _]) rfl ?_)
    refine So.n (lk rfl) (A.call [.p (.u8 _), .ptr 1 _] [(1, ⟨_, _, _, _, .cells [.p (.bs _)]⟩)] (sg [(1, 1)]) 5 rfl rfl rfl rfl ⟨rfl, trivial⟩ rfl ⟨⟨trivial, trivial⟩, trivial⟩ ⟨trivial, rfl, trivial⟩ trivial rfl (54, key0 k) ⟨.refl _, .refl _, trivial⟩ ⟨⟨_, rfl, .inl rfl, ⟨trivial, trivial⟩⟩, trivial⟩ (by first | omega | exact key0_le _) (Φ := fun _ => True) (fun _ _ => trivial) ⟨⟨_, _, rfl, rfl, rfl, Nat.le_refl _⟩, trivial⟩ (.inl rfl) rfl (v := .own 7 0 _) rfl (O' := (1, ⟨_, _, _, _, .cells _⟩) :: (7, ⟨_, _, _, _, .bs _⟩) :: _) rfl (fun h4 => ?_))
    refine So.n (lk rfl) (A.call [.ptr 1 _, .p (.bs _)] [(1, ⟨_, _, _, _, .cells [.p (.u32 _), .p (.u32 _), .p (.u32 _), .p (.u32 _), .p (.u32 _), .p (.u32 _), .p (.u32 _), .p (.u32 _), .own 2 _ _, .p (.u64 _)]⟩), (2, ⟨_, _, _, _, .bs _⟩)] (sg [(1, 3), (2, 4)]) 8 rfl rfl rfl rfl ⟨rfl, rfl, trivial⟩ rfl ⟨⟨trivial, trivial, trivial, trivial, trivial, trivial, trivial, trivial, rfl, trivial, trivial⟩, trivial, trivial⟩ ⟨rfl, trivial, trivial⟩ trivial rfl (nl, padF (key0 k) 54, nl) ⟨.refl _, le_bs (by rw [List.drop_zero, List.take_of_length_le (by omega)]), trivial⟩ ⟨⟨_, rfl, .inl rfl, ⟨trivial, trivial, trivial, trivial, trivial, trivial, trivial, trivial, rfl, trivial, trivial⟩⟩, ⟨_, rfl, .inl rfl, trivial⟩, trivial⟩ (by first | omega | (simp; done) | (simp; omega)) (Φ := fun _ => True) (fun _ _ => trivial) ⟨⟨_, _, rfl, rfl, rfl, Nat.le_refl _⟩, trivial⟩ (.inr ⟨fun _ hj => absurd hj (Nat.not_lt_zero _), by simp [Hp.scal, OC.scal, PV.scal, BV.scal]⟩) rfl (v := .tup 0 _) rfl (O' := (3, ⟨_, _, _, _, .cells _⟩) :: (10, ⟨_, _, _, _, .bs _⟩) :: _) rfl (fun h5 => ?_))
    refine So.e ?_
    show HT _ _ _ _ _
    refine HT.seq ?_
    refine R.norm [1, 4, 5, 6] [1, 3, 10] (fr0 := [(1, .p (.bs _)), (4, .p (.v (.slice none 0 0))), (5, .clo 49 [.ptr 1 _]), (6, .ptr 3 0)]) (O0 := [(1, ⟨_, _, _, _, .cells [.p (.bs _)]⟩), (3, ⟨_, _, _, _, .cells [.p (.u32 _), .p (.u32 _), .p (.u32 _), .p (.u32 _), .p (.u32 _), .p (.u32 _), .p (.u32 _), .p (.u32 _), .own 10 _ _, .p (.u64 _)]⟩), (10, ⟨_, _, _, _, .bs _⟩)]) rfl rfl ⟨⟨⟨.refl _, trivial⟩, ⟨.refl _, trivial⟩, ⟨.refl _, ⟨rfl, trivial⟩⟩, ⟨.refl _, rfl⟩, trivial⟩, ⟨⟨_, rfl, .inl rfl, ⟨trivial, trivial⟩⟩, ⟨_, rfl, .inl rfl, ⟨trivial, trivial, trivial, trivial, trivial, trivial, trivial, trivial, rfl, trivial, trivial⟩⟩, ⟨_, rfl, .inl rfl, trivial⟩, trivial⟩⟩ ?_
    refine HT.region S_hmac_ok ?_
    refine So.q rfl rfl (V.mv (v := .ptr 3 0) rfl ?_)
    refine So.q rfl rfl (V.mv (v := .p (.bs _)) rfl ?_)
    refine So.n (lk rfl) (A.call [.ptr 1 _, .p (.bs _)] [(1, ⟨_, _, _, _, .cells [.p (.u32 _), .p (.u32 _), .p (.u32 _), .p (.u32 _), .p (.u32 _), .p (.u32 _), .p (.u32 _), .p (.u32 _), .own 2 _ _, .p (.u64 _)]⟩), (2, ⟨_, _, _, _, .bs _⟩)] (sg [(1, 3), (2, 10)]) 11 rfl rfl rfl rfl ⟨rfl, rfl, trivial⟩ rfl ⟨⟨trivial, trivial, trivial, trivial, trivial, trivial, trivial, trivial, rfl, trivial, trivial⟩, trivial, trivial⟩ ⟨rfl, trivial, trivial⟩ trivial rfl (nl ++ padF (key0 k) 54, t, jn nl (padF (key0 k) 54)) ⟨.refl _, .refl _, trivial⟩ ⟨⟨_, rfl, .inl rfl, ⟨trivial, trivial, trivial, trivial, trivial, trivial, trivial, trivial, rfl, trivial, trivial⟩⟩, ⟨_, rfl, .inl rfl, trivial⟩, trivial⟩ (by first | omega | (simp; done) | (simp; omega)) (Φ := fun _ => True) (fun _ _ => trivial) ⟨⟨_, _, rfl, rfl, rfl, Nat.le_refl _⟩, trivial⟩ (.inl rfl) rfl (v := .tup 0 _) rfl (O' := (3, ⟨_, _, _, _, .cells _⟩) :: (13, ⟨_, _, _, _, .bs _⟩) :: _) rfl (fun h6 => ?_))
    refine So.e ?_
    show HT _ _ _ _ _
    refine HT.seq ?_
    refine R.norm [4, 5, 6] [1, 3, 13] (fr0 := [(4, .p (.v (.slice none 0 0))), (5, .clo 49 [.ptr 1 _]), (6, .ptr 3 0)]) (O0 := [(1, ⟨_, _, _, _, .cells [.p (.bs _)]⟩), (3, ⟨_, _, _, _, .cells [.p (.u32 _), .p (.u32 _), .p (.u32 _), .p (.u32 _), .p (.u32 _), .p (.u32 _), .p (.u32 _), .p (.u32 _), .own 13 _ _, .p (.u64 _)]⟩), (13, ⟨_, _, _, _, .bs _⟩)]) rfl rfl ⟨⟨⟨.refl _, trivial⟩, ⟨.refl _, ⟨rfl, trivial⟩⟩, ⟨.refl _, rfl⟩, trivial⟩, ⟨⟨_, rfl, .inl rfl, ⟨trivial, trivial⟩⟩, ⟨_, rfl, .inl rfl, ⟨trivial, trivial, trivial, trivial, trivial, trivial, trivial, trivial, rfl, trivial, trivial⟩⟩, ⟨_, rfl, .inl rfl, trivial⟩, trivial⟩⟩ ?_
    refine HT.region S_hmac_ok ?_
    refine So.q rfl rfl (V.mv (v := .ptr 3 0) rfl ?_)
    refine So.n (lk rfl) (A.call [.ptr 1 _] [(1, ⟨_, _, _, _, .cells [.p (.u32 _), .p (.u32 _), .p (.u32 _), .p (.u32 _), .p (.u32 _), .p (.u32 _), .p (.u32 _), .p (.u32 _), .own 2 _ _, .p (.u64 _)]⟩), (2, ⟨_, _, _, _, .bs _⟩)] (sg [(1, 3), (2, 13)]) 14 rfl rfl rfl rfl ⟨rfl, rfl, trivial⟩ rfl ⟨⟨trivial, trivial, trivial, trivial, trivial, trivial, trivial, trivial, rfl, trivial, trivial⟩, trivial, trivial⟩ ⟨rfl, trivial⟩ trivial rfl ((nl ++ padF (key0 k) 54) ++ t, jn (nl ++ padF (key0 k) 54) t) ⟨.refl _, trivial⟩ ⟨⟨_, rfl, .inl rfl, ⟨trivial, trivial, trivial, trivial, trivial, trivial, trivial, trivial, rfl, trivial, trivial⟩⟩, ⟨_, rfl, .inl rfl, trivial⟩, trivial⟩ (by first | omega | (simp [jn_len, rst]; omega)) (Φ := fun _ => True) (fun _ _ => trivial) ⟨⟨_, _, rfl, rfl, rfl, Nat.le_refl _⟩, ⟨_, _, rfl, rfl, rfl, Nat.le_refl _⟩, trivial⟩ (.inl rfl) rfl (v := .own 17 0 _) rfl (O' := (3, ⟨_, _, _, _, .cells _⟩) :: (13, ⟨_, _, _, _, .bs _⟩) :: (17, ⟨_, _, _, _, .bs _⟩) :: _) rfl (fun h7 => ?_))
    refine So.q rfl rfl (V.as (v := .own 17 0 _) rfl ?_)
    refine So.e ?_
    show HT _ _ _ _ _
    refine HT.seq ?_
    refine R.norm [4, 5, 7] [1, 17] (fr0 := [(4, .p (.v (.slice none 0 0))), (5, .clo 49 [.ptr 1 _]), (7, .own 17 0 _)]) (O0 := [(1, ⟨_, _, _, _, .cells [.p (.bs _)]⟩), (17, ⟨_, _, _, _, .bs _⟩)]) rfl rfl ⟨⟨⟨.refl _, trivial⟩, ⟨.refl _, ⟨rfl, trivial⟩⟩, ⟨.refl _, rfl⟩, trivial⟩, ⟨⟨_, rfl, .inl rfl, ⟨trivial, trivial⟩⟩, ⟨_, rfl, .inl rfl, trivial⟩, trivial⟩⟩ ?_
    refine HT.region S_hmac_ok ?_
    refine So.q rfl rfl (V.mv (v := .clo 49 [.ptr 1 _]) rfl ?_)
    refine So.n (lk rfl) (A.call [.p (.u8 _), .ptr 1 _] [(1, ⟨_, _, _, _, .cells [.p (.bs _)]⟩)] (sg [(1, 1)]) 18 rfl rfl rfl rfl ⟨rfl, trivial⟩ rfl ⟨⟨trivial, trivial⟩, trivial⟩ ⟨trivial, rfl, trivial⟩ trivial rfl (92, key0 k) ⟨.refl _, .refl _, trivial⟩ ⟨⟨_, rfl, .inl rfl, ⟨trivial, trivial⟩⟩, trivial⟩ (by first | omega | exact key0_le _) (Φ := fun _ => True) (fun _ _ => trivial) ⟨⟨_, _, rfl, rfl, rfl, Nat.le_refl _⟩, trivial⟩ (.inl rfl) rfl (v := .own 20 0 _) rfl (O' := (1, ⟨_, _, _, _, .cells _⟩) :: (20, ⟨_, _, _, _, .bs _⟩) :: _) rfl (fun h8 => ?_))
    refine So.q rfl rfl (V.mv (v := .own 17 0 _) rfl ?_)
    refine So.n (lk rfl) (A.apOwn ty22 ty5 rfl rfl rfl rfl (u := .own 17 0 _) rfl rfl (l' := padF (key0 k) 92 ++ sha (padF (key0 k) 54 ++ t)) (by rw [ap_full (by omega)]; rw [List.drop_zero, List.take_of_length_le (by omega)]; rfl) (mn := 96) (by rfl) (by first | rfl | omega | (simp; done) | (simp; omega)) rfl rfl rfl ?_)
    refine So.n (lk rfl) (A.call0 [.p (.bs _)] 21 rfl rfl rfl rfl ⟨trivial, trivial⟩ trivial (padF (key0 k) 92 ++ sha (padF (key0 k) 54 ++ t)) ⟨le_bs (by rw [List.drop_zero, List.take_of_length_le (by rw [List.length_append]; omega)]), trivial⟩ trivial (by first | omega | (simp; done) | (simp; omega)) (Φ := fun _ => True) (fun _ _ => trivial) (.inr ⟨trivial, by simp [Hp.scal, OC.scal, PV.scal, BV.scal]⟩) (v := .own 23 0 _) rfl (O' := (23, ⟨5, 1, _, true, .bs _⟩) :: _) rfl (fun h9 => ?_))
    refine So.q rfl rfl (V.as (v := .own 23 0 _) rfl ?_)
    refine So.e ?_
    show HT _ _ _ _ _
    refine HT.ret ?_
    exact ret_ok (sg [(2, 23)]) h rfl rfl rfl ⟨trivial, trivial⟩ ⟨rfl, trivial⟩ rfl ⟨⟨⟨le_own2 (by first | rfl | omega) (by first | (unfold mac; rfl) | rfl), rfl⟩, trivial⟩, ⟨⟨_, rfl, .inl (ob_bs (by first | rfl | ((try dsimp only); (first | (unfold mac; rfl) | rfl))) (by first | rfl | ((try dsimp only); (first | (unfold mac; rfl) | rfl)))), trivial⟩, trivial⟩⟩

end Go.Vh

set_option linter.unusedVariables false
set_option linter.unusedSimpArgs false
namespace Go.Vh
open Go Go.Vc Go.Proofs Go.Vw

/-! ### sodality/hkdf.Extract -/
def extractSp : Sp := ⟨[], mkE (α := (List UInt8) × (List UInt8)) (fun (k, t) => [.p (.bs (k)), .p (.bs (t))]) (fun (k, t) => []) (fun (k, t) => k.length ≤ 1000000000 ∧ t.length ≤ 1000000000) (fun (k, t) => [.own 2 (0) (32)]) (fun (k, t) => [(2, ⟨5, 1, 32, true, .bs (mac k t)⟩)])⟩
def S_extract : FuncId → Option Sp := fun f => if f = 38 then some hmacSp else none
theorem S_extract_ok : ∀ f s, S_extract f = some s → FOK Tryd.prog gl f s := fun f s h => by
  unfold S_extract at h
  split at h
  · rename_i e; cases h; subst e; exact hmac_ok
  cases h
theorem S_extract_det : ∀ f s, S_extract f = some s → SpDet s.sp := fun f s h => by
  unfold S_extract at h
  split at h
  · cases h; exact mkE_det _ _ _ _ _
  cases h
set_option maxHeartbeats 1000000 in
set_option maxRecDepth 1000 in
theorem extract_ok : FOK Tryd.prog gl 23 extractSp := by
  refine FOK.ofE (tyOf_ok Tryd.prog) (slots := [4]) (nt := 8) Tryd.func23 rfl rfl rfl rfl (by decide) 2 (fun ⟨_, _⟩ => rfl) (by decide) (fun ⟨_, _⟩ => ⟨trivial, trivial, trivial⟩) ?_
  rintro ⟨k, t⟩ kk hlen hpre h
  have hl0 : (k).length ≤ 9223372036854775807 := hlen.1
  have hl1 : (t).length ≤ 9223372036854775807 := hlen.2.1
  replace hpre : k.length ≤ 1000000000 ∧ t.length ≤ 1000000000 := hpre
  show HT (cx Tryd.prog 8 (tyOf Tryd.prog) gl []) _ [(0, .p (.bs (k))), (1, .p (.bs (t)))] [] _
  refine HT.seq ?_
  refine HT.region S_extract_ok ?_
  refine So.q rfl rfl (V.as (v := .p (.v (.slice none 0 0))) rfl ?_)
  refine So.e ?_
  show HT _ _ _ _ _
  refine HT.seq ?_
  refine HT.region S_extract_ok ?_
  refine So.q rfl rfl (V.mv (v := .p (.bs _)) rfl ?_)
  refine So.q rfl rfl (V.mv (v := .p (.bs _)) rfl ?_)
  refine So.n (lk rfl) (A.call0 [.p (.bs _), .p (.bs _)] 1 rfl rfl rfl rfl ⟨trivial, trivial, trivial⟩ trivial (_, _) ⟨.refl _, .refl _, trivial⟩ trivial (by first | omega | (simp only [List.drop_zero, List.take_length]; omega) | (simp; done) | (simp; omega)) (Φ := fun _ => True) (fun _ _ => trivial) (.inl rfl) (v := .own 3 0 _) rfl (O' := (3, ⟨5, 1, _, true, .bs _⟩) :: _) rfl (fun h1 => ?_))
  refine So.q rfl rfl (V.as (v := .own 3 0 _) rfl ?_)
  refine So.e ?_
  show HT _ _ _ _ _
  refine HT.ret ?_
  exact ret_ok (sg [(2, 3)]) h rfl rfl rfl ⟨trivial, trivial⟩ ⟨rfl, trivial⟩ rfl ⟨⟨⟨le_own2 (by first | rfl | omega) (by first | rfl | omega | (simp; done) | (simp; omega)), rfl⟩, trivial⟩, ⟨⟨_, rfl, .inl (ob_bs (by first | rfl | ((try dsimp only); (first | rfl | omega | (simp; done) | (simp; omega)))) (by first | rfl | ((try dsimp only); (first | rfl | omega | (simp; done) | (simp; omega))))), trivial⟩, trivial⟩⟩

end Go.Vh

set_option linter.unusedVariables false
set_option linter.unusedSimpArgs false
namespace Go.Vh
open Go Go.Vc Go.Proofs Go.Vw

/-! ### slices.Grow[[]byte,byte] -/
def growSp : Sp := ⟨[], mkE (α := Int) (fun n => [.p (.v (.slice none 0 0)), .p (.v (.int .i64 (n)))]) (fun n => []) (fun n => 0 ≤ n ∧ n ≤ 1099511627776) (fun n => [.own 2 (0) (0)]) (fun n => [(2, ⟨5, 1, n.toNat, true, .bs (List.replicate n.toNat 0)⟩)])⟩
def S_grow : FuncId → Option Sp := fun _ => none
theorem S_grow_ok : ∀ f s, S_grow f = some s → FOK Tryd.prog gl f s := fun f s h => by cases h
theorem S_grow_det : ∀ f s, S_grow f = some s → SpDet s.sp := fun f s h => by cases h
set_option maxHeartbeats 1000000 in
set_option maxRecDepth 1000 in
theorem grow_ok : FOK Tryd.prog gl 46 growSp := by
  refine FOK.ofE (tyOf_ok Tryd.prog) (slots := [4]) (nt := 27) Tryd.func46 rfl rfl rfl rfl (by decide) 2 (fun _ => rfl) (by decide) (fun _ => ⟨trivial, trivial, trivial⟩) ?_
  rintro n kk hlen hpre h
  replace hpre : 0 ≤ n ∧ n ≤ 1099511627776 := hpre
  show HT (cx Tryd.prog 27 (tyOf Tryd.prog) gl []) _ [(0, .p (.v (.slice none 0 0))), (1, .p (.v (.int .i64 (n))))] [] _
  refine HT.seq ?_
  refine HT.region S_grow_ok ?_
  refine So.q rfl rfl (V.as (v := .p (.v (.slice none 0 0))) rfl ?_)
  refine So.e ?_
  show HT _ _ _ _ _
  refine HT.seq ?_
  refine HT.seq ?_
  refine HT.region S_grow_ok ?_
  refine So.q rfl rfl (V.mv (v := .p (.v (.int .i64 _))) rfl ?_)
  refine So.q rfl rfl (V.bin (a := (.v (.int .i64 _))) (b := (.v (.int .i64 (0)))) (r := .v (.bool _)) rfl rfl rfl trivial ?_)
  refine So.e ?_
  show HT _ _ _ _ _
  refine R.cond rfl rfl (fun h1 => ?_) (fun h1 => ?_)
  · have h1 := of_decide_eq_true h1
    exact absurd h1 (by omega)
  · have h1 := of_decide_eq_false h1
    refine HT.skip ?_
    show HT _ _ _ _ _
    refine HT.seq ?_
    refine HT.seq ?_
    refine HT.region S_grow_ok ?_
    refine So.q rfl rfl (V.mv (v := .p (.v (.int .i64 _))) rfl ?_)
    refine So.q rfl rfl (V.mv (v := .p (.v (.slice none 0 0))) rfl ?_)
    refine So.n (lk rfl) (A.cap0 ty22 rfl ?_)
    refine So.q rfl rfl (V.mv (v := .p (.v (.slice none 0 0))) rfl ?_)
    refine So.q rfl rfl (V.len ty22 (v := .p (.v (.slice none 0 0))) rfl rfl ?_)
    refine So.q rfl rfl (V.subI rfl rfl (by omega) ?_)
    refine So.q rfl rfl (V.subI rfl rfl (by omega) ?_)
    refine So.q rfl rfl (V.as (v := .p (.v (.int .i64 _))) rfl ?_)
    refine So.e ?_
    show HT _ _ _ _ _
    refine HT.seq ?_
    refine HT.region S_grow_ok ?_
    refine So.q rfl rfl (V.mv (v := .p (.v (.int .i64 _))) rfl ?_)
    refine So.q rfl rfl (V.bin (a := (.v (.int .i64 _))) (b := (.v (.int .i64 (0)))) (r := .v (.bool _)) rfl rfl rfl trivial ?_)
    refine So.e ?_
    show HT _ _ _ _ _
    refine R.cond rfl rfl (fun h2 => ?_) (fun h2 => ?_)
    · have h2 := of_decide_eq_true h2
      refine HT.region S_grow_ok ?_
      refine So.q rfl rfl (V.mv (v := .p (.v (.slice none 0 0))) rfl ?_)
      refine So.q rfl rfl (V.mv (v := .p (.v (.slice none 0 0))) rfl ?_)
      refine So.n (lk rfl) (A.cap0 ty22 rfl ?_)
      refine So.q rfl rfl (V.cutNil ty22 ty5 rfl rfl rfl (by omega) (.inl rfl) ?_)
      refine So.q rfl rfl (V.mv (v := .p (.v (.int .i64 _))) rfl ?_)
      refine So.n (lk rfl) (A.apz 1 ty22 ty3 ty5 rfl rfl rfl (by first | rfl | omega | (simp; done) | (simp; omega)) rfl rfl trivial ?_)
      refine So.q rfl rfl (V.mv (v := .p (.v (.slice none 0 0))) rfl ?_)
      refine So.q rfl rfl (V.len ty22 (v := .p (.v (.slice none 0 0))) rfl rfl ?_)
      refine So.q rfl rfl (V.cutOwnH ty22 ty5 rfl rfl rfl rfl (by omega) (.inl rfl) rfl ?_)
      refine So.q rfl rfl (V.as (v := .own 1 0 _) rfl ?_)
      refine So.e ?_
      show HT _ _ _ _ _
      refine HT.seq ?_
      refine HT.region S_grow_ok ?_
      refine So.q rfl rfl (V.mv (v := .own 1 0 _) rfl ?_)
      refine So.q rfl rfl (V.as (v := .own 1 0 _) rfl ?_)
      refine So.e ?_
      show HT _ _ _ _ _
      refine HT.ret ?_
      exact ret_ok (sg [(2, 1)]) h rfl rfl rfl ⟨trivial, trivial⟩ ⟨rfl, trivial⟩ rfl ⟨⟨⟨le_own2 (by first | rfl | omega) (by first | rfl | omega | (simp; done) | (rw [show n.toNat = 0 by omega]; rfl) | (rw [show (n - (0 - 0)).toNat = n.toNat by omega])), rfl⟩, trivial⟩, ⟨⟨_, rfl, .inl (ob_bs (by first | rfl | ((try dsimp only); (first | rfl | omega | (simp; done) | (rw [show n.toNat = 0 by omega]; rfl) | (rw [show (n - (0 - 0)).toNat = n.toNat by omega])))) (by first | rfl | ((try dsimp only); (first | rfl | omega | (simp; done) | (rw [show n.toNat = 0 by omega]; rfl) | (rw [show (n - (0 - 0)).toNat = n.toNat by omega]))))), trivial⟩, trivial⟩⟩
    · have h2 := of_decide_eq_false h2
      refine HT.skip ?_
      show HT _ _ _ _ _
      refine HT.seq ?_
      refine HT.region S_grow_ok ?_
      refine So.q rfl rfl (V.mv (v := .p (.v (.slice none 0 0))) rfl ?_)
      refine So.q rfl rfl (V.as (v := .p (.v (.slice none 0 0))) rfl ?_)
      refine So.e ?_
      show HT _ _ _ _ _
      refine R.phan 4 1 5 1 (.bs []) rfl rfl rfl ⟨rfl, rfl⟩ ?_
      refine HT.ret ?_
      exact ret_ok (sg [(2, 1)]) h rfl rfl rfl ⟨trivial, trivial⟩ ⟨rfl, trivial⟩ rfl ⟨⟨⟨le_own2 (by first | rfl | omega) (by first | rfl | omega | (simp; done) | (rw [show n.toNat = 0 by omega]; rfl) | (rw [show (n - (0 - 0)).toNat = n.toNat by omega])), rfl⟩, trivial⟩, ⟨⟨_, rfl, .inl (ob_bs (by first | rfl | ((try dsimp only); (first | rfl | omega | (simp; done) | (rw [show n.toNat = 0 by omega]; rfl) | (rw [show (n - (0 - 0)).toNat = n.toNat by omega])))) (by first | rfl | ((try dsimp only); (first | rfl | omega | (simp; done) | (rw [show n.toNat = 0 by omega]; rfl) | (rw [show (n - (0 - 0)).toNat = n.toNat by omega]))))), trivial⟩, trivial⟩⟩

end Go.Vh

set_option linter.unusedVariables false
set_option linter.unusedSimpArgs false
namespace Go.Vh
open Go Go.Vc Go.Proofs Go.Vw

/-! ### slices.Concat[[]byte,byte] -/
def concatSp : Sp := ⟨[], mkE (α := (List (List UInt8))) (fun l => [.p (.sl (l).length 1 (fun j => .bs ((l).getD j [])))]) (fun l => []) (fun l => (cat l).length ≤ 1099511627776) (fun l => [.own 2 (0) ((cat l).length)]) (fun l => [(2, ⟨5, 1, (cat l).length, true, .bs (cat l)⟩)])⟩
def S_concat : FuncId → Option Sp := fun f => if f = 46 then some growSp else none
theorem S_concat_ok : ∀ f s, S_concat f = some s → FOK Tryd.prog gl f s := fun f s h => by
  unfold S_concat at h
  split at h
  · rename_i e; cases h; subst e; exact grow_ok
  cases h
theorem S_concat_det : ∀ f s, S_concat f = some s → SpDet s.sp := fun f s h => by
  unfold S_concat at h
  split at h
  · cases h; exact mkE_det _ _ _ _ _
  cases h
set_option maxHeartbeats 1000000 in
set_option maxRecDepth 1000 in
theorem concat_ok : FOK Tryd.prog gl 33 concatSp := by
  refine FOK.ofE (tyOf_ok Tryd.prog) (slots := [2]) (nt := 36) Tryd.func33 rfl rfl rfl rfl (by decide) 1 (fun _ => rfl) (by decide) (fun _ => ⟨trivial, trivial⟩) ?_
  rintro l kk hlen hpre h
  have hl0 : (l).length ≤ 9223372036854775807 := hlen.1
  replace hpre : (cat l).length ≤ 1099511627776 := hpre
  show HT (cx Tryd.prog 36 (tyOf Tryd.prog) gl []) _ [(0, .p (.sl (l).length 1 (fun j => .bs ((l).getD j []))))] [] _
  have hle := cat_take_le l
  refine HT.seq ?_
  refine HT.region S_concat_ok ?_
  refine So.q rfl rfl (V.as (v := .p (.v (.slice none 0 0))) rfl ?_)
  refine So.e ?_
  show HT _ _ _ _ _
  refine HT.seq ?_
  refine HT.region S_concat_ok ?_
  refine So.q rfl rfl (V.as (v := .p (.v (.int .i64 (0)))) rfl ?_)
  refine So.e ?_
  show HT _ _ _ _ _
  refine HT.seq ?_
  refine HT.seq ?_
  refine HT.region S_concat_ok ?_
  refine So.q rfl rfl (V.mv (v := .p (.sl _ 1 _)) rfl ?_)
  refine So.q rfl rfl (V.len ty52 (v := .p (.sl _ 1 _)) rfl rfl ?_)
  refine So.q rfl rfl (V.mv (v := .p (.v (.int .i64 (0)))) rfl ?_)
  refine So.e ?_
  show HT _ _ _ _ _
  refine HT.block ?_
  refine R.loop (σ := Nat) (fun s => [(3, .p (.v (.int .i64 ((((cat (l.take s)).length : Nat) : Int))))), (11, .p (.v (.int .i64 ((s : Int)))))]) (fun s => []) [0, 2, 9, 10] [] (fun s => s ≤ l.length) (fun s => l.length - s) (0) (fr0 := [(0, .p (.sl _ 1 _)), (2, .p (.v (.slice none 0 0))), (9, .p (.sl _ 1 _)), (10, .p (.v (.int .i64 _)))]) (O0 := []) rfl rfl (by first | rfl | omega | (simp; done) | (simp; omega)) ⟨⟨⟨le_int (by first | rfl | omega | (simp [cat]; done)), trivial⟩, ⟨le_int (by first | rfl | omega | (simp [cat]; done)), trivial⟩, ⟨.refl _, trivial⟩, ⟨.refl _, trivial⟩, ⟨.refl _, trivial⟩, ⟨.refl _, trivial⟩, trivial⟩, trivial⟩ (fun s hP0 => ?_)
  refine HT.seq ?_
  refine HT.region S_concat_ok ?_
  refine So.q rfl rfl (V.bin (a := (.v (.int .i64 ((_ : Nat) : Int)))) (b := (.v (.int .i64 _))) (r := .v (.bool _)) rfl rfl rfl trivial ?_)
  refine So.e ?_
  show HT _ _ _ _ _
  refine HT.seq ?_
  refine R.cond rfl rfl (fun h1 => ?_) (fun h1 => ?_)
  · have h1 := of_decide_eq_true h1
    refine HT.skip ?_
    show HT _ _ _ _ _
    refine HT.seq ?_
    refine HT.block ?_
    refine HT.seq ?_
    refine HT.region S_concat_ok ?_
    have hct := congrArg List.length (cat_take l (k := s) (by omega))
    rw [List.length_append] at hct
    have hc1 := hle (s + 1)
    refine So.q rfl rfl (V.ixSl1 (mi := s) ty52 ty22 rfl rfl rfl (by omega) (by omega) ?_)
    refine So.q rfl rfl (V.ldRp ty22 rfl rfl (lk rfl) (v := (.bs _)) rfl ?_)
    refine So.q rfl rfl (V.as (v := .p (.bs _)) rfl ?_)
    refine So.e ?_
    show HT _ _ _ _ _
    refine HT.seq ?_
    refine HT.region S_concat_ok ?_
    refine So.q rfl rfl (V.mv (v := .p (.v (.int .i64 _))) rfl ?_)
    refine So.q rfl rfl (V.mv (v := .p (.bs _)) rfl ?_)
    refine So.q rfl rfl (V.len ty22 (v := .p (.bs _)) rfl rfl ?_)
    refine So.q rfl rfl (V.addI rfl rfl (by omega) ?_)
    refine So.q rfl rfl (V.as (v := .p (.v (.int .i64 _))) rfl ?_)
    refine So.e ?_
    show HT _ _ _ _ _
    refine HT.seq ?_
    refine HT.region S_concat_ok ?_
    refine So.q rfl rfl (V.mv (v := .p (.v (.int .i64 _))) rfl ?_)
    refine So.q rfl rfl (V.bin (a := (.v (.int .i64 _))) (b := (.v (.int .i64 (0)))) (r := .v (.bool _)) rfl rfl rfl trivial ?_)
    refine So.e ?_
    show HT _ _ _ _ _
    refine R.cond rfl rfl (fun h2 => ?_) (fun h2 => ?_)
    · have h2 := of_decide_eq_true h2
      exact absurd h2 (by omega)
    · have h2 := of_decide_eq_false h2
      refine HT.skip ?_
      show HT _ _ _ _ _
      refine HT.region S_concat_ok ?_
      refine So.q rfl rfl (V.addI rfl rfl (by omega) ?_)
      refine So.q rfl rfl (V.mv (v := .p (.v (.int .i64 _))) rfl ?_)
      refine So.e ?_
      refine ⟨s + 1, by first | rfl | omega | (simp; done) | (simp; omega), by omega, ⟨⟨⟨le_int (by omega), trivial⟩, ⟨le_int (by first | rfl | omega | (simp; done) | (simp; omega)), trivial⟩, ⟨.refl _, trivial⟩, ⟨.refl _, trivial⟩, ⟨.refl _, trivial⟩, ⟨.refl _, trivial⟩, trivial⟩, trivial⟩⟩
  · have h1 := of_decide_eq_false h1
    refine HT.exit ?_
    show HT _ _ _ _ _
    refine HT.seq ?_
    refine HT.region S_concat_ok ?_
    have hs : s = l.length := by omega
    have hsl : cat (l.take s) = cat l := by rw [hs, List.take_length]
    have hc1 := hle s
    refine So.q rfl rfl (V.mv (v := .p (.v (.int .i64 _))) rfl ?_)
    refine So.n (lk rfl) (A.call0 [.p (.v (.slice none 0 0)), .p (.v (.int .i64 _))] 1 rfl rfl rfl rfl ⟨trivial, trivial, trivial⟩ trivial _ ⟨.refl _, .refl _, trivial⟩ trivial (by first | omega | (simp; done) | (simp; omega)) (Φ := fun _ => True) (fun _ _ => trivial) (.inl rfl) (v := .own 3 0 _) rfl (O' := (3, ⟨5, 1, _, true, .bs _⟩) :: _) rfl (fun h3 => ?_))
    refine So.q rfl rfl (V.as (v := .own 3 0 _) rfl ?_)
    refine So.e ?_
    show HT _ _ _ _ _
    refine HT.seq ?_
    refine HT.seq ?_
    refine HT.region S_concat_ok ?_
    refine So.q rfl rfl (V.mv (v := .p (.sl _ 1 _)) rfl ?_)
    refine So.q rfl rfl (V.len ty52 (v := .p (.sl _ 1 _)) rfl rfl ?_)
    refine So.q rfl rfl (V.mv (v := .p (.v (.int .i64 (0)))) rfl ?_)
    refine So.e ?_
    show HT _ _ _ _ _
    refine HT.block ?_
    refine R.loop (σ := Nat) (fun r => [(6, .own 3 (0) ((cat (l.take r)).length)), (27, .p (.v (.int .i64 ((r : Int)))))]) (fun r => [(3, ⟨5, 1, (cb l r).length, true, .bs (cb l r)⟩)]) [2, 25, 26] [] (fun r => r ≤ l.length) (fun r => l.length - r) (0) (fr0 := [(2, .p (.v (.slice none 0 0))), (25, .p (.sl _ 1 _)), (26, .p (.v (.int .i64 _)))]) (O0 := []) rfl rfl (by first | rfl | omega | (simp; done) | (simp; omega)) ⟨⟨⟨le_own2 (by first | rfl | omega) (by first | rfl | omega | (rw [hsl, cb_0]; simp; done) | (simp [cat]; done)), rfl⟩, ⟨le_int (by first | rfl | omega | (rw [hsl, cb_0]; simp; done) | (simp [cat]; done)), trivial⟩, ⟨.refl _, trivial⟩, ⟨.refl _, trivial⟩, ⟨.refl _, trivial⟩, trivial⟩, ⟨⟨_, rfl, .inl (ob_bs (by first | rfl | ((try dsimp only); first | rfl | omega | (rw [hsl, cb_0]; simp; done) | (simp [cat]; done))) (by first | rfl | ((try dsimp only); first | rfl | omega | (rw [hsl, cb_0]; simp; done) | (simp [cat]; done)))), trivial⟩, trivial⟩⟩ (fun r hP1 => ?_)
    refine HT.seq ?_
    refine HT.region S_concat_ok ?_
    refine So.q rfl rfl (V.bin (a := (.v (.int .i64 ((_ : Nat) : Int)))) (b := (.v (.int .i64 _))) (r := .v (.bool _)) rfl rfl rfl trivial ?_)
    refine So.e ?_
    show HT _ _ _ _ _
    refine HT.seq ?_
    refine R.cond rfl rfl (fun h4 => ?_) (fun h4 => ?_)
    · have h4 := of_decide_eq_true h4
      refine HT.skip ?_
      show HT _ _ _ _ _
      refine HT.seq ?_
      refine HT.block ?_
      refine HT.seq ?_
      refine HT.region S_concat_ok ?_
      refine So.q rfl rfl (V.ixSl1 (mi := r) ty52 ty22 rfl rfl rfl (by omega) (by omega) ?_)
      refine So.q rfl rfl (V.ldRp ty22 rfl rfl (lk rfl) (v := (.bs _)) rfl ?_)
      refine So.q rfl rfl (V.as (v := .p (.bs _)) rfl ?_)
      refine So.e ?_
      show HT _ _ _ _ _
      refine HT.region S_concat_ok ?_
      refine So.q rfl rfl (V.mv (v := .own 3 0 _) rfl ?_)
      refine So.q rfl rfl (V.mv (v := .p (.bs _)) rfl ?_)
      refine So.n (lk rfl) (A.apOwn ty22 ty5 rfl rfl rfl rfl (u := .p (.bs _)) rfl rfl (l' := cat (l.take (r + 1))) (by rw [cb_take]; exact (cat_take l (by omega)).symm) (mn := (cat (l.take (r + 1))).length) (by rw [cat_take l (by omega), List.length_append]) (by have := hle (r + 1); omega) rfl rfl rfl ?_)
      refine So.q rfl rfl (V.as (v := .own 3 0 _) rfl ?_)
      refine So.e ?_
      show HT _ _ _ _ _
      refine HT.region S_concat_ok ?_
      refine So.q rfl rfl (V.addI rfl rfl (by omega) ?_)
      refine So.q rfl rfl (V.mv (v := .p (.v (.int .i64 _))) rfl ?_)
      refine So.e ?_
      refine ⟨r + 1, by first | rfl | omega | (simp; done) | (simp; omega), by omega, ⟨⟨⟨le_own2 (by first | rfl | omega) (by first | rfl | omega | (simp; done) | (simp; omega)), rfl⟩, ⟨le_int (by first | rfl | omega | (simp; done) | (simp; omega)), trivial⟩, ⟨.refl _, trivial⟩, ⟨.refl _, trivial⟩, ⟨.refl _, trivial⟩, trivial⟩, ⟨⟨_, rfl, .inl (ob_bs (by first | rfl | (rw [cb_succ])) (by first | rfl | (rw [cb_succ]))), trivial⟩, trivial⟩⟩⟩
    · have h4 := of_decide_eq_false h4
      refine HT.exit ?_
      show HT _ _ _ _ _
      refine HT.seq ?_
      refine HT.region S_concat_ok ?_
      refine So.q rfl rfl (V.mv (v := .own 3 0 _) rfl ?_)
      refine So.q rfl rfl (V.as (v := .own 3 0 _) rfl ?_)
      refine So.e ?_
      show HT _ _ _ _ _
      refine HT.ret ?_
      exact ret_ok (sg [(2, 3)]) h rfl rfl rfl ⟨trivial, trivial⟩ ⟨rfl, trivial⟩ rfl ⟨⟨⟨le_own2 (by first | rfl | omega) (by first | rfl | (rw [← cb_end (l := l) (r := r) (by omega)]; done) | (rw [show r = l.length from (by omega), List.take_length]) | (rw [cb_end (l := l) (r := r) (by omega)])), rfl⟩, trivial⟩, ⟨⟨_, rfl, .inl (ob_bs (by first | rfl | ((try dsimp only); (first | rfl | (rw [← cb_end (l := l) (r := r) (by omega)]; done) | (rw [show r = l.length from (by omega), List.take_length]) | (rw [cb_end (l := l) (r := r) (by omega)])))) (by first | rfl | ((try dsimp only); (first | rfl | (rw [← cb_end (l := l) (r := r) (by omega)]; done) | (rw [show r = l.length from (by omega), List.take_length]) | (rw [cb_end (l := l) (r := r) (by omega)]))))), trivial⟩, trivial⟩⟩

end Go.Vh

set_option linter.unusedVariables false
set_option linter.unusedSimpArgs false
namespace Go.Vh
open Go Go.Vc Go.Proofs Go.Vw

/-! ### sodality/hkdf.pieces -/
def piecesSp : Sp := ⟨[], mkE (α := (List UInt8) × (List UInt8)) (fun (k, i) => [.p (.bs (k)), .p (.bs (i))]) (fun (k, i) => []) (fun (k, i) => True) (fun (k, i) => [.clo 55 [.ptr 2 0, .ptr 3 0]]) (fun (k, i) => [(2, ⟨22, 1, 1, true, .cells [.p (.bs (k))]⟩), (3, ⟨22, 1, 1, true, .cells [.p (.bs (i))]⟩)])⟩
def S_pieces : FuncId → Option Sp := fun _ => none
theorem S_pieces_ok : ∀ f s, S_pieces f = some s → FOK Tryd.prog gl f s := fun f s h => by cases h
theorem S_pieces_det : ∀ f s, S_pieces f = some s → SpDet s.sp := fun f s h => by cases h
set_option maxHeartbeats 1000000 in
set_option maxRecDepth 1000 in
theorem pieces_ok : FOK Tryd.prog gl 45 piecesSp := by
  refine FOK.ofE (tyOf_ok Tryd.prog) (slots := [4]) (nt := 6) Tryd.func45 rfl rfl rfl rfl (by decide) 2 (fun ⟨_, _⟩ => rfl) (by decide) (fun ⟨_, _⟩ => ⟨trivial, trivial, trivial⟩) ?_
  rintro ⟨k, i⟩ kk hlen hpre h
  have hl0 : (k).length ≤ 9223372036854775807 := hlen.1
  have hl1 : (i).length ≤ 9223372036854775807 := hlen.2.1
  replace hpre : True := hpre
  show HT (cx Tryd.prog 6 (tyOf Tryd.prog) gl []) _ [(0, .p (.bs (k))), (1, .p (.bs (i)))] [] _
  refine HT.seq ?_
  refine HT.region S_pieces_ok ?_
  refine So.n (lk rfl) (A.box1 1 (v := .p (.bs _)) rfl (by first | rfl | trivial) rfl rfl trivial ?_)
  refine So.n (lk rfl) (A.box1 2 (v := .p (.bs _)) rfl (by first | rfl | trivial) rfl rfl trivial ?_)
  refine So.q rfl rfl (V.as (v := _) rfl ?_)
  refine So.e ?_
  show HT _ _ _ _ _
  refine HT.seq ?_
  refine HT.region S_pieces_ok ?_
  refine So.n (lk rfl) (A.mkf (cs := [.ptr 1 _, .ptr 2 _]) rfl rfl ?_)
  refine So.q rfl rfl (V.as (v := .clo 55 [.ptr 1 _, .ptr 2 _]) rfl ?_)
  refine So.e ?_
  show HT _ _ _ _ _
  refine HT.ret ?_
  exact ret_ok (sg [(2, 1), (3, 2)]) h rfl rfl rfl ⟨⟨trivial, trivial⟩, ⟨trivial, trivial⟩, trivial⟩ ⟨⟨rfl, rfl, trivial⟩, trivial⟩ rfl ⟨⟨⟨.refl _, ⟨rfl, rfl, trivial⟩⟩, trivial⟩, ⟨⟨_, rfl, .inl (by first | rfl | ((try dsimp only); (first | rfl | omega | (simp; done) | (simp; omega)))), ⟨trivial, trivial⟩⟩, ⟨_, rfl, .inl (by first | rfl | ((try dsimp only); (first | rfl | omega | (simp; done) | (simp; omega)))), ⟨trivial, trivial⟩⟩, trivial⟩⟩

end Go.Vh

set_option linter.unusedVariables false
set_option linter.unusedSimpArgs false
namespace Go.Vh
open Go Go.Vc Go.Proofs Go.Vw

/-! ### sodality/hkdf.Expand -/
def hexpandSp : Sp := ⟨[], mkE (α := (List UInt8) × (List UInt8) × Int) (fun (k, i, n) => [.p (.bs (k)), .p (.bs (i)), .p (.v (.int .i64 (n)))]) (fun (k, i, n) => []) (fun (k, i, n) => k.length ≤ 1000000000 ∧ i.length ≤ 900000000) (fun (k, i, n) => [.own 2 (0) ((expandN k i n).length)]) (fun (k, i, n) => [(2, ⟨5, 1, (expandN k i n).length, true, .bs (expandN k i n)⟩)])⟩
def S_hexpand : FuncId → Option Sp := fun f => if f = 45 then some piecesSp else if f = 33 then some concatSp else if f = 38 then some hmacSp else none
theorem S_hexpand_ok : ∀ f s, S_hexpand f = some s → FOK Tryd.prog gl f s := fun f s h => by
  unfold S_hexpand at h
  split at h
  · rename_i e; cases h; subst e; exact pieces_ok
  split at h
  · rename_i e; cases h; subst e; exact concat_ok
  split at h
  · rename_i e; cases h; subst e; exact hmac_ok
  cases h
theorem S_hexpand_det : ∀ f s, S_hexpand f = some s → SpDet s.sp := fun f s h => by
  unfold S_hexpand at h
  split at h
  · cases h; exact mkE_det _ _ _ _ _
  split at h
  · cases h; exact mkE_det _ _ _ _ _
  split at h
  · cases h; exact mkE_det _ _ _ _ _
  cases h
set_option maxHeartbeats 1000000 in
set_option maxRecDepth 20000 in
theorem hexpand_ok : FOK Tryd.prog gl 32 hexpandSp := by
  refine FOK.ofE (tyOf_ok Tryd.prog) (slots := [6]) (nt := 40) Tryd.func32 rfl rfl rfl rfl (by decide) 3 (fun ⟨_, _, _⟩ => rfl) (by decide) (fun ⟨_, _, _⟩ => ⟨trivial, trivial, trivial, trivial⟩) ?_
  rintro ⟨k, i, n⟩ kk hlen hpre h
  have hl0 : (k).length ≤ 9223372036854775807 := hlen.1
  have hl1 : (i).length ≤ 9223372036854775807 := hlen.2.1
  replace hpre : k.length ≤ 1000000000 ∧ i.length ≤ 900000000 := hpre
  show HT (cx Tryd.prog 40 (tyOf Tryd.prog) gl []) _ [(0, .p (.bs (k))), (1, .p (.bs (i))), (2, .p (.v (.int .i64 (n))))] [] _
  refine HT.seq ?_
  refine HT.region S_hexpand_ok ?_
  refine So.n (lk rfl) (A.box1 1 (v := .p (.v (.int .i64 _))) rfl (by first | rfl | trivial) rfl rfl trivial ?_)
  refine So.q rfl rfl (V.as (v := .p (.v (.slice none 0 0))) rfl ?_)
  refine So.e ?_
  show HT _ _ _ _ _
  refine HT.seq ?_
  refine HT.seq ?_
  refine HT.region S_hexpand_ok ?_
  refine So.q rfl rfl (V.ldPtr ty3 rfl rfl rfl (lk rfl) (v := .p (.v (.int .i64 _))) rfl ?_)
  refine So.q rfl rfl (V.bin (a := (.v (.int .i64 _))) (b := (.v (.int .i64 (0)))) (r := .v (.bool _)) rfl rfl rfl trivial ?_)
  refine So.q rfl rfl (V.mv (v := .p (.v (.bool _))) rfl ?_)
  refine So.gd rfl rfl (lk rfl) (lk rfl) (fun h1 => ?_) (fun h1 => ?_)
  · have h1 := of_decide_eq_false h1
    refine A.v rfl (V.ldPtr ty3 rfl rfl rfl (lk rfl) (v := .p (.v (.int .i64 _))) rfl ?_)
    refine So.gy rfl rfl (lk rfl) (lk rfl) ?_
    refine A.v rfl (V.bin (a := (.v (.int .i64 _))) (b := (.v (.int .i64 (8160)))) (r := .v (.bool _)) rfl rfl rfl trivial ?_)
    refine So.q rfl rfl (V.pkFalse (u := .p (.v (.bool _))) rfl rfl ?_)
    refine So.e ?_
    show HT _ _ _ _ _
    refine R.cond rfl rfl (fun h2 => ?_) (fun h2 => ?_)
    · have h2 := of_decide_eq_true h2
      refine HT.seq ?_
      refine HT.region S_hexpand_ok ?_
      refine So.q rfl rfl (V.as (v := .p (.v (.slice none 0 0))) rfl ?_)
      refine So.e ?_
      show HT _ _ _ _ _
      refine R.phan 6 2 5 1 (.bs []) rfl rfl rfl ⟨rfl, rfl⟩ ?_
      refine HT.ret ?_
      exact ret_ok (sg [(2, 2)]) h rfl rfl rfl ⟨trivial, trivial⟩ ⟨rfl, trivial⟩ rfl ⟨⟨⟨le_own2 (by first | rfl | omega) (by first | (show (_ : Nat) = _; first | (rw [expandN_no (by omega)]; rfl) | (rw [expandN_0 (by omega)]; subst h3; rfl) | omega | (rw [expandN_len (by omega) (by omega)]; omega)) | (show (_ : List UInt8) = _; first | (exfalso; omega) | (rw [expandN_no (by omega)]; done) | (rw [expandN_0 (by omega)]; subst h3; rfl) | exact hx | exact okm_end hP0 (by omega) (by omega)) | rfl), rfl⟩, trivial⟩, ⟨⟨_, rfl, .inl (ob_bs (by first | rfl | ((try dsimp only); (first | (show (_ : Nat) = _; first | (rw [expandN_no (by omega)]; rfl) | (rw [expandN_0 (by omega)]; subst h3; rfl) | omega | (rw [expandN_len (by omega) (by omega)]; omega)) | (show (_ : List UInt8) = _; first | (exfalso; omega) | (rw [expandN_no (by omega)]; done) | (rw [expandN_0 (by omega)]; subst h3; rfl) | exact hx | exact okm_end hP0 (by omega) (by omega)) | rfl))) (by first | rfl | ((try dsimp only); (first | (show (_ : Nat) = _; first | (rw [expandN_no (by omega)]; rfl) | (rw [expandN_0 (by omega)]; subst h3; rfl) | omega | (rw [expandN_len (by omega) (by omega)]; omega)) | (show (_ : List UInt8) = _; first | (exfalso; omega) | (rw [expandN_no (by omega)]; done) | (rw [expandN_0 (by omega)]; subst h3; rfl) | exact hx | exact okm_end hP0 (by omega) (by omega)) | rfl)))), trivial⟩, trivial⟩⟩
    · have h2 := of_decide_eq_false h2
      refine HT.skip ?_
      show HT _ _ _ _ _
      refine HT.seq ?_
      refine HT.region S_hexpand_ok ?_
      refine So.q rfl rfl (V.ldPtr ty3 rfl rfl rfl (lk rfl) (v := .p (.v (.int .i64 _))) rfl ?_)
      refine So.n (lk rfl) (A.mkB 2 ty22 ty5 rfl rfl rfl (by omega) rfl rfl trivial ?_)
      refine So.n (lk rfl) (A.alloc1 3 ty22 rfl rfl trivial (x := (.v (.slice none 0 0))) rfl ?_)
      refine So.s (A.sto ty22 rfl rfl rfl (v := .own 2 0 _) rfl trivial rfl (lk rfl) rfl rfl ?_)
      refine So.e ?_
      show HT _ _ _ _ _
      refine HT.seq ?_
      refine HT.seq ?_
      refine HT.region S_hexpand_ok ?_
      refine So.q rfl rfl (V.ldPtr ty3 rfl rfl rfl (lk rfl) (v := .p (.v (.int .i64 _))) rfl ?_)
      refine So.q rfl rfl (V.bin (a := (.v (.int .i64 _))) (b := (.v (.int .i64 (0)))) (r := .v (.bool _)) rfl rfl rfl trivial ?_)
      refine So.e ?_
      show HT _ _ _ _ _
      refine R.cond rfl rfl (fun h3 => ?_) (fun h3 => ?_)
      · have h3 := of_decide_eq_true h3
        refine HT.seq ?_
        refine HT.region S_hexpand_ok ?_
        refine So.q rfl rfl (V.ldPtr ty22 rfl rfl rfl (lk rfl) (v := .own 2 0 _) rfl ?_)
        refine So.q rfl rfl (V.as (v := .own 2 0 _) rfl ?_)
        refine So.e ?_
        show HT _ _ _ _ _
        refine HT.ret ?_
        exact ret_ok (sg [(2, 2)]) h rfl rfl rfl ⟨trivial, trivial⟩ ⟨rfl, trivial⟩ rfl ⟨⟨⟨le_own2 (by first | rfl | omega) (by first | (show (_ : Nat) = _; first | (rw [expandN_no (by omega)]; rfl) | (rw [expandN_0 (by omega)]; subst h3; rfl) | omega | (rw [expandN_len (by omega) (by omega)]; omega)) | (show (_ : List UInt8) = _; first | (exfalso; omega) | (rw [expandN_no (by omega)]; done) | (rw [expandN_0 (by omega)]; subst h3; rfl) | exact hx | exact okm_end hP0 (by omega) (by omega)) | rfl), rfl⟩, trivial⟩, ⟨⟨_, rfl, .inl (ob_bs (by first | rfl | ((try dsimp only); (first | (show (_ : Nat) = _; first | (rw [expandN_no (by omega)]; rfl) | (rw [expandN_0 (by omega)]; subst h3; rfl) | omega | (rw [expandN_len (by omega) (by omega)]; omega)) | (show (_ : List UInt8) = _; first | (exfalso; omega) | (rw [expandN_no (by omega)]; done) | (rw [expandN_0 (by omega)]; subst h3; rfl) | exact hx | exact okm_end hP0 (by omega) (by omega)) | rfl))) (by first | rfl | ((try dsimp only); (first | (show (_ : Nat) = _; first | (rw [expandN_no (by omega)]; rfl) | (rw [expandN_0 (by omega)]; subst h3; rfl) | omega | (rw [expandN_len (by omega) (by omega)]; omega)) | (show (_ : List UInt8) = _; first | (exfalso; omega) | (rw [expandN_no (by omega)]; done) | (rw [expandN_0 (by omega)]; subst h3; rfl) | exact hx | exact okm_end hP0 (by omega) (by omega)) | rfl)))), trivial⟩, trivial⟩⟩
      · have h3 := of_decide_eq_false h3
        refine HT.skip ?_
        show HT _ _ _ _ _
        refine HT.seq ?_
        refine HT.seq ?_
        refine HT.region S_hexpand_ok ?_
        refine So.q rfl rfl (V.mv (v := .p (.bs _)) rfl ?_)
        refine So.q rfl rfl (V.mv (v := .p (.bs _)) rfl ?_)
        refine So.n (lk rfl) (A.call0 [.p (.bs _), .p (.bs _)] 4 rfl rfl rfl rfl ⟨trivial, trivial, trivial⟩ trivial (_, _) ⟨.refl _, .refl _, trivial⟩ trivial (by trivial) (Φ := fun _ => True) (fun _ _ => trivial) (.inl rfl) (v := .clo 55 [.ptr 6 _, .ptr 7 _]) rfl (O' := (6, ⟨22, 1, _, true, .cells _⟩) :: (7, ⟨22, 1, _, true, .cells _⟩) :: _) rfl (fun h4 => ?_))
        refine So.e ?_
        show HT _ _ _ _ _
        refine HT.block ?_
        refine HT.rangeFn rfl rfl rfl Tryd.func55 rfl rfl rfl rfl (by decide) [(5, .ptr 1 0), (6, .p (.v (.slice none 0 0))), (7, .ptr 3 0)] [1, 3] (fun _ => 1) (.exit 0) (pins_one (ss := fun _ => 1) rfl) ⟨rfl, (List.contains_iff_mem.1 rfl), rfl, trivial, rfl, (List.contains_iff_mem.1 rfl), trivial⟩ (fun l => ?_)
        show HT _ _ [(23, .p (.v undef)), (0, .p (.v (.func (.yield l) #[] #[]))), (1, .ptr 6 _), (2, .ptr 7 _)] _ _
        refine HT.seq ?_
        refine HT.region S_hexpand_ok ?_
        refine So.q rfl rfl (V.as (v := .p (.v (.slice none 0 0))) rfl ?_)
        refine So.e ?_
        show HT _ _ _ _ _
        refine HT.seq ?_
        refine HT.region S_hexpand_ok ?_
        refine So.q rfl rfl (V.as (v := .p (.v (.int .i64 (1)))) rfl ?_)
        refine So.e ?_
        show HT _ _ _ _ _
        refine HT.block ?_
        refine R.loop (σ := Nat) (fun s => [(4, .p (.bs (tN k i s))), (5, .p (.v (.int .i64 ((s : Int) + 1))))]) (fun s => [(2, ⟨5, 1, 32 * s, true, .bs (okm k i s)⟩), (3, ⟨22, 1, 1, true, .cells [.own 2 (0) (32 * s)]⟩)]) [0, 1, 2, 23] [1, 6, 7] (fun s => 32 * (s : Int) < n) (fun s => n.toNat - 32 * s) (0) (fr0 := [(0, .p (.v (.func (.yield _) #[] #[]))), (1, .ptr 6 0), (2, .ptr 7 0), (23, .p (.v undef))]) (O0 := [(1, ⟨_, _, _, _, .cells _⟩), (6, ⟨_, _, _, _, .cells _⟩), (7, ⟨_, _, _, _, .cells _⟩)]) rfl rfl (by first | rfl | omega | (show (_ : List UInt8) = _; exact okm_next (by omega)) | (simp; omega)) ⟨⟨⟨le_nil (by first | rfl | omega), trivial⟩, ⟨le_int (by first | rfl | omega), trivial⟩, ⟨.refl _, trivial⟩, ⟨.refl _, rfl⟩, ⟨.refl _, rfl⟩, ⟨.refl _, trivial⟩, trivial⟩, ⟨⟨_, rfl, .inl (ob_bs (by first | rfl | ((try dsimp only); first | rfl | omega)) (by first | rfl | ((try dsimp only); first | rfl | omega))), trivial⟩, ⟨_, rfl, .inl (by first | rfl | ((try dsimp only); first | rfl | omega)), ⟨rfl, trivial⟩⟩, ⟨_, rfl, .inl rfl, ⟨trivial, trivial⟩⟩, ⟨_, rfl, .inl rfl, ⟨trivial, trivial⟩⟩, ⟨_, rfl, .inl rfl, ⟨trivial, trivial⟩⟩, trivial⟩⟩ (fun s hP0 => ?_)
        refine HT.seq ?_
        refine HT.seq ?_
        refine HT.region S_hexpand_ok ?_
        refine So.q rfl rfl (V.mv (v := .p (.v (.int .i64 _))) rfl ?_)
        refine So.q rfl rfl (V.bin (a := (.v (.int .i64 _))) (b := (.v (.int .i64 (256)))) (r := .v (.bool _)) rfl rfl rfl trivial ?_)
        refine So.e ?_
        show HT _ _ _ _ _
        refine R.cond rfl rfl (fun h5 => ?_) (fun h5 => ?_)
        · have h5 := of_decide_eq_true h5
          refine HT.skip ?_
          show HT _ _ _ _ _
          refine HT.seq ?_
          refine HT.block ?_
          refine HT.seq ?_
          refine HT.planS S_hexpand_ok S_hexpand_det mixed [0, 7, 8, 9] [⟨[0, 1, 2, 3, 4], 5, [0, 1, 2]⟩, ⟨[0, 1, 2], 6, [0]⟩] (by kernel_rfl) ?_
          have hcl := cat3_len (tN k i s) i (UInt8.ofInt ((s : Int) + 1))
          have htl0 := tN_le k i s
          have htl := tN_len k i s
          refine Pl.lk ?_
          refine Si.n rfl (lk rfl) (V.ldPtr ty22 rfl rfl rfl (lk rfl) (v := .p (.bs _)) rfl ?_)
          refine Si.n rfl (lk rfl) (V.mv (v := .p (.bs _)) rfl ?_)
          refine Si.n rfl (lk rfl) (V.ldPtr ty22 rfl rfl rfl (lk rfl) (v := .p (.bs _)) rfl ?_)
          refine Si.n rfl (lk rfl) (V.mv (v := .p (.v (.int .i64 _))) rfl ?_)
          refine Si.n rfl (lk rfl) (V.cvN ty5 ty3 (a := (.v (.int .i64 _))) (r := (.u8 _)) rfl rfl ?_)
          refine Si.e ?_
          refine ⟨flEq_nil, fun ff => ?_⟩
          refine Lo.n rfl (lk rfl) (A.bsl 8 ty22 ty5 rfl (lk rfl) (lk rfl) (fun _ => rfl) rfl rfl ⟨lk rfl, lk rfl, trivial⟩ ⟨trivial, trivial⟩ rfl (N := 1) rfl (c := .bs [_]) rfl ?_)
          refine ⟨_, fun ff => ff, ap0d, rfl, FG.id, ?_⟩
          show planA _ _ _ _ _ [(0, .p (.bs _)), (1, .p (.bs _)), (2, .p (.bs _))] _ _ _
          refine Pl.lk ?_
          refine Si.n rfl (lk rfl) (V.ldPtr ty22 rfl rfl rfl (lk rfl) (v := .p (.bs _)) rfl ?_)
          refine Si.n rfl (lk rfl) (V.mv (v := .p (.bs _)) rfl ?_)
          refine Si.n rfl (lk rfl) (V.ldPtr ty22 rfl rfl rfl (lk rfl) (v := .p (.bs _)) rfl ?_)
          refine Si.e ?_
          refine ⟨(flEq_cons rfl (flEq_cons rfl (flEq_cons rfl flEq_nil))), fun ff => ?_⟩
          refine Lo.n rfl (lk rfl) (A.bsl 8 ty52 ty22 rfl (lk rfl) (lk rfl) (fun _ => rfl) rfl rfl ⟨lk rfl, lk rfl, trivial⟩ ⟨trivial, trivial, trivial, trivial⟩ rfl (N := 3) rfl (c := .rows _) rfl ?_)
          refine ⟨_, fun ff => Fr.frz 8 _ (ff), az1d, rfl, (FG.frz 8 _ (flP_cons rfl flP_nil)), ?_⟩
          show planA _ _ _ _ _ [(0, .p (.bs _))] _ _ _
          refine Pl.e ?_
          refine Si.n rfl (lk rfl) (V.ldPtr ty22 rfl rfl rfl (lk rfl) (v := .p (.bs _)) rfl ?_)
          refine Si.n rfl (lk rfl) (V.call [.p (.sl _ _ _)] 9 rfl rfl rfl rfl ⟨trivial, trivial⟩ ⟨lk rfl, lk rfl, trivial⟩ [tN k i s, i, [UInt8.ofInt ((s : Int) + 1)]] ⟨le_sl rfl (by intro j hj; match j, hj with | 0, _ => rfl | 1, _ => rfl | 2, _ => rfl), trivial⟩ trivial (by first | omega | (simp; done) | (simp; omega)) (Φ := fun _ => True) (fun _ _ => trivial) (.inr ⟨trivial, by simp [Hp.scal, OC.scal, PV.scal, BV.scal]⟩) (v := .p (.bs _)) rfl (fun h6 => ?_))
          refine Si.n rfl (lk rfl) (V.call [.p (.bs _), .p (.bs _)] 9 rfl rfl rfl rfl ⟨trivial, trivial, trivial⟩ ⟨lk rfl, lk rfl, trivial⟩ (_, _) ⟨.refl _, .refl _, trivial⟩ trivial (by first | omega | (simp only [List.drop_zero, List.take_length]; omega) | (simp; done) | (simp; omega)) (Φ := fun _ => True) (fun _ _ => trivial) (.inl ⟨trivial, trivial, trivial⟩) (v := .p (.bs _)) rfl (fun h7 => ?_))
          refine Si.n rfl (lk rfl) (V.as (v := .p (.bs _)) rfl ?_)
          refine Si.e ?_
          refine ⟨(flEq_cons rfl flEq_nil), ?_⟩
          show HT _ _ _ _ _
          refine HT.seq ?_
          refine R.tell [(4, .p (.bs (tN k i (s + 1))))] [] [0, 1, 2, 5, 6, 7, 10, 11, 12, 13, 14, 15, 17, 18, 23] [1, 2, 3, 6, 7, 8] (fr0 := [(0, .p (.v (.func (.yield _) #[] #[]))), (1, .ptr 6 0), (2, .ptr 7 0), (5, .p (.v (.int .i64 _))), (6, .p (.v (.int .i64 _))), (7, .p (.v (.bool true))), (10, .p (.bs _)), (11, .p (.bs _)), (12, .p (.bs _)), (13, .p (.v (.int .i64 _))), (14, .p (.u8 _)), (15, .p (.bs _)), (17, .p (.bs _)), (18, .p (.bs _)), (23, .p (.v undef))]) (O0 := [(1, ⟨_, _, _, _, .cells [.p (.v (.int .i64 _))]⟩), (2, ⟨_, _, _, _, .bs _⟩), (3, ⟨_, _, _, _, .cells [.own 2 0 _]⟩), (6, ⟨_, _, _, _, .cells [.p (.bs _)]⟩), (7, ⟨_, _, _, _, .cells [.p (.bs _)]⟩), (8, ⟨_, _, _, _, .rows _⟩)]) rfl rfl ⟨⟨⟨le_bs (by exact (tN_succ k i s)), trivial⟩, ⟨.refl _, trivial⟩, ⟨.refl _, rfl⟩, ⟨.refl _, rfl⟩, ⟨.refl _, trivial⟩, ⟨.refl _, trivial⟩, ⟨.refl _, trivial⟩, ⟨.refl _, trivial⟩, ⟨.refl _, trivial⟩, ⟨.refl _, trivial⟩, ⟨.refl _, trivial⟩, ⟨.refl _, trivial⟩, ⟨.refl _, trivial⟩, ⟨.refl _, trivial⟩, ⟨.refl _, trivial⟩, ⟨.refl _, trivial⟩, trivial⟩, ⟨⟨_, rfl, .inl rfl, ⟨trivial, trivial⟩⟩, ⟨_, rfl, .inl rfl, trivial⟩, ⟨_, rfl, .inl rfl, ⟨rfl, trivial⟩⟩, ⟨_, rfl, .inl rfl, ⟨trivial, trivial⟩⟩, ⟨_, rfl, .inl rfl, ⟨trivial, trivial⟩⟩, ⟨_, rfl, .inl rfl, trivial⟩, trivial⟩⟩ ?_
          show HT _ _ _ _ _
          refine HT.region S_hexpand_ok ?_
          refine So.q rfl rfl (V.mv (v := .p (.v (.func (.yield _) #[] #[]))) rfl ?_)
          refine So.q rfl rfl (V.mv (v := .p (.bs _)) rfl ?_)
          refine So.n (lk rfl) (A.yield rfl rfl rfl rfl rfl rfl rfl [1, 3, 6, 7] (fun _ => 1) (pins_one (ss := fun _ => 1) rfl) [(0, .p (.v (.func (.yield _) #[] #[]))), (1, .ptr 6 0), (2, .ptr 7 0), (4, .p (.bs _)), (5, .p (.v (.int .i64 _))), (6, .p (.v (.int .i64 _))), (7, .p (.v (.bool true))), (10, .p (.bs _)), (11, .p (.bs _)), (12, .p (.bs _)), (13, .p (.v (.int .i64 _))), (14, .p (.u8 _)), (15, .p (.bs _)), (17, .p (.bs _)), (18, .p (.bs _)), (19, .p (.v (.func (.yield _) #[] #[]))), (20, .p (.bs _))] ⟨rfl, trivial, rfl, (List.contains_iff_mem.1 rfl), rfl, (List.contains_iff_mem.1 rfl), rfl, trivial, rfl, trivial, rfl, trivial, rfl, trivial, rfl, trivial, rfl, trivial, rfl, trivial, rfl, trivial, rfl, trivial, rfl, trivial, rfl, trivial, rfl, trivial, rfl, trivial, rfl, trivial, trivial⟩ rfl ⟨(show _ ≤ _ by first | rfl | omega | (simp; done) | (simp; omega)), trivial, (show _ ≤ _ by first | rfl | omega | (simp; done) | (simp; omega)), trivial⟩ ?_)
          show HT _ _ [(23, .p (.bs _)), (5, .ptr 1 0), (6, .p (.v (.slice none 0 0))), (7, .ptr 3 0)] _ _
          refine HT.region S_hexpand_ok ?_
          refine So.q rfl rfl (V.as (v := .p (.bs _)) rfl ?_)
          refine So.e ?_
          show HT _ _ _ _ _
          refine HT.block ?_
          refine HT.seq ?_
          refine HT.tail S_hexpand_ok mixed 10 (by kernel_rfl) (by kernel_rfl) ?_
          refine So.q rfl rfl (V.ldPtr ty22 rfl rfl rfl (lk rfl) (v := .own 2 0 _) rfl ?_)
          refine So.q rfl rfl (V.mv (v := .p (.bs _)) rfl ?_)
          refine So.q rfl rfl (V.mv (v := .p (.bs _)) rfl ?_)
          refine So.q rfl rfl (V.len ty22 (v := .p (.bs _)) rfl rfl ?_)
          refine So.q rfl rfl (V.ldPtr ty3 rfl rfl rfl (lk rfl) (v := .p (.v (.int .i64 _))) rfl ?_)
          refine So.q rfl rfl (V.ldPtr ty22 rfl rfl rfl (lk rfl) (v := .own 2 0 _) rfl ?_)
          refine So.q rfl rfl (V.len ty22 (v := .own 2 0 _) rfl rfl ?_)
          refine So.q rfl rfl (V.subI rfl rfl (by omega) ?_)
          refine So.q rfl rfl (V.pb (r := .v (.int .i64 _)) (by decide) rfl rfl ?_)
          refine So.q rfl rfl (V.cutBsH ty22 ty5 rfl rfl rfl (by omega) (.inl rfl) rfl ?_)
          refine So.n (lk rfl) (A.apOwn ty22 ty5 rfl rfl rfl rfl (u := .p (.bs _)) rfl rfl (l' := okm k i s ++ (tN k i (s + 1)).take (min 32 (n.toNat - 32 * s))) (by exact okm_ap (by omega)) (mn := 32 * s + min 32 (n.toNat - 32 * s)) (by rw [List.length_take, htl]; omega) (by omega) rfl rfl rfl ?_)
          refine So.s (A.sto ty22 rfl rfl rfl (v := .own 2 0 _) rfl trivial rfl (lk rfl) rfl rfl ?_)
          refine So.e ?_
          show HT _ _ _ _ _
          refine HT.seq ?_
          refine HT.region S_hexpand_ok ?_
          refine So.q rfl rfl (V.ldPtr ty22 rfl rfl rfl (lk rfl) (v := .own 2 0 _) rfl ?_)
          refine So.q rfl rfl (V.len ty22 (v := .own 2 0 _) rfl rfl ?_)
          refine So.q rfl rfl (V.ldPtr ty3 rfl rfl rfl (lk rfl) (v := .p (.v (.int .i64 _))) rfl ?_)
          refine So.q rfl rfl (V.bin (a := (.v (.int .i64 _))) (b := (.v (.int .i64 _))) (r := .v (.bool _)) rfl rfl rfl trivial ?_)
          refine So.e ?_
          show HT _ _ _ _ _
          refine R.cond rfl rfl (fun h8 => ?_) (fun h8 => ?_)
          · have h8 := of_decide_eq_true h8
            refine HT.exit ?_
            refine ⟨rfl, ⟨trivial, (show _ ≤ _ by first | rfl | omega | (simp; done) | (simp; omega)), (show _ ≤ _ by first | rfl | omega | (simp; done) | (simp; omega)), trivial, trivial, trivial, trivial, trivial, trivial, trivial, trivial, trivial, trivial, trivial, trivial, trivial, trivial, trivial⟩, ?_⟩
            refine So.q rfl rfl (V.not (b := false) rfl ?_)
            refine So.e ?_
            show HT _ _ _ _ _
            refine R.condT rfl ?_
            refine HT.ret ?_
            refine ⟨.inr rfl, ⟨(show _ ≤ _ by first | rfl | omega | (simp; done) | (simp; omega)), trivial, (show _ ≤ _ by first | rfl | omega | (simp; done) | (simp; omega)), trivial⟩, .inr ⟨rfl, ?_⟩⟩
            refine HT.exit ?_
            show HT _ _ _ _ _
            refine HT.seq ?_
            try (have hx := okm_end (k := k) (i := i) hP0 (by omega) (by omega))
            refine R.norm [6, 7] [2, 3] (fr0 := [(6, .p (.v (.slice none 0 0))), (7, .ptr 3 0)]) (O0 := [(2, ⟨_, _, _, _, .bs _⟩), (3, ⟨_, _, _, _, .cells [.own 2 0 _]⟩)]) rfl rfl ⟨⟨⟨.refl _, trivial⟩, ⟨.refl _, rfl⟩, trivial⟩, ⟨⟨_, rfl, .inl rfl, trivial⟩, ⟨_, rfl, .inl rfl, ⟨rfl, trivial⟩⟩, trivial⟩⟩ ?_
            refine HT.region S_hexpand_ok ?_
            refine So.q rfl rfl (V.ldPtr ty22 rfl rfl rfl (lk rfl) (v := .own 2 0 _) rfl ?_)
            refine So.q rfl rfl (V.as (v := .own 2 0 _) rfl ?_)
            refine So.e ?_
            show HT _ _ _ _ _
            refine HT.ret ?_
            exact ret_ok (sg [(2, 2)]) h rfl rfl rfl ⟨trivial, trivial⟩ ⟨rfl, trivial⟩ rfl ⟨⟨⟨le_own2 (by first | rfl | omega) (by first | (show (_ : Nat) = _; first | (rw [expandN_no (by omega)]; rfl) | (rw [expandN_0 (by omega)]; subst h3; rfl) | omega | (rw [expandN_len (by omega) (by omega)]; omega)) | (show (_ : List UInt8) = _; first | (exfalso; omega) | (rw [expandN_no (by omega)]; done) | (rw [expandN_0 (by omega)]; subst h3; rfl) | exact hx | exact okm_end hP0 (by omega) (by omega)) | rfl), rfl⟩, trivial⟩, ⟨⟨_, rfl, .inl (ob_bs (by first | rfl | ((try dsimp only); (first | (show (_ : Nat) = _; first | (rw [expandN_no (by omega)]; rfl) | (rw [expandN_0 (by omega)]; subst h3; rfl) | omega | (rw [expandN_len (by omega) (by omega)]; omega)) | (show (_ : List UInt8) = _; first | (exfalso; omega) | (rw [expandN_no (by omega)]; done) | (rw [expandN_0 (by omega)]; subst h3; rfl) | exact hx | exact okm_end hP0 (by omega) (by omega)) | rfl))) (by first | rfl | ((try dsimp only); (first | (show (_ : Nat) = _; first | (rw [expandN_no (by omega)]; rfl) | (rw [expandN_0 (by omega)]; subst h3; rfl) | omega | (rw [expandN_len (by omega) (by omega)]; omega)) | (show (_ : List UInt8) = _; first | (exfalso; omega) | (rw [expandN_no (by omega)]; done) | (rw [expandN_0 (by omega)]; subst h3; rfl) | exact hx | exact okm_end hP0 (by omega) (by omega)) | rfl)))), trivial⟩, trivial⟩⟩
          · have h8 := of_decide_eq_false h8
            refine HT.skip ?_
            refine ⟨⟨trivial, (show _ ≤ _ by first | rfl | omega | (simp; done) | (simp; omega)), (show _ ≤ _ by first | rfl | omega | (simp; done) | (simp; omega)), trivial, trivial, trivial, trivial, trivial, trivial, trivial, trivial, trivial, trivial, trivial, trivial, trivial, trivial, trivial⟩, ?_⟩
            refine So.q rfl rfl (V.not (b := true) rfl ?_)
            refine So.e ?_
            show HT _ _ _ _ _
            refine R.condF rfl ?_
            refine HT.skip ?_
            show HT _ _ _ _ _
            refine HT.region S_hexpand_ok ?_
            refine So.q rfl rfl (V.mv (v := .p (.v (.int .i64 _))) rfl ?_)
            refine So.q rfl rfl (V.addI rfl rfl (by omega) ?_)
            refine So.q rfl rfl (V.as (v := .p (.v (.int .i64 _))) rfl ?_)
            refine So.e ?_
            refine ⟨s + 1, by first | rfl | omega | (show (_ : List UInt8) = _; exact okm_next (by omega)) | (simp; omega), by omega, ⟨⟨⟨le_bs (by first | rfl | omega | (show (_ : List UInt8) = _; exact okm_next (by omega)) | (simp; omega)), trivial⟩, ⟨le_int (by first | rfl | omega | (show (_ : List UInt8) = _; exact okm_next (by omega)) | (simp; omega)), trivial⟩, ⟨.refl _, trivial⟩, ⟨.refl _, rfl⟩, ⟨.refl _, rfl⟩, ⟨.refl _, trivial⟩, trivial⟩, ⟨⟨_, rfl, .inl (ob_bs (by first | (show (_ : Nat) = _; omega) | (show (_ : List UInt8) = _; exact okm_next (by omega)) | (show OC.bs _ = OC.bs _; rw [okm_next (by omega)])) (by first | (show (_ : Nat) = _; omega) | (show (_ : List UInt8) = _; exact okm_next (by omega)) | (show OC.bs _ = OC.bs _; rw [okm_next (by omega)]))), trivial⟩, ⟨_, rfl, .inl (by first | rfl | (have hm : 32 * s + min 32 (n.toNat - 32 * s) = 32 * (s + 1) := (by omega); rw [hm]; rfl)), ⟨rfl, trivial⟩⟩, ⟨_, rfl, .inl rfl, ⟨trivial, trivial⟩⟩, ⟨_, rfl, .inl rfl, ⟨trivial, trivial⟩⟩, ⟨_, rfl, .inl rfl, ⟨trivial, trivial⟩⟩, trivial⟩⟩⟩
        · have h5 := of_decide_eq_false h5
          refine HT.exit ?_
          refine ⟨.inl rfl, ⟨(show _ ≤ _ by first | rfl | omega | (simp; done) | (simp; omega)), trivial, (show _ ≤ _ by first | rfl | omega | (simp; done) | (simp; omega)), trivial⟩, .inl ⟨rfl, ?_⟩⟩
          show HT _ _ _ _ _
          refine HT.seq ?_
          try (have hx := okm_end (k := k) (i := i) hP0 (by omega) (by omega))
          refine R.norm [6, 7] [2, 3] (fr0 := [(6, .p (.v (.slice none 0 0))), (7, .ptr 3 0)]) (O0 := [(2, ⟨_, _, _, _, .bs _⟩), (3, ⟨_, _, _, _, .cells [.own 2 0 _]⟩)]) rfl rfl ⟨⟨⟨.refl _, trivial⟩, ⟨.refl _, rfl⟩, trivial⟩, ⟨⟨_, rfl, .inl rfl, trivial⟩, ⟨_, rfl, .inl rfl, ⟨rfl, trivial⟩⟩, trivial⟩⟩ ?_
          refine HT.region S_hexpand_ok ?_
          refine So.q rfl rfl (V.ldPtr ty22 rfl rfl rfl (lk rfl) (v := .own 2 0 _) rfl ?_)
          refine So.q rfl rfl (V.as (v := .own 2 0 _) rfl ?_)
          refine So.e ?_
          show HT _ _ _ _ _
          refine HT.ret ?_
          exact ret_ok (sg [(2, 2)]) h rfl rfl rfl ⟨trivial, trivial⟩ ⟨rfl, trivial⟩ rfl ⟨⟨⟨le_own2 (by first | rfl | omega) (by first | (show (_ : Nat) = _; first | (rw [expandN_no (by omega)]; rfl) | (rw [expandN_0 (by omega)]; subst h3; rfl) | omega | (rw [expandN_len (by omega) (by omega)]; omega)) | (show (_ : List UInt8) = _; first | (exfalso; omega) | (rw [expandN_no (by omega)]; done) | (rw [expandN_0 (by omega)]; subst h3; rfl) | exact hx | exact okm_end hP0 (by omega) (by omega)) | rfl), rfl⟩, trivial⟩, ⟨⟨_, rfl, .inl (ob_bs (by first | rfl | ((try dsimp only); (first | (show (_ : Nat) = _; first | (rw [expandN_no (by omega)]; rfl) | (rw [expandN_0 (by omega)]; subst h3; rfl) | omega | (rw [expandN_len (by omega) (by omega)]; omega)) | (show (_ : List UInt8) = _; first | (exfalso; omega) | (rw [expandN_no (by omega)]; done) | (rw [expandN_0 (by omega)]; subst h3; rfl) | exact hx | exact okm_end hP0 (by omega) (by omega)) | rfl))) (by first | rfl | ((try dsimp only); (first | (show (_ : Nat) = _; first | (rw [expandN_no (by omega)]; rfl) | (rw [expandN_0 (by omega)]; subst h3; rfl) | omega | (rw [expandN_len (by omega) (by omega)]; omega)) | (show (_ : List UInt8) = _; first | (exfalso; omega) | (rw [expandN_no (by omega)]; done) | (rw [expandN_0 (by omega)]; subst h3; rfl) | exact hx | exact okm_end hP0 (by omega) (by omega)) | rfl)))), trivial⟩, trivial⟩⟩
  · have h1 := of_decide_eq_true h1
    refine So.gn (b := true) rfl rfl rfl (lk rfl) (lk rfl) ?_
    refine So.q rfl rfl (V.pkTrue (u := .p (.v (.bool true))) rfl rfl ?_)
    refine So.e ?_
    show HT _ _ _ _ _
    refine R.condT rfl ?_
    refine HT.seq ?_
    refine HT.region S_hexpand_ok ?_
    refine So.q rfl rfl (V.as (v := .p (.v (.slice none 0 0))) rfl ?_)
    refine So.e ?_
    show HT _ _ _ _ _
    refine R.phan 6 2 5 1 (.bs []) rfl rfl rfl ⟨rfl, rfl⟩ ?_
    refine HT.ret ?_
    exact ret_ok (sg [(2, 2)]) h rfl rfl rfl ⟨trivial, trivial⟩ ⟨rfl, trivial⟩ rfl ⟨⟨⟨le_own2 (by first | rfl | omega) (by first | (show (_ : Nat) = _; first | (rw [expandN_no (by omega)]; rfl) | (rw [expandN_0 (by omega)]; subst h3; rfl) | omega | (rw [expandN_len (by omega) (by omega)]; omega)) | (show (_ : List UInt8) = _; first | (exfalso; omega) | (rw [expandN_no (by omega)]; done) | (rw [expandN_0 (by omega)]; subst h3; rfl) | exact hx | exact okm_end hP0 (by omega) (by omega)) | rfl), rfl⟩, trivial⟩, ⟨⟨_, rfl, .inl (ob_bs (by first | rfl | ((try dsimp only); (first | (show (_ : Nat) = _; first | (rw [expandN_no (by omega)]; rfl) | (rw [expandN_0 (by omega)]; subst h3; rfl) | omega | (rw [expandN_len (by omega) (by omega)]; omega)) | (show (_ : List UInt8) = _; first | (exfalso; omega) | (rw [expandN_no (by omega)]; done) | (rw [expandN_0 (by omega)]; subst h3; rfl) | exact hx | exact okm_end hP0 (by omega) (by omega)) | rfl))) (by first | rfl | ((try dsimp only); (first | (show (_ : Nat) = _; first | (rw [expandN_no (by omega)]; rfl) | (rw [expandN_0 (by omega)]; subst h3; rfl) | omega | (rw [expandN_len (by omega) (by omega)]; omega)) | (show (_ : List UInt8) = _; first | (exfalso; omega) | (rw [expandN_no (by omega)]; done) | (rw [expandN_0 (by omega)]; subst h3; rfl) | exact hx | exact okm_end hP0 (by omega) (by omega)) | rfl)))), trivial⟩, trivial⟩⟩

end Go.Vh

set_option linter.unusedVariables false
set_option linter.unusedSimpArgs false
namespace Go.Vh
open Go Go.Vc Go.Proofs Go.Vw

/-! ### sodality/hkdf.long -/
def longSp : Sp := ⟨[], mkE (α := (List UInt8)) (fun t => [.p (.bs (t))]) (fun t => []) (fun t => t.length < 16384) (fun t => [.own 2 (0) ((longF t).length)]) (fun t => [(2, ⟨5, 1, (longF t).length, true, .bs (longF t)⟩)])⟩
def S_long : FuncId → Option Sp := fun _ => none
theorem S_long_ok : ∀ f s, S_long f = some s → FOK Tryd.prog gl f s := fun f s h => by cases h
theorem S_long_det : ∀ f s, S_long f = some s → SpDet s.sp := fun f s h => by cases h
set_option maxHeartbeats 1000000 in
set_option maxRecDepth 1000 in
theorem long_ok : FOK Tryd.prog gl 34 longSp := by
  refine FOK.ofE (tyOf_ok Tryd.prog) (slots := [2]) (nt := 22) Tryd.func34 rfl rfl rfl rfl (by decide) 1 (fun _ => rfl) (by decide) (fun _ => ⟨trivial, trivial⟩) ?_
  rintro t kk hlen hpre h
  have hl0 : (t).length ≤ 9223372036854775807 := hlen.1
  replace hpre : t.length < 16384 := hpre
  show HT (cx Tryd.prog 22 (tyOf Tryd.prog) gl []) _ [(0, .p (.bs (t)))] [] _
  refine HT.seq ?_
  refine HT.region S_long_ok ?_
  refine So.q rfl rfl (V.as (v := .p (.v (.slice none 0 0))) rfl ?_)
  refine So.e ?_
  show HT _ _ _ _ _
  refine HT.seq ?_
  refine HT.region S_long_ok ?_
  refine So.q rfl rfl (V.mv (v := .p (.bs _)) rfl ?_)
  refine So.q rfl rfl (V.len ty22 (v := .p (.bs _)) rfl rfl ?_)
  refine So.q rfl rfl (V.as (v := .p (.v (.int .i64 _))) rfl ?_)
  refine So.e ?_
  show HT _ _ _ _ _
  refine HT.seq ?_
  refine HT.seq ?_
  refine HT.region S_long_ok ?_
  refine So.q rfl rfl (V.mv (v := .p (.v (.int .i64 _))) rfl ?_)
  refine So.q rfl rfl (V.bin (a := (.v (.int .i64 _))) (b := (.v (.int .i64 (64)))) (r := .v (.bool _)) rfl rfl rfl trivial ?_)
  refine So.e ?_
  show HT _ _ _ _ _
  refine R.cond rfl rfl (fun h1 => ?_) (fun h1 => ?_)
  · have h1 := of_decide_eq_true h1
    refine HT.seq ?_
    refine HT.region S_long_ok ?_
    refine So.q rfl rfl (V.mv (v := .p (.v (.int .i64 _))) rfl ?_)
    refine So.q rfl rfl (V.cvN ty5 ty3 (a := (.v (.int .i64 _))) (r := (.u8 _)) rfl rfl ?_)
    refine So.n (lk rfl) (A.bsl 1 ty22 ty5 rfl (lk rfl) (lk rfl) (fun _ => rfl) rfl rfl trivial ⟨trivial, trivial⟩ rfl (N := 1) rfl (c := .bs [_]) rfl ?_)
    refine So.q rfl rfl (V.mv (v := .p (.bs _)) rfl ?_)
    refine So.n (lk rfl) (A.apOwn ty22 ty5 rfl rfl rfl rfl (u := .p (.bs _)) rfl rfl rfl rfl (by first | rfl | omega | (simp; done) | (simp; omega)) rfl rfl rfl ?_)
    refine So.q rfl rfl (V.as (v := .own 1 0 _) rfl ?_)
    refine So.e ?_
    show HT _ _ _ _ _
    refine HT.ret ?_
    exact ret_ok (sg [(2, 1)]) h rfl rfl rfl ⟨trivial, trivial⟩ ⟨rfl, trivial⟩ rfl ⟨⟨⟨le_own2 (by first | rfl | omega) (by first | rfl | (unfold longF; rw [if_pos (by omega)]; first | rfl | (simp; done) | (simp; omega)) | (unfold longF; rw [if_neg (by omega)]; first | rfl | (simp; done) | (simp; omega) | (rw [long_r1 hpre, long_r2]; first | rfl | (simp; done)))), rfl⟩, trivial⟩, ⟨⟨_, rfl, .inl (ob_bs (by first | rfl | ((try dsimp only); (first | rfl | (unfold longF; rw [if_pos (by omega)]; first | rfl | (simp; done) | (simp; omega)) | (unfold longF; rw [if_neg (by omega)]; first | rfl | (simp; done) | (simp; omega) | (rw [long_r1 hpre, long_r2]; first | rfl | (simp; done)))))) (by first | rfl | ((try dsimp only); (first | rfl | (unfold longF; rw [if_pos (by omega)]; first | rfl | (simp; done) | (simp; omega)) | (unfold longF; rw [if_neg (by omega)]; first | rfl | (simp; done) | (simp; omega) | (rw [long_r1 hpre, long_r2]; first | rfl | (simp; done))))))), trivial⟩, trivial⟩⟩
  · have h1 := of_decide_eq_false h1
    refine HT.skip ?_
    show HT _ _ _ _ _
    refine HT.seq ?_
    refine HT.region S_long_ok ?_
    refine So.q rfl rfl (V.mv (v := .p (.v (.int .i64 _))) rfl ?_)
    refine So.q rfl rfl (V.shrI (n := 8) (M := 256) rfl rfl rfl (by decide) ?_)
    refine So.q rfl rfl (V.cvN ty5 ty3 (a := (.v (.int .i64 _))) (r := (.u8 _)) rfl rfl ?_)
    refine So.q rfl rfl (V.bin (a := (.u8 _)) (b := (.u8 64)) (r := .u8 _) rfl rfl rfl trivial ?_)
    refine So.q rfl rfl (V.mv (v := .p (.v (.int .i64 _))) rfl ?_)
    refine So.q rfl rfl (V.cvN ty5 ty3 (a := (.v (.int .i64 _))) (r := (.u8 _)) rfl rfl ?_)
    refine So.n (lk rfl) (A.bsl 1 ty22 ty5 rfl (lk rfl) (lk rfl) (fun _ => rfl) rfl rfl trivial ⟨trivial, trivial, trivial⟩ rfl (N := 2) rfl (c := .bs [_, _]) rfl ?_)
    refine So.q rfl rfl (V.mv (v := .p (.bs _)) rfl ?_)
    refine So.n (lk rfl) (A.apOwn ty22 ty5 rfl rfl rfl rfl (u := .p (.bs _)) rfl rfl rfl rfl (by first | rfl | omega | (simp; done) | (simp; omega)) rfl rfl rfl ?_)
    refine So.q rfl rfl (V.as (v := .own 1 0 _) rfl ?_)
    refine So.e ?_
    show HT _ _ _ _ _
    refine HT.ret ?_
    exact ret_ok (sg [(2, 1)]) h rfl rfl rfl ⟨trivial, trivial⟩ ⟨rfl, trivial⟩ rfl ⟨⟨⟨le_own2 (by first | rfl | omega) (by first | rfl | (unfold longF; rw [if_pos (by omega)]; first | rfl | (simp; done) | (simp; omega)) | (unfold longF; rw [if_neg (by omega)]; first | rfl | (simp; done) | (simp; omega) | (rw [long_r1 hpre, long_r2]; first | rfl | (simp; done)))), rfl⟩, trivial⟩, ⟨⟨_, rfl, .inl (ob_bs (by first | rfl | ((try dsimp only); (first | rfl | (unfold longF; rw [if_pos (by omega)]; first | rfl | (simp; done) | (simp; omega)) | (unfold longF; rw [if_neg (by omega)]; first | rfl | (simp; done) | (simp; omega) | (rw [long_r1 hpre, long_r2]; first | rfl | (simp; done)))))) (by first | rfl | ((try dsimp only); (first | rfl | (unfold longF; rw [if_pos (by omega)]; first | rfl | (simp; done) | (simp; omega)) | (unfold longF; rw [if_neg (by omega)]; first | rfl | (simp; done) | (simp; omega) | (rw [long_r1 hpre, long_r2]; first | rfl | (simp; done))))))), trivial⟩, trivial⟩⟩

/-! ### sodality/sodalityref03.long -/
def rlongSp : Sp := ⟨[], mkE (α := (List UInt8)) (fun t => [.p (.bs (t))]) (fun t => []) (fun t => t.length < 16384) (fun t => [.own 2 (0) ((longF t).length)]) (fun t => [(2, ⟨5, 1, (longF t).length, true, .bs (longF t)⟩)])⟩
def S_rlong : FuncId → Option Sp := fun _ => none
theorem S_rlong_ok : ∀ f s, S_rlong f = some s → FOK Tryd.prog gl f s := fun f s h => by cases h
theorem S_rlong_det : ∀ f s, S_rlong f = some s → SpDet s.sp := fun f s h => by cases h
set_option maxHeartbeats 1000000 in
set_option maxRecDepth 1000 in
theorem rlong_ok : FOK Tryd.prog gl 50 rlongSp := by
  refine FOK.ofE (tyOf_ok Tryd.prog) (slots := [2]) (nt := 24) Tryd.func50 rfl rfl rfl rfl (by decide) 1 (fun _ => rfl) (by decide) (fun _ => ⟨trivial, trivial⟩) ?_
  rintro t kk hlen hpre h
  have hl0 : (t).length ≤ 9223372036854775807 := hlen.1
  replace hpre : t.length < 16384 := hpre
  show HT (cx Tryd.prog 24 (tyOf Tryd.prog) gl []) _ [(0, .p (.bs (t)))] [] _
  refine HT.seq ?_
  refine HT.region S_rlong_ok ?_
  refine So.q rfl rfl (V.as (v := .p (.v (.slice none 0 0))) rfl ?_)
  refine So.e ?_
  show HT _ _ _ _ _
  refine HT.seq ?_
  refine HT.seq ?_
  refine HT.region S_rlong_ok ?_
  refine So.q rfl rfl (V.mv (v := .p (.bs _)) rfl ?_)
  refine So.q rfl rfl (V.len ty22 (v := .p (.bs _)) rfl rfl ?_)
  refine So.q rfl rfl (V.bin (a := (.v (.int .i64 _))) (b := (.v (.int .i64 (64)))) (r := .v (.bool _)) rfl rfl rfl trivial ?_)
  refine So.e ?_
  show HT _ _ _ _ _
  refine R.cond rfl rfl (fun h1 => ?_) (fun h1 => ?_)
  · have h1 := of_decide_eq_true h1
    refine HT.seq ?_
    refine HT.region S_rlong_ok ?_
    refine So.q rfl rfl (V.mv (v := .p (.bs _)) rfl ?_)
    refine So.q rfl rfl (V.len ty22 (v := .p (.bs _)) rfl rfl ?_)
    refine So.q rfl rfl (V.cvN ty5 ty3 (a := (.v (.int .i64 _))) (r := (.u8 _)) rfl rfl ?_)
    refine So.n (lk rfl) (A.bsl 1 ty22 ty5 rfl (lk rfl) (lk rfl) (fun _ => rfl) rfl rfl trivial ⟨trivial, trivial⟩ rfl (N := 1) rfl (c := .bs [_]) rfl ?_)
    refine So.q rfl rfl (V.mv (v := .p (.bs _)) rfl ?_)
    refine So.n (lk rfl) (A.apOwn ty22 ty5 rfl rfl rfl rfl (u := .p (.bs _)) rfl rfl rfl rfl (by first | rfl | omega | (simp; done) | (simp; omega)) rfl rfl rfl ?_)
    refine So.q rfl rfl (V.as (v := .own 1 0 _) rfl ?_)
    refine So.e ?_
    show HT _ _ _ _ _
    refine HT.ret ?_
    exact ret_ok (sg [(2, 1)]) h rfl rfl rfl ⟨trivial, trivial⟩ ⟨rfl, trivial⟩ rfl ⟨⟨⟨le_own2 (by first | rfl | omega) (by first | rfl | (unfold longF; rw [if_pos (by omega)]; first | rfl | (simp; done) | (simp; omega)) | (unfold longF; rw [if_neg (by omega)]; first | rfl | (simp; done) | (simp; omega) | (rw [long_r1 hpre, long_r2]; first | rfl | (simp; done)))), rfl⟩, trivial⟩, ⟨⟨_, rfl, .inl (ob_bs (by first | rfl | ((try dsimp only); (first | rfl | (unfold longF; rw [if_pos (by omega)]; first | rfl | (simp; done) | (simp; omega)) | (unfold longF; rw [if_neg (by omega)]; first | rfl | (simp; done) | (simp; omega) | (rw [long_r1 hpre, long_r2]; first | rfl | (simp; done)))))) (by first | rfl | ((try dsimp only); (first | rfl | (unfold longF; rw [if_pos (by omega)]; first | rfl | (simp; done) | (simp; omega)) | (unfold longF; rw [if_neg (by omega)]; first | rfl | (simp; done) | (simp; omega) | (rw [long_r1 hpre, long_r2]; first | rfl | (simp; done))))))), trivial⟩, trivial⟩⟩
  · have h1 := of_decide_eq_false h1
    refine HT.skip ?_
    show HT _ _ _ _ _
    refine HT.seq ?_
    refine HT.region S_rlong_ok ?_
    refine So.q rfl rfl (V.mv (v := .p (.bs _)) rfl ?_)
    refine So.q rfl rfl (V.len ty22 (v := .p (.bs _)) rfl rfl ?_)
    refine So.q rfl rfl (V.addI rfl rfl (by omega) ?_)
    refine So.q rfl rfl (V.as (v := .p (.v (.int .i64 _))) rfl ?_)
    refine So.e ?_
    show HT _ _ _ _ _
    refine HT.seq ?_
    refine HT.region S_rlong_ok ?_
    refine So.q rfl rfl (V.mv (v := .p (.v (.int .i64 _))) rfl ?_)
    refine So.q rfl rfl (V.shrI (n := 8) (M := 256) rfl rfl rfl (by decide) ?_)
    refine So.q rfl rfl (V.cvN ty5 ty3 (a := (.v (.int .i64 _))) (r := (.u8 _)) rfl rfl ?_)
    refine So.q rfl rfl (V.mv (v := .p (.v (.int .i64 _))) rfl ?_)
    refine So.q rfl rfl (V.cvN ty5 ty3 (a := (.v (.int .i64 _))) (r := (.u8 _)) rfl rfl ?_)
    refine So.n (lk rfl) (A.bsl 1 ty22 ty5 rfl (lk rfl) (lk rfl) (fun _ => rfl) rfl rfl trivial ⟨trivial, trivial, trivial⟩ rfl (N := 2) rfl (c := .bs [_, _]) rfl ?_)
    refine So.q rfl rfl (V.mv (v := .p (.bs _)) rfl ?_)
    refine So.n (lk rfl) (A.apOwn ty22 ty5 rfl rfl rfl rfl (u := .p (.bs _)) rfl rfl rfl rfl (by first | rfl | omega | (simp; done) | (simp; omega)) rfl rfl rfl ?_)
    refine So.q rfl rfl (V.as (v := .own 1 0 _) rfl ?_)
    refine So.e ?_
    show HT _ _ _ _ _
    refine HT.ret ?_
    exact ret_ok (sg [(2, 1)]) h rfl rfl rfl ⟨trivial, trivial⟩ ⟨rfl, trivial⟩ rfl ⟨⟨⟨le_own2 (by first | rfl | omega) (by first | rfl | (unfold longF; rw [if_pos (by omega)]; first | rfl | (simp; done) | (simp; omega)) | (unfold longF; rw [if_neg (by omega)]; first | rfl | (simp; done) | (simp; omega) | (rw [long_r1 hpre, long_r2]; first | rfl | (simp; done)))), rfl⟩, trivial⟩, ⟨⟨_, rfl, .inl (ob_bs (by first | rfl | ((try dsimp only); (first | rfl | (unfold longF; rw [if_pos (by omega)]; first | rfl | (simp; done) | (simp; omega)) | (unfold longF; rw [if_neg (by omega)]; first | rfl | (simp; done) | (simp; omega) | (rw [long_r1 hpre, long_r2]; first | rfl | (simp; done)))))) (by first | rfl | ((try dsimp only); (first | rfl | (unfold longF; rw [if_pos (by omega)]; first | rfl | (simp; done) | (simp; omega)) | (unfold longF; rw [if_neg (by omega)]; first | rfl | (simp; done) | (simp; omega) | (rw [long_r1 hpre, long_r2]; first | rfl | (simp; done))))))), trivial⟩, trivial⟩⟩

end Go.Vh

set_option linter.unusedVariables false
set_option linter.unusedSimpArgs false
namespace Go.Vh
open Go Go.Vc Go.Proofs Go.Vw

/-! ### sodality/hkdf.Label -/
def hlabelSp : Sp := ⟨[], mkE (α := (List UInt8) × (List UInt8) × (List UInt8) × Int) (fun (k, m, c, n) => [.p (.bs (k)), .p (.str (m)), .p (.bs (c)), .p (.v (.int .i64 (n)))]) (fun (k, m, c, n) => []) (fun (k, m, c, n) => k.length ≤ 1000000000) (fun (k, m, c, n) => [.own 2 (0) ((labelF k m c n).length)]) (fun (k, m, c, n) => [(2, ⟨5, 1, (labelF k m c n).length, true, .bs (labelF k m c n)⟩)])⟩
def S_hlabel : FuncId → Option Sp := fun f => if f = 34 then some longSp else if f = 33 then some concatSp else if f = 32 then some hexpandSp else none
theorem S_hlabel_ok : ∀ f s, S_hlabel f = some s → FOK Tryd.prog gl f s := fun f s h => by
  unfold S_hlabel at h
  split at h
  · rename_i e; cases h; subst e; exact long_ok
  split at h
  · rename_i e; cases h; subst e; exact concat_ok
  split at h
  · rename_i e; cases h; subst e; exact hexpand_ok
  cases h
theorem S_hlabel_det : ∀ f s, S_hlabel f = some s → SpDet s.sp := fun f s h => by
  unfold S_hlabel at h
  split at h
  · cases h; exact mkE_det _ _ _ _ _
  split at h
  · cases h; exact mkE_det _ _ _ _ _
  split at h
  · cases h; exact mkE_det _ _ _ _ _
  cases h
set_option maxHeartbeats 1000000 in
set_option maxRecDepth 20000 in
theorem hlabel_ok : FOK Tryd.prog gl 21 hlabelSp := by
  refine FOK.ofE (tyOf_ok Tryd.prog) (slots := [8]) (nt := 42) Tryd.func21 rfl rfl rfl rfl (by decide) 4 (fun ⟨_, _, _, _⟩ => rfl) (by decide) (fun ⟨_, _, _, _⟩ => ⟨trivial, trivial, trivial, trivial, trivial⟩) ?_
  rintro ⟨k, m, c, n⟩ kk hlen hpre h
  have hl0 : (k).length ≤ 9223372036854775807 := hlen.1
  have hl2 : (c).length ≤ 9223372036854775807 := hlen.2.2.1
  replace hpre : k.length ≤ 1000000000 := hpre
  show HT (cx Tryd.prog 42 (tyOf Tryd.prog) gl []) _ [(0, .p (.bs (k))), (1, .p (.str (m))), (2, .p (.bs (c))), (3, .p (.v (.int .i64 (n))))] [] _
  have hl1 := longF_len (lbl ++ m)
  have hl2 := longF_len c
  have hl3 : (lbl ++ m).length = 8 + m.length := by rw [List.length_append]; rfl
  have hl4 := congrArg List.length (infoG_cat m c n)
  have hl5 : (infoG m c n).length = 2 + (longF (lbl ++ m)).length + (longF c).length := by unfold infoG; simp; omega
  refine HT.seq ?_
  refine HT.region S_hlabel_ok ?_
  refine So.q rfl rfl (V.as (v := .p (.v (.slice none 0 0))) rfl ?_)
  refine So.e ?_
  show HT _ _ _ _ _
  refine HT.seq ?_
  refine HT.seq ?_
  refine HT.region S_hlabel_ok ?_
  refine So.q rfl rfl (V.mv (v := .p (.v (.int .i64 _))) rfl ?_)
  refine So.q rfl rfl (V.bin (a := (.v (.int .i64 _))) (b := (.v (.int .i64 (0)))) (r := .v (.bool _)) rfl rfl rfl trivial ?_)
  refine So.q rfl rfl (V.mv (v := .p (.v (.bool _))) rfl ?_)
  refine So.gd rfl rfl (lk rfl) (lk rfl) (fun h1 => ?_) (fun h1 => ?_)
  · have h1 := of_decide_eq_false h1
    refine A.v rfl (V.mv (v := .p (.v (.int .i64 _))) rfl ?_)
    refine So.gy rfl rfl (lk rfl) (lk rfl) ?_
    refine A.v rfl (V.bin (a := (.v (.int .i64 _))) (b := (.v (.int .i64 (8160)))) (r := .v (.bool _)) rfl rfl rfl trivial ?_)
    refine So.q rfl rfl (V.pkFalse (u := .p (.v (.bool _))) rfl rfl ?_)
    refine So.q rfl rfl (V.mv (v := .p (.v (.bool _))) rfl ?_)
    refine So.gd rfl rfl (lk rfl) (lk rfl) (fun h2 => ?_) (fun h2 => ?_)
    · have h2 := of_decide_eq_false h2
      refine A.v rfl (V.mv (v := .p (.str _)) rfl ?_)
      refine So.gy rfl rfl (lk rfl) (lk rfl) ?_
      refine A.v rfl (V.lenStr ty9 rfl ?_)
      refine So.gy rfl rfl (lk rfl) (lk rfl) ?_
      refine A.v rfl (V.bin (a := (.v (.int .i64 _))) (b := (.v (.int .i64 (40)))) (r := .v (.bool _)) rfl rfl rfl trivial ?_)
      refine So.q rfl rfl (V.pkFalse (u := .p (.v (.bool _))) rfl rfl ?_)
      refine So.q rfl rfl (V.mv (v := .p (.v (.bool _))) rfl ?_)
      refine So.gd rfl rfl (lk rfl) (lk rfl) (fun h3 => ?_) (fun h3 => ?_)
      · have h3 := of_decide_eq_false h3
        refine A.v rfl (V.mv (v := .p (.bs _)) rfl ?_)
        refine So.gy rfl rfl (lk rfl) (lk rfl) ?_
        refine A.v rfl (V.len ty22 (v := .p (.bs _)) rfl rfl ?_)
        refine So.gy rfl rfl (lk rfl) (lk rfl) ?_
        refine A.v rfl (V.bin (a := (.v (.int .i64 _))) (b := (.v (.int .i64 (16000)))) (r := .v (.bool _)) rfl rfl rfl trivial ?_)
        refine So.q rfl rfl (V.pkFalse (u := .p (.v (.bool _))) rfl rfl ?_)
        refine So.e ?_
        show HT _ _ _ _ _
        refine R.cond rfl rfl (fun h4 => ?_) (fun h4 => ?_)
        · have h4 := of_decide_eq_true h4
          refine HT.seq ?_
          refine HT.region S_hlabel_ok ?_
          refine So.q rfl rfl (V.as (v := .p (.v (.slice none 0 0))) rfl ?_)
          refine So.e ?_
          show HT _ _ _ _ _
          refine R.phan 8 1 5 1 (.bs []) rfl rfl rfl ⟨rfl, rfl⟩ ?_
          refine HT.ret ?_
          exact ret_ok (sg [(2, 1)]) h rfl rfl rfl ⟨trivial, trivial⟩ ⟨rfl, trivial⟩ rfl ⟨⟨⟨le_own2 (by first | rfl | omega) (by first | (show (_ : Nat) = _; first | (rw [labelF_no (by omega)]; rfl) | (rw [labelF_yes (by omega)])) | (show (_ : List UInt8) = _; first | (rw [labelF_no (by omega)]; done) | (rw [labelF_yes (by omega)])) | rfl), rfl⟩, trivial⟩, ⟨⟨_, rfl, .inl (ob_bs (by first | rfl | ((try dsimp only); (first | (show (_ : Nat) = _; first | (rw [labelF_no (by omega)]; rfl) | (rw [labelF_yes (by omega)])) | (show (_ : List UInt8) = _; first | (rw [labelF_no (by omega)]; done) | (rw [labelF_yes (by omega)])) | rfl))) (by first | rfl | ((try dsimp only); (first | (show (_ : Nat) = _; first | (rw [labelF_no (by omega)]; rfl) | (rw [labelF_yes (by omega)])) | (show (_ : List UInt8) = _; first | (rw [labelF_no (by omega)]; done) | (rw [labelF_yes (by omega)])) | rfl)))), trivial⟩, trivial⟩⟩
        · have h4 := of_decide_eq_false h4
          refine HT.skip ?_
          show HT _ _ _ _ _
          refine HT.seq ?_
          refine HT.region S_hlabel_ok ?_
          refine So.q rfl rfl (V.mv (v := .p (.bs _)) rfl ?_)
          refine So.q rfl rfl (V.mv (v := .p (.v (.int .i64 _))) rfl ?_)
          refine So.q rfl rfl (V.shrI (n := 8) (M := 256) rfl rfl rfl (by decide) ?_)
          refine So.q rfl rfl (V.cvN ty5 ty3 (a := (.v (.int .i64 _))) (r := (.u8 _)) rfl rfl ?_)
          refine So.q rfl rfl (V.mv (v := .p (.v (.int .i64 _))) rfl ?_)
          refine So.q rfl rfl (V.cvN ty5 ty3 (a := (.v (.int .i64 _))) (r := (.u8 _)) rfl rfl ?_)
          refine So.n (lk rfl) (A.bsl 1 ty22 ty5 rfl (lk rfl) (lk rfl) (fun _ => rfl) rfl rfl trivial ⟨trivial, trivial, trivial⟩ rfl (N := 2) rfl (c := .bs [_, _]) rfl ?_)
          refine So.q rfl rfl (V.mv (v := .p (.str _)) rfl ?_)
          refine So.q rfl rfl (V.bin (a := (.str [71, 75, 65, 32, 49, 46, 48, 32])) (b := (.str _)) (r := .str _) rfl rfl rfl (by first | rfl | omega | (simp; done) | (simp; omega) | (simp [maxLen]; omega)) ?_)
          refine So.n (lk rfl) (A.cvS 2 ty22 ty5 ty9 rfl rfl (by first | rfl | omega | (simp; done) | (simp; omega) | (simp [maxLen]; omega)) rfl trivial ?_)
          refine So.n (lk rfl) (A.call0 [.p (.bs _)] 3 rfl rfl rfl rfl ⟨trivial, trivial⟩ trivial (lbl ++ m) ⟨le_bs (by rw [take_full]; rfl), trivial⟩ trivial (by first | omega | (simp; done) | (simp; omega)) (Φ := fun _ => True) (fun _ _ => trivial) (.inr ⟨trivial, by simp [Hp.scal, OC.scal, PV.scal, BV.scal]⟩) (v := .own 5 0 _) rfl (O' := (5, ⟨5, 1, _, true, .bs _⟩) :: _) rfl (fun h5 => ?_))
          refine So.q rfl rfl (V.mv (v := .p (.bs _)) rfl ?_)
          refine So.n (lk rfl) (A.call0 [.p (.bs _)] 6 rfl rfl rfl rfl ⟨trivial, trivial⟩ trivial _ ⟨.refl _, trivial⟩ trivial (by first | omega | (simp; done) | (simp; omega)) (Φ := fun _ => True) (fun _ _ => trivial) (.inl rfl) (v := .own 8 0 _) rfl (O' := (8, ⟨5, 1, _, true, .bs _⟩) :: _) rfl (fun h6 => ?_))
          refine So.n (lk rfl) (A.bsl 3 ty52 ty22 rfl (lk rfl) (lk rfl) (fun _ => rfl) rfl rfl trivial ⟨trivial, trivial, trivial, trivial⟩ rfl (N := 3) rfl (c := .rows _) rfl ?_)
          refine So.n (lk rfl) (A.call0 [.p (.sl _ _ _)] 4 rfl rfl rfl rfl ⟨trivial, trivial⟩ trivial [[UInt8.ofInt (n / 256), UInt8.ofInt n], longF (lbl ++ m), longF c] ⟨le_sl rfl (by intro j hj; match j, hj with | 0, _ => rfl | 1, _ => exact congrArg PV.bs (take_full _) | 2, _ => exact congrArg PV.bs (take_full _)), trivial⟩ trivial (by first | omega | (simp; done) | (simp; omega)) (Φ := fun _ => True) (fun _ _ => trivial) (.inr ⟨trivial, by simp [Hp.scal, OC.scal, PV.scal, BV.scal]⟩) (v := .own 6 0 _) rfl (O' := (6, ⟨5, 1, _, true, .bs _⟩) :: _) rfl (fun h7 => ?_))
          refine So.q rfl rfl (V.mv (v := .p (.v (.int .i64 _))) rfl ?_)
          refine So.n (lk rfl) (A.call0 [.p (.bs _), .p (.bs _), .p (.v (.int .i64 _))] 7 rfl rfl rfl rfl ⟨trivial, trivial, trivial, trivial⟩ trivial (k, infoG m c n, n) ⟨.refl _, le_bs (by rw [take_full]; exact infoG_cat m c n), .refl _, trivial⟩ trivial (by first | omega | (simp; done) | (simp; omega)) (Φ := fun _ => True) (fun _ _ => trivial) (.inr ⟨trivial, by simp [Hp.scal, OC.scal, PV.scal, BV.scal]⟩) (v := .own 9 0 _) rfl (O' := (9, ⟨5, 1, _, true, .bs _⟩) :: _) rfl (fun h8 => ?_))
          refine So.q rfl rfl (V.as (v := .own 9 0 _) rfl ?_)
          refine So.e ?_
          show HT _ _ _ _ _
          refine HT.ret ?_
          exact ret_ok (sg [(2, 9)]) h rfl rfl rfl ⟨trivial, trivial⟩ ⟨rfl, trivial⟩ rfl ⟨⟨⟨le_own2 (by first | rfl | omega) (by first | (show (_ : Nat) = _; first | (rw [labelF_no (by omega)]; rfl) | (rw [labelF_yes (by omega)])) | (show (_ : List UInt8) = _; first | (rw [labelF_no (by omega)]; done) | (rw [labelF_yes (by omega)])) | rfl), rfl⟩, trivial⟩, ⟨⟨_, rfl, .inl (ob_bs (by first | rfl | ((try dsimp only); (first | (show (_ : Nat) = _; first | (rw [labelF_no (by omega)]; rfl) | (rw [labelF_yes (by omega)])) | (show (_ : List UInt8) = _; first | (rw [labelF_no (by omega)]; done) | (rw [labelF_yes (by omega)])) | rfl))) (by first | rfl | ((try dsimp only); (first | (show (_ : Nat) = _; first | (rw [labelF_no (by omega)]; rfl) | (rw [labelF_yes (by omega)])) | (show (_ : List UInt8) = _; first | (rw [labelF_no (by omega)]; done) | (rw [labelF_yes (by omega)])) | rfl)))), trivial⟩, trivial⟩⟩
      · have h3 := of_decide_eq_true h3
        refine So.gn (b := true) rfl rfl rfl (lk rfl) (lk rfl) ?_
        refine So.gn (b := true) rfl rfl rfl (lk rfl) (lk rfl) ?_
        refine So.q rfl rfl (V.pkTrue (u := .p (.v (.bool true))) rfl rfl ?_)
        refine So.e ?_
        show HT _ _ _ _ _
        refine R.condT rfl ?_
        refine HT.seq ?_
        refine HT.region S_hlabel_ok ?_
        refine So.q rfl rfl (V.as (v := .p (.v (.slice none 0 0))) rfl ?_)
        refine So.e ?_
        show HT _ _ _ _ _
        refine R.phan 8 1 5 1 (.bs []) rfl rfl rfl ⟨rfl, rfl⟩ ?_
        refine HT.ret ?_
        exact ret_ok (sg [(2, 1)]) h rfl rfl rfl ⟨trivial, trivial⟩ ⟨rfl, trivial⟩ rfl ⟨⟨⟨le_own2 (by first | rfl | omega) (by first | (show (_ : Nat) = _; first | (rw [labelF_no (by omega)]; rfl) | (rw [labelF_yes (by omega)])) | (show (_ : List UInt8) = _; first | (rw [labelF_no (by omega)]; done) | (rw [labelF_yes (by omega)])) | rfl), rfl⟩, trivial⟩, ⟨⟨_, rfl, .inl (ob_bs (by first | rfl | ((try dsimp only); (first | (show (_ : Nat) = _; first | (rw [labelF_no (by omega)]; rfl) | (rw [labelF_yes (by omega)])) | (show (_ : List UInt8) = _; first | (rw [labelF_no (by omega)]; done) | (rw [labelF_yes (by omega)])) | rfl))) (by first | rfl | ((try dsimp only); (first | (show (_ : Nat) = _; first | (rw [labelF_no (by omega)]; rfl) | (rw [labelF_yes (by omega)])) | (show (_ : List UInt8) = _; first | (rw [labelF_no (by omega)]; done) | (rw [labelF_yes (by omega)])) | rfl)))), trivial⟩, trivial⟩⟩
    · have h2 := of_decide_eq_true h2
      refine So.gn (b := true) rfl rfl rfl (lk rfl) (lk rfl) ?_
      refine So.gn (b := true) rfl rfl rfl (lk rfl) (lk rfl) ?_
      refine So.q rfl rfl (V.pkTrue (u := .p (.v (.bool true))) rfl rfl ?_)
      refine So.q rfl rfl (V.mv (v := .p (.v (.bool true))) rfl ?_)
      refine So.gn (b := true) rfl rfl rfl (lk rfl) (lk rfl) ?_
      refine So.gn (b := true) rfl rfl rfl (lk rfl) (lk rfl) ?_
      refine So.gn (b := true) rfl rfl rfl (lk rfl) (lk rfl) ?_
      refine So.q rfl rfl (V.pkTrue (u := .p (.v (.bool true))) rfl rfl ?_)
      refine So.e ?_
      show HT _ _ _ _ _
      refine R.condT rfl ?_
      refine HT.seq ?_
      refine HT.region S_hlabel_ok ?_
      refine So.q rfl rfl (V.as (v := .p (.v (.slice none 0 0))) rfl ?_)
      refine So.e ?_
      show HT _ _ _ _ _
      refine R.phan 8 1 5 1 (.bs []) rfl rfl rfl ⟨rfl, rfl⟩ ?_
      refine HT.ret ?_
      exact ret_ok (sg [(2, 1)]) h rfl rfl rfl ⟨trivial, trivial⟩ ⟨rfl, trivial⟩ rfl ⟨⟨⟨le_own2 (by first | rfl | omega) (by first | (show (_ : Nat) = _; first | (rw [labelF_no (by omega)]; rfl) | (rw [labelF_yes (by omega)])) | (show (_ : List UInt8) = _; first | (rw [labelF_no (by omega)]; done) | (rw [labelF_yes (by omega)])) | rfl), rfl⟩, trivial⟩, ⟨⟨_, rfl, .inl (ob_bs (by first | rfl | ((try dsimp only); (first | (show (_ : Nat) = _; first | (rw [labelF_no (by omega)]; rfl) | (rw [labelF_yes (by omega)])) | (show (_ : List UInt8) = _; first | (rw [labelF_no (by omega)]; done) | (rw [labelF_yes (by omega)])) | rfl))) (by first | rfl | ((try dsimp only); (first | (show (_ : Nat) = _; first | (rw [labelF_no (by omega)]; rfl) | (rw [labelF_yes (by omega)])) | (show (_ : List UInt8) = _; first | (rw [labelF_no (by omega)]; done) | (rw [labelF_yes (by omega)])) | rfl)))), trivial⟩, trivial⟩⟩
  · have h1 := of_decide_eq_true h1
    refine So.gn (b := true) rfl rfl rfl (lk rfl) (lk rfl) ?_
    refine So.q rfl rfl (V.pkTrue (u := .p (.v (.bool true))) rfl rfl ?_)
    refine So.q rfl rfl (V.mv (v := .p (.v (.bool true))) rfl ?_)
    refine So.gn (b := true) rfl rfl rfl (lk rfl) (lk rfl) ?_
    refine So.gn (b := true) rfl rfl rfl (lk rfl) (lk rfl) ?_
    refine So.gn (b := true) rfl rfl rfl (lk rfl) (lk rfl) ?_
    refine So.q rfl rfl (V.pkTrue (u := .p (.v (.bool true))) rfl rfl ?_)
    refine So.q rfl rfl (V.mv (v := .p (.v (.bool true))) rfl ?_)
    refine So.gn (b := true) rfl rfl rfl (lk rfl) (lk rfl) ?_
    refine So.gn (b := true) rfl rfl rfl (lk rfl) (lk rfl) ?_
    refine So.gn (b := true) rfl rfl rfl (lk rfl) (lk rfl) ?_
    refine So.q rfl rfl (V.pkTrue (u := .p (.v (.bool true))) rfl rfl ?_)
    refine So.e ?_
    show HT _ _ _ _ _
    refine R.condT rfl ?_
    refine HT.seq ?_
    refine HT.region S_hlabel_ok ?_
    refine So.q rfl rfl (V.as (v := .p (.v (.slice none 0 0))) rfl ?_)
    refine So.e ?_
    show HT _ _ _ _ _
    refine R.phan 8 1 5 1 (.bs []) rfl rfl rfl ⟨rfl, rfl⟩ ?_
    refine HT.ret ?_
    exact ret_ok (sg [(2, 1)]) h rfl rfl rfl ⟨trivial, trivial⟩ ⟨rfl, trivial⟩ rfl ⟨⟨⟨le_own2 (by first | rfl | omega) (by first | (show (_ : Nat) = _; first | (rw [labelF_no (by omega)]; rfl) | (rw [labelF_yes (by omega)])) | (show (_ : List UInt8) = _; first | (rw [labelF_no (by omega)]; done) | (rw [labelF_yes (by omega)])) | rfl), rfl⟩, trivial⟩, ⟨⟨_, rfl, .inl (ob_bs (by first | rfl | ((try dsimp only); (first | (show (_ : Nat) = _; first | (rw [labelF_no (by omega)]; rfl) | (rw [labelF_yes (by omega)])) | (show (_ : List UInt8) = _; first | (rw [labelF_no (by omega)]; done) | (rw [labelF_yes (by omega)])) | rfl))) (by first | rfl | ((try dsimp only); (first | (show (_ : Nat) = _; first | (rw [labelF_no (by omega)]; rfl) | (rw [labelF_yes (by omega)])) | (show (_ : List UInt8) = _; first | (rw [labelF_no (by omega)]; done) | (rw [labelF_yes (by omega)])) | rfl)))), trivial⟩, trivial⟩⟩

end Go.Vh

set_option linter.unusedVariables false
set_option linter.unusedSimpArgs false
namespace Go.Vh
open Go Go.Vc Go.Proofs Go.Vw

/-! ### sodality/sched.Joiner -/
def joinerSp : Sp := ⟨[], mkE (α := (List UInt8) × (List UInt8) × (List UInt8)) (fun (a, c, x) => [.p (.bs (a)), .p (.bs (c)), .p (.bs (x))]) (fun (a, c, x) => []) (fun (a, c, x) => a.length ≤ 1000000000 ∧ c.length ≤ 1000000000 ∧ x.length ≤ 1000000000) (fun (a, c, x) => [.own 2 (0) ((joinF a c x).length)]) (fun (a, c, x) => [(2, ⟨5, 1, (joinF a c x).length, true, .bs (joinF a c x)⟩)])⟩
def S_joiner : FuncId → Option Sp := fun f => if f = 24 then some shortSp else if f = 23 then some extractSp else if f = 21 then some hlabelSp else none
theorem S_joiner_ok : ∀ f s, S_joiner f = some s → FOK Tryd.prog gl f s := fun f s h => by
  unfold S_joiner at h
  split at h
  · rename_i e; cases h; subst e; exact short_ok
  split at h
  · rename_i e; cases h; subst e; exact extract_ok
  split at h
  · rename_i e; cases h; subst e; exact hlabel_ok
  cases h
theorem S_joiner_det : ∀ f s, S_joiner f = some s → SpDet s.sp := fun f s h => by
  unfold S_joiner at h
  split at h
  · cases h; exact mkE_det _ _ _ _ _
  split at h
  · cases h; exact mkE_det _ _ _ _ _
  split at h
  · cases h; exact mkE_det _ _ _ _ _
  cases h
set_option maxHeartbeats 1000000 in
set_option maxRecDepth 1000 in
theorem joiner_ok : FOK Tryd.prog gl 10 joinerSp := by
  refine FOK.ofE (tyOf_ok Tryd.prog) (slots := [6]) (nt := 15) Tryd.func10 rfl rfl rfl rfl (by decide) 3 (fun ⟨_, _, _⟩ => rfl) (by decide) (fun ⟨_, _, _⟩ => ⟨trivial, trivial, trivial, trivial⟩) ?_
  rintro ⟨a, c, x⟩ kk hlen hpre h
  have hl0 : (a).length ≤ 9223372036854775807 := hlen.1
  have hl1 : (c).length ≤ 9223372036854775807 := hlen.2.1
  have hl2 : (x).length ≤ 9223372036854775807 := hlen.2.2.1
  replace hpre : a.length ≤ 1000000000 ∧ c.length ≤ 1000000000 ∧ x.length ≤ 1000000000 := hpre
  show HT (cx Tryd.prog 15 (tyOf Tryd.prog) gl []) _ [(0, .p (.bs (a))), (1, .p (.bs (c))), (2, .p (.bs (x)))] [] _
  have hs0 := shortF_len a
  have hs1 := shortF_len c
  have hs2 := shortF_len x
  have hm0 := mac_len (shortF a) (shortF c)
  refine HT.seq ?_
  refine HT.region S_joiner_ok ?_
  refine So.q rfl rfl (V.as (v := .p (.v (.slice none 0 0))) rfl ?_)
  refine So.e ?_
  show HT _ _ _ _ _
  refine HT.seq ?_
  refine HT.region S_joiner_ok ?_
  refine So.q rfl rfl (V.mv (v := .p (.bs _)) rfl ?_)
  refine So.n (lk rfl) (A.call0 [.p (.bs _)] 1 rfl rfl rfl rfl ⟨trivial, trivial⟩ trivial _ ⟨.refl _, trivial⟩ trivial (by first | omega | (simp only [List.drop_zero, List.take_length]; omega) | (simp; done) | (simp; omega)) (Φ := fun _ => True) (fun _ _ => trivial) (.inl rfl) (v := .p (.bs _)) rfl (O' := _) rfl (fun h1 => ?_))
  refine So.q rfl rfl (V.mv (v := .p (.bs _)) rfl ?_)
  refine So.n (lk rfl) (A.call0 [.p (.bs _)] 1 rfl rfl rfl rfl ⟨trivial, trivial⟩ trivial _ ⟨.refl _, trivial⟩ trivial (by first | omega | (simp only [List.drop_zero, List.take_length]; omega) | (simp; done) | (simp; omega)) (Φ := fun _ => True) (fun _ _ => trivial) (.inl rfl) (v := .p (.bs _)) rfl (O' := _) rfl (fun h2 => ?_))
  refine So.n (lk rfl) (A.call0 [.p (.bs _), .p (.bs _)] 1 rfl rfl rfl rfl ⟨trivial, trivial, trivial⟩ trivial (_, _) ⟨.refl _, .refl _, trivial⟩ trivial (by first | omega | (simp only [List.drop_zero, List.take_length]; omega) | (simp; done) | (simp; omega)) (Φ := fun _ => True) (fun _ _ => trivial) (.inl rfl) (v := .own 3 0 _) rfl (O' := (3, ⟨5, 1, _, true, .bs _⟩) :: _) rfl (fun h3 => ?_))
  refine So.q rfl rfl (V.mv (v := .p (.bs _)) rfl ?_)
  refine So.n (lk rfl) (A.call0 [.p (.bs _)] 4 rfl rfl rfl rfl ⟨trivial, trivial⟩ trivial _ ⟨.refl _, trivial⟩ trivial (by first | omega | (simp only [List.drop_zero, List.take_length]; omega) | (simp; done) | (simp; omega)) (Φ := fun _ => True) (fun _ _ => trivial) (.inl rfl) (v := .p (.bs _)) rfl (O' := _) rfl (fun h4 => ?_))
  refine So.n (lk rfl) (A.call0 [.p (.bs _), .p (.str _), .p (.bs _), .p (.v (.int .i64 _))] 4 rfl rfl rfl rfl ⟨trivial, trivial, trivial, trivial, trivial⟩ trivial (mac (shortF a) (shortF c), nJoiner, shortF x, 32) ⟨le_bs (by rw [List.drop_zero, List.take_of_length_le (by omega)]), .refl _, .refl _, .refl _, trivial⟩ trivial (by first | omega | (simp; done) | (simp; omega)) (Φ := fun _ => True) (fun _ _ => trivial) (.inr ⟨trivial, by simp [Hp.scal, OC.scal, PV.scal, BV.scal]⟩) (v := .own 6 0 _) rfl (O' := (6, ⟨5, 1, _, true, .bs _⟩) :: _) rfl (fun h5 => ?_))
  refine So.q rfl rfl (V.as (v := .own 6 0 _) rfl ?_)
  refine So.e ?_
  show HT _ _ _ _ _
  refine HT.ret ?_
  exact ret_ok (sg [(2, 6)]) h rfl rfl rfl ⟨trivial, trivial⟩ ⟨rfl, trivial⟩ rfl ⟨⟨⟨le_own2 (by first | rfl | omega) (by first | rfl), rfl⟩, trivial⟩, ⟨⟨_, rfl, .inl (ob_bs (by first | rfl | ((try dsimp only); (first | rfl))) (by first | rfl | ((try dsimp only); (first | rfl)))), trivial⟩, trivial⟩⟩

end Go.Vh

set_option linter.unusedVariables false
set_option linter.unusedSimpArgs false
namespace Go.Vh
open Go Go.Vc Go.Proofs Go.Vw

/-! ### fill1 -/
def fill1Sp : Sp := ⟨[2], mkE (α := (List UInt8) × (List UInt8) × (Nat → PV)) (fun (k, nm, f) => [.p (.bs (k)), .own 1 (0) (1)]) (fun (k, nm, f) => [(1, ⟨42, 2, 2, true, .cells [.p (.str (nm)), .ptr 2 (0)]⟩), (2, ⟨28, 1, 7, true, .rows (f)⟩)]) (fun (k, nm, f) => k.length ≤ 1000000000) (fun (k, nm, f) => []) (fun (k, nm, f) => [(2, ⟨28, 1, 7, true, .rows (fun j => if j = 0 then .bs (labelF k nm [] 32) else f j)⟩)])⟩
def S_fill1 : FuncId → Option Sp := fun f => if f = 21 then some hlabelSp else none
theorem S_fill1_ok : ∀ f s, S_fill1 f = some s → FOK Tryd.prog gl f s := fun f s h => by
  unfold S_fill1 at h
  split at h
  · rename_i e; cases h; subst e; exact hlabel_ok
  cases h
theorem S_fill1_det : ∀ f s, S_fill1 f = some s → SpDet s.sp := fun f s h => by
  unfold S_fill1 at h
  split at h
  · cases h; exact mkE_det _ _ _ _ _
  cases h
set_option maxHeartbeats 1000000 in
set_option maxRecDepth 1000 in
theorem fill1_ok : FOK Tryd.prog gl 28 fill1Sp := by
  refine FOK.ofE (tyOf_ok Tryd.prog) (slots := []) (nt := 20) Tryd.func28 rfl rfl rfl rfl (by decide) 2 (fun ⟨_, _, _⟩ => rfl) (by decide) (fun ⟨_, _, _⟩ => ⟨trivial, rfl, trivial⟩) ?_
  rintro ⟨k, nm, f⟩ kk hlen hpre h
  have hl0 : (k).length ≤ 9223372036854775807 := hlen.1
  have hl1 : _ ≤ 9223372036854775807 := hlen.2.1
  replace hpre : k.length ≤ 1000000000 := hpre
  show HT (cx Tryd.prog 20 (tyOf Tryd.prog) gl [2]) _ [(0, .p (.bs (k))), (1, .own 1 (0) (1))] [(1, ⟨42, 2, 2, true, .cells [.p (.str (nm)), .ptr 2 (0)]⟩), (2, ⟨28, 1, 7, true, .rows (f)⟩)] _
  refine HT.seq ?_
  refine HT.region S_fill1_ok ?_
  refine So.q rfl rfl (V.mv (v := .own 1 0 _) rfl ?_)
  refine So.q rfl rfl (V.len ty51 (v := .own 1 0 _) rfl rfl ?_)
  refine So.q rfl rfl (V.mv (v := .p (.v (.int .i64 (0)))) rfl ?_)
  refine So.e ?_
  show HT _ _ _ _ _
  refine HT.block ?_
  refine HT.rounds 2 ?_
  show HT _ _ _ _ _
  refine HT.seq ?_
  refine HT.region S_fill1_ok ?_
  refine So.q rfl rfl (V.bin (a := (.v (.int .i64 _))) (b := (.v (.int .i64 _))) (r := .v (.bool _)) rfl rfl rfl trivial ?_)
  refine So.e ?_
  show HT _ _ _ _ _
  refine HT.seq ?_
  refine R.cond rfl rfl (fun h1 => ?_) (fun h1 => ?_)
  · have h1 := of_decide_eq_true h1
    refine HT.skip ?_
    show HT _ _ _ _ _
    refine HT.seq ?_
    refine HT.block ?_
    refine HT.seq ?_
    refine HT.region S_fill1_ok ?_
    refine So.q rfl rfl (V.ixOwnS0 ty51 ty42 (s := 2) rfl rfl rfl rfl rfl (by omega) rfl ?_)
    refine So.q rfl rfl (V.ldPtrG ty42 rfl rfl rfl rfl (by first | rfl | omega | (simp; done) | (simp; omega)) rfl ?_)
    refine So.n (lk rfl) (A.alloc 3 1 ty42 rfl ⟨lk rfl, trivial⟩ (f := fun j => ([.str [], .v (.pointer none)] : List PV).getD j (.v undef)) (fun j hj => by match j, hj with | 0, _ => rfl | 1, _ => rfl) ?_)
    refine So.s (A.stoG [.p (.str _), .ptr 2 0] ty42 rfl rfl (by decide) (by intro j hj; match j, hj with | 0, _ => (first | exact trivial | exact rfl) | 1, _ => (first | exact trivial | exact rfl)) rfl rfl (by intro j hj; match j, hj with | 0, _ => rfl | 1, _ => rfl) rfl ?_)
    refine So.e ?_
    show HT _ _ _ _ _
    refine HT.planS S_fill1_ok S_fill1_det mixed [] [⟨[0, 1, 2, 3, 4, 5, 6], 7, []⟩] (by kernel_rfl) ?_
    refine Pl.l0 ?_
    refine Si.n rfl (lk rfl) (V.faPtr ty42 rfl ty40 (lk rfl) rfl rfl (by first | exact lk rfl | first | rfl | omega | (simp; done) | (simp; omega)) ?_)
    refine Si.n rfl (lk rfl) (V.ldPtr ty40 rfl rfl rfl (lk rfl) (v := .ptr 2 0) rfl ?_)
    refine Si.n rfl (lk rfl) (V.mv (v := .p (.bs _)) rfl ?_)
    refine Si.n rfl (lk rfl) (V.faPtr ty42 rfl ty9 (lk rfl) rfl rfl (by first | exact lk rfl | first | rfl | omega | (simp; done) | (simp; omega)) ?_)
    refine Si.n rfl (lk rfl) (V.ldPtr ty9 rfl rfl rfl (lk rfl) (v := .p (.str _)) rfl ?_)
    refine Si.n rfl (lk rfl) (V.call [.p (.bs _), .p (.str _), .p (.v (.slice none 0 0)), .p (.v (.int .i64 _))] 4 rfl rfl rfl rfl ⟨trivial, trivial, trivial, trivial, trivial⟩ ⟨lk rfl, trivial⟩ (_, _, _, _) ⟨.refl _, .refl _, le_nil rfl, .refl _, trivial⟩ trivial (by first | omega | (simp; done) | (simp; omega)) (Φ := fun _ => True) (fun _ _ => trivial) (.inl ⟨trivial, trivial, trivial, trivial, trivial⟩) (v := .p (.bs _)) rfl (fun h2 => ?_))
    refine Si.n rfl (lk rfl) (V.ncPtr rfl ?_)
    refine Si.e ?_
    refine ⟨flEq_nil, ?_⟩
    refine Lo.s rfl (A.sto ty22 rfl rfl rfl (v := .p (.bs _)) rfl trivial rfl (by first | rfl | omega | (simp; done) | (simp; omega)) rfl rfl ?_)
    refine Pl.e ?_
    refine Si.e ?_
    refine ⟨flEq_nil, ?_⟩
    show HT _ _ _ _ _
    refine HT.region S_fill1_ok ?_
    refine So.q rfl rfl (V.addI rfl rfl (by omega) ?_)
    refine So.q rfl rfl (V.mv (v := .p (.v (.int .i64 _))) rfl ?_)
    refine So.e ?_
    show HT _ _ _ _ _
    refine HT.seq ?_
    refine HT.region S_fill1_ok ?_
    refine So.q rfl rfl (V.bin (a := (.v (.int .i64 _))) (b := (.v (.int .i64 _))) (r := .v (.bool _)) rfl rfl rfl trivial ?_)
    refine So.e ?_
    show HT _ _ _ _ _
    refine HT.seq ?_
    refine R.cond rfl rfl (fun h3 => ?_) (fun h3 => ?_)
    · have h3 := of_decide_eq_true h3
      exfalso; omega
    · have h3 := of_decide_eq_false h3
      refine HT.exit ?_
      exact ret_ok (sg [(2, 2)]) h rfl rfl rfl ⟨trivial, trivial⟩ trivial rfl ⟨trivial, ⟨⟨_, rfl, .inr (ob_rows (by first | rfl | ((try dsimp only); (first | rfl | (intro j hj; simp only [take_full]; done) | (intro j hj; simp only [take_full]; rfl)))) (by first | rfl | ((try dsimp only); (first | rfl | (intro j hj; simp only [take_full]; done) | (intro j hj; simp only [take_full]; rfl))))), trivial⟩, trivial⟩⟩
  · have h1 := of_decide_eq_false h1
    exfalso; omega

/-! ### fill5 -/
def fill5Sp : Sp := ⟨[2], mkE (α := (List UInt8) × (List UInt8) × (List UInt8) × (List UInt8) × (List UInt8) × (List UInt8) × (Nat → PV)) (fun (k, n2, n3, n4, n5, n6, f) => [.p (.bs (k)), .own 1 (0) (5)]) (fun (k, n2, n3, n4, n5, n6, f) => [(1, ⟨42, 2, 10, true, .cells [.p (.str (n2)), .ptr 2 (2), .p (.str (n3)), .ptr 2 (3), .p (.str (n4)), .ptr 2 (4), .p (.str (n5)), .ptr 2 (5), .p (.str (n6)), .ptr 2 (6)]⟩), (2, ⟨28, 1, 7, true, .rows (f)⟩)]) (fun (k, n2, n3, n4, n5, n6, f) => k.length ≤ 1000000000) (fun (k, n2, n3, n4, n5, n6, f) => []) (fun (k, n2, n3, n4, n5, n6, f) => [(2, ⟨28, 1, 7, true, .rows (fun j => if j = 6 then .bs (labelF k n6 [] 32) else if j = 5 then .bs (labelF k n5 [] 32) else if j = 4 then .bs (labelF k n4 [] 32) else if j = 3 then .bs (labelF k n3 [] 32) else if j = 2 then .bs (labelF k n2 [] 32) else f j)⟩)])⟩
def S_fill5 : FuncId → Option Sp := fun f => if f = 21 then some hlabelSp else none
theorem S_fill5_ok : ∀ f s, S_fill5 f = some s → FOK Tryd.prog gl f s := fun f s h => by
  unfold S_fill5 at h
  split at h
  · rename_i e; cases h; subst e; exact hlabel_ok
  cases h
theorem S_fill5_det : ∀ f s, S_fill5 f = some s → SpDet s.sp := fun f s h => by
  unfold S_fill5 at h
  split at h
  · cases h; exact mkE_det _ _ _ _ _
  cases h
set_option maxHeartbeats 1000000 in
set_option maxRecDepth 20000 in
theorem fill5_ok : FOK Tryd.prog gl 28 fill5Sp := by
  refine FOK.ofE (tyOf_ok Tryd.prog) (slots := []) (nt := 20) Tryd.func28 rfl rfl rfl rfl (by decide) 2 (fun ⟨_, _, _, _, _, _, _⟩ => rfl) (by decide) (fun ⟨_, _, _, _, _, _, _⟩ => ⟨trivial, rfl, trivial⟩) ?_
  rintro ⟨k, n2, n3, n4, n5, n6, f⟩ kk hlen hpre h
  have hl0 : (k).length ≤ 9223372036854775807 := hlen.1
  have hl1 : _ ≤ 9223372036854775807 := hlen.2.1
  replace hpre : k.length ≤ 1000000000 := hpre
  show HT (cx Tryd.prog 20 (tyOf Tryd.prog) gl [2]) _ [(0, .p (.bs (k))), (1, .own 1 (0) (5))] [(1, ⟨42, 2, 10, true, .cells [.p (.str (n2)), .ptr 2 (2), .p (.str (n3)), .ptr 2 (3), .p (.str (n4)), .ptr 2 (4), .p (.str (n5)), .ptr 2 (5), .p (.str (n6)), .ptr 2 (6)]⟩), (2, ⟨28, 1, 7, true, .rows (f)⟩)] _
  refine HT.seq ?_
  refine HT.region S_fill5_ok ?_
  refine So.q rfl rfl (V.mv (v := .own 1 0 _) rfl ?_)
  refine So.q rfl rfl (V.len ty51 (v := .own 1 0 _) rfl rfl ?_)
  refine So.q rfl rfl (V.mv (v := .p (.v (.int .i64 (0)))) rfl ?_)
  refine So.e ?_
  show HT _ _ _ _ _
  refine HT.block ?_
  refine HT.rounds 6 ?_
  show HT _ _ _ _ _
  refine HT.seq ?_
  refine HT.region S_fill5_ok ?_
  refine So.q rfl rfl (V.bin (a := (.v (.int .i64 _))) (b := (.v (.int .i64 _))) (r := .v (.bool _)) rfl rfl rfl trivial ?_)
  refine So.e ?_
  show HT _ _ _ _ _
  refine HT.seq ?_
  refine R.cond rfl rfl (fun h1 => ?_) (fun h1 => ?_)
  · have h1 := of_decide_eq_true h1
    refine HT.skip ?_
    show HT _ _ _ _ _
    refine HT.seq ?_
    refine HT.block ?_
    refine HT.seq ?_
    refine HT.region S_fill5_ok ?_
    refine So.q rfl rfl (V.ixOwnS0 ty51 ty42 (s := 2) rfl rfl rfl rfl rfl (by omega) rfl ?_)
    refine So.q rfl rfl (V.ldPtrG ty42 rfl rfl rfl rfl (by first | rfl | omega | (simp; done) | (simp; omega)) rfl ?_)
    refine So.n (lk rfl) (A.alloc 3 1 ty42 rfl ⟨lk rfl, trivial⟩ (f := fun j => ([.str [], .v (.pointer none)] : List PV).getD j (.v undef)) (fun j hj => by match j, hj with | 0, _ => rfl | 1, _ => rfl) ?_)
    refine So.s (A.stoG [.p (.str _), .ptr 2 2] ty42 rfl rfl (by decide) (by intro j hj; match j, hj with | 0, _ => (first | exact trivial | exact rfl) | 1, _ => (first | exact trivial | exact rfl)) rfl rfl (by intro j hj; match j, hj with | 0, _ => rfl | 1, _ => rfl) rfl ?_)
    refine So.e ?_
    show HT _ _ _ _ _
    refine HT.planS S_fill5_ok S_fill5_det mixed [] [⟨[0, 1, 2, 3, 4, 5, 6], 7, []⟩] (by kernel_rfl) ?_
    refine Pl.l0 ?_
    refine Si.n rfl (lk rfl) (V.faPtr ty42 rfl ty40 (lk rfl) rfl rfl (by first | exact lk rfl | first | rfl | omega | (simp; done) | (simp; omega)) ?_)
    refine Si.n rfl (lk rfl) (V.ldPtr ty40 rfl rfl rfl (lk rfl) (v := .ptr 2 2) rfl ?_)
    refine Si.n rfl (lk rfl) (V.mv (v := .p (.bs _)) rfl ?_)
    refine Si.n rfl (lk rfl) (V.faPtr ty42 rfl ty9 (lk rfl) rfl rfl (by first | exact lk rfl | first | rfl | omega | (simp; done) | (simp; omega)) ?_)
    refine Si.n rfl (lk rfl) (V.ldPtr ty9 rfl rfl rfl (lk rfl) (v := .p (.str _)) rfl ?_)
    refine Si.n rfl (lk rfl) (V.call [.p (.bs _), .p (.str _), .p (.v (.slice none 0 0)), .p (.v (.int .i64 _))] 4 rfl rfl rfl rfl ⟨trivial, trivial, trivial, trivial, trivial⟩ ⟨lk rfl, trivial⟩ (_, _, _, _) ⟨.refl _, .refl _, le_nil rfl, .refl _, trivial⟩ trivial (by first | omega | (simp; done) | (simp; omega)) (Φ := fun _ => True) (fun _ _ => trivial) (.inl ⟨trivial, trivial, trivial, trivial, trivial⟩) (v := .p (.bs _)) rfl (fun h2 => ?_))
    refine Si.n rfl (lk rfl) (V.ncPtr rfl ?_)
    refine Si.e ?_
    refine ⟨flEq_nil, ?_⟩
    refine Lo.s rfl (A.sto ty22 rfl rfl rfl (v := .p (.bs _)) rfl trivial rfl (by first | rfl | omega | (simp; done) | (simp; omega)) rfl rfl ?_)
    refine Pl.e ?_
    refine Si.e ?_
    refine ⟨flEq_nil, ?_⟩
    show HT _ _ _ _ _
    refine HT.region S_fill5_ok ?_
    refine So.q rfl rfl (V.addI rfl rfl (by omega) ?_)
    refine So.q rfl rfl (V.mv (v := .p (.v (.int .i64 _))) rfl ?_)
    refine So.e ?_
    show HT _ _ _ _ _
    refine HT.seq ?_
    refine HT.region S_fill5_ok ?_
    refine So.q rfl rfl (V.bin (a := (.v (.int .i64 _))) (b := (.v (.int .i64 _))) (r := .v (.bool _)) rfl rfl rfl trivial ?_)
    refine So.e ?_
    show HT _ _ _ _ _
    refine HT.seq ?_
    refine R.cond rfl rfl (fun h3 => ?_) (fun h3 => ?_)
    · have h3 := of_decide_eq_true h3
      refine HT.skip ?_
      show HT _ _ _ _ _
      refine HT.seq ?_
      refine HT.block ?_
      refine HT.seq ?_
      refine HT.region S_fill5_ok ?_
      refine So.q rfl rfl (V.ixOwnS0 ty51 ty42 (s := 2) rfl rfl rfl rfl rfl (by omega) rfl ?_)
      refine So.q rfl rfl (V.ldPtrG ty42 rfl rfl rfl rfl (by first | rfl | omega | (simp; done) | (simp; omega)) rfl ?_)
      refine So.n (lk rfl) (A.alloc 4 1 ty42 rfl ⟨lk rfl, trivial⟩ (f := fun j => ([.str [], .v (.pointer none)] : List PV).getD j (.v undef)) (fun j hj => by match j, hj with | 0, _ => rfl | 1, _ => rfl) ?_)
      refine So.s (A.stoG [.p (.str _), .ptr 2 3] ty42 rfl rfl (by decide) (by intro j hj; match j, hj with | 0, _ => (first | exact trivial | exact rfl) | 1, _ => (first | exact trivial | exact rfl)) rfl rfl (by intro j hj; match j, hj with | 0, _ => rfl | 1, _ => rfl) rfl ?_)
      refine So.e ?_
      show HT _ _ _ _ _
      refine HT.planS S_fill5_ok S_fill5_det mixed [] [⟨[0, 1, 2, 3, 4, 5, 6], 7, []⟩] (by kernel_rfl) ?_
      refine Pl.l0 ?_
      refine Si.n rfl (lk rfl) (V.faPtr ty42 rfl ty40 (lk rfl) rfl rfl (by first | exact lk rfl | first | rfl | omega | (simp; done) | (simp; omega)) ?_)
      refine Si.n rfl (lk rfl) (V.ldPtr ty40 rfl rfl rfl (lk rfl) (v := .ptr 2 3) rfl ?_)
      refine Si.n rfl (lk rfl) (V.mv (v := .p (.bs _)) rfl ?_)
      refine Si.n rfl (lk rfl) (V.faPtr ty42 rfl ty9 (lk rfl) rfl rfl (by first | exact lk rfl | first | rfl | omega | (simp; done) | (simp; omega)) ?_)
      refine Si.n rfl (lk rfl) (V.ldPtr ty9 rfl rfl rfl (lk rfl) (v := .p (.str _)) rfl ?_)
      refine Si.n rfl (lk rfl) (V.call [.p (.bs _), .p (.str _), .p (.v (.slice none 0 0)), .p (.v (.int .i64 _))] 5 rfl rfl rfl rfl ⟨trivial, trivial, trivial, trivial, trivial⟩ ⟨lk rfl, trivial⟩ (_, _, _, _) ⟨.refl _, .refl _, le_nil rfl, .refl _, trivial⟩ trivial (by first | omega | (simp; done) | (simp; omega)) (Φ := fun _ => True) (fun _ _ => trivial) (.inl ⟨trivial, trivial, trivial, trivial, trivial⟩) (v := .p (.bs _)) rfl (fun h4 => ?_))
      refine Si.n rfl (lk rfl) (V.ncPtr rfl ?_)
      refine Si.e ?_
      refine ⟨flEq_nil, ?_⟩
      refine Lo.s rfl (A.sto ty22 rfl rfl rfl (v := .p (.bs _)) rfl trivial rfl (by first | rfl | omega | (simp; done) | (simp; omega)) rfl rfl ?_)
      refine Pl.e ?_
      refine Si.e ?_
      refine ⟨flEq_nil, ?_⟩
      show HT _ _ _ _ _
      refine HT.region S_fill5_ok ?_
      refine So.q rfl rfl (V.addI rfl rfl (by omega) ?_)
      refine So.q rfl rfl (V.mv (v := .p (.v (.int .i64 _))) rfl ?_)
      refine So.e ?_
      show HT _ _ _ _ _
      refine HT.seq ?_
      refine HT.region S_fill5_ok ?_
      refine So.q rfl rfl (V.bin (a := (.v (.int .i64 _))) (b := (.v (.int .i64 _))) (r := .v (.bool _)) rfl rfl rfl trivial ?_)
      refine So.e ?_
      show HT _ _ _ _ _
      refine HT.seq ?_
      refine R.cond rfl rfl (fun h5 => ?_) (fun h5 => ?_)
      · have h5 := of_decide_eq_true h5
        refine HT.skip ?_
        show HT _ _ _ _ _
        refine HT.seq ?_
        refine HT.block ?_
        refine HT.seq ?_
        refine HT.region S_fill5_ok ?_
        refine So.q rfl rfl (V.ixOwnS0 ty51 ty42 (s := 2) rfl rfl rfl rfl rfl (by omega) rfl ?_)
        refine So.q rfl rfl (V.ldPtrG ty42 rfl rfl rfl rfl (by first | rfl | omega | (simp; done) | (simp; omega)) rfl ?_)
        refine So.n (lk rfl) (A.alloc 5 1 ty42 rfl ⟨lk rfl, trivial⟩ (f := fun j => ([.str [], .v (.pointer none)] : List PV).getD j (.v undef)) (fun j hj => by match j, hj with | 0, _ => rfl | 1, _ => rfl) ?_)
        refine So.s (A.stoG [.p (.str _), .ptr 2 4] ty42 rfl rfl (by decide) (by intro j hj; match j, hj with | 0, _ => (first | exact trivial | exact rfl) | 1, _ => (first | exact trivial | exact rfl)) rfl rfl (by intro j hj; match j, hj with | 0, _ => rfl | 1, _ => rfl) rfl ?_)
        refine So.e ?_
        show HT _ _ _ _ _
        refine HT.planS S_fill5_ok S_fill5_det mixed [] [⟨[0, 1, 2, 3, 4, 5, 6], 7, []⟩] (by kernel_rfl) ?_
        refine Pl.l0 ?_
        refine Si.n rfl (lk rfl) (V.faPtr ty42 rfl ty40 (lk rfl) rfl rfl (by first | exact lk rfl | first | rfl | omega | (simp; done) | (simp; omega)) ?_)
        refine Si.n rfl (lk rfl) (V.ldPtr ty40 rfl rfl rfl (lk rfl) (v := .ptr 2 4) rfl ?_)
        refine Si.n rfl (lk rfl) (V.mv (v := .p (.bs _)) rfl ?_)
        refine Si.n rfl (lk rfl) (V.faPtr ty42 rfl ty9 (lk rfl) rfl rfl (by first | exact lk rfl | first | rfl | omega | (simp; done) | (simp; omega)) ?_)
        refine Si.n rfl (lk rfl) (V.ldPtr ty9 rfl rfl rfl (lk rfl) (v := .p (.str _)) rfl ?_)
        refine Si.n rfl (lk rfl) (V.call [.p (.bs _), .p (.str _), .p (.v (.slice none 0 0)), .p (.v (.int .i64 _))] 6 rfl rfl rfl rfl ⟨trivial, trivial, trivial, trivial, trivial⟩ ⟨lk rfl, trivial⟩ (_, _, _, _) ⟨.refl _, .refl _, le_nil rfl, .refl _, trivial⟩ trivial (by first | omega | (simp; done) | (simp; omega)) (Φ := fun _ => True) (fun _ _ => trivial) (.inl ⟨trivial, trivial, trivial, trivial, trivial⟩) (v := .p (.bs _)) rfl (fun h6 => ?_))
        refine Si.n rfl (lk rfl) (V.ncPtr rfl ?_)
        refine Si.e ?_
        refine ⟨flEq_nil, ?_⟩
        refine Lo.s rfl (A.sto ty22 rfl rfl rfl (v := .p (.bs _)) rfl trivial rfl (by first | rfl | omega | (simp; done) | (simp; omega)) rfl rfl ?_)
        refine Pl.e ?_
        refine Si.e ?_
        refine ⟨flEq_nil, ?_⟩
        show HT _ _ _ _ _
        refine HT.region S_fill5_ok ?_
        refine So.q rfl rfl (V.addI rfl rfl (by omega) ?_)
        refine So.q rfl rfl (V.mv (v := .p (.v (.int .i64 _))) rfl ?_)
        refine So.e ?_
        show HT _ _ _ _ _
        refine HT.seq ?_
        refine HT.region S_fill5_ok ?_
        refine So.q rfl rfl (V.bin (a := (.v (.int .i64 _))) (b := (.v (.int .i64 _))) (r := .v (.bool _)) rfl rfl rfl trivial ?_)
        refine So.e ?_
        show HT _ _ _ _ _
        refine HT.seq ?_
        refine R.cond rfl rfl (fun h7 => ?_) (fun h7 => ?_)
        · have h7 := of_decide_eq_true h7
          refine HT.skip ?_
          show HT _ _ _ _ _
          refine HT.seq ?_
          refine HT.block ?_
          refine HT.seq ?_
          refine HT.region S_fill5_ok ?_
          refine So.q rfl rfl (V.ixOwnS0 ty51 ty42 (s := 2) rfl rfl rfl rfl rfl (by omega) rfl ?_)
          refine So.q rfl rfl (V.ldPtrG ty42 rfl rfl rfl rfl (by first | rfl | omega | (simp; done) | (simp; omega)) rfl ?_)
          refine So.n (lk rfl) (A.alloc 6 1 ty42 rfl ⟨lk rfl, trivial⟩ (f := fun j => ([.str [], .v (.pointer none)] : List PV).getD j (.v undef)) (fun j hj => by match j, hj with | 0, _ => rfl | 1, _ => rfl) ?_)
          refine So.s (A.stoG [.p (.str _), .ptr 2 5] ty42 rfl rfl (by decide) (by intro j hj; match j, hj with | 0, _ => (first | exact trivial | exact rfl) | 1, _ => (first | exact trivial | exact rfl)) rfl rfl (by intro j hj; match j, hj with | 0, _ => rfl | 1, _ => rfl) rfl ?_)
          refine So.e ?_
          show HT _ _ _ _ _
          refine HT.planS S_fill5_ok S_fill5_det mixed [] [⟨[0, 1, 2, 3, 4, 5, 6], 7, []⟩] (by kernel_rfl) ?_
          refine Pl.l0 ?_
          refine Si.n rfl (lk rfl) (V.faPtr ty42 rfl ty40 (lk rfl) rfl rfl (by first | exact lk rfl | first | rfl | omega | (simp; done) | (simp; omega)) ?_)
          refine Si.n rfl (lk rfl) (V.ldPtr ty40 rfl rfl rfl (lk rfl) (v := .ptr 2 5) rfl ?_)
          refine Si.n rfl (lk rfl) (V.mv (v := .p (.bs _)) rfl ?_)
          refine Si.n rfl (lk rfl) (V.faPtr ty42 rfl ty9 (lk rfl) rfl rfl (by first | exact lk rfl | first | rfl | omega | (simp; done) | (simp; omega)) ?_)
          refine Si.n rfl (lk rfl) (V.ldPtr ty9 rfl rfl rfl (lk rfl) (v := .p (.str _)) rfl ?_)
          refine Si.n rfl (lk rfl) (V.call [.p (.bs _), .p (.str _), .p (.v (.slice none 0 0)), .p (.v (.int .i64 _))] 7 rfl rfl rfl rfl ⟨trivial, trivial, trivial, trivial, trivial⟩ ⟨lk rfl, trivial⟩ (_, _, _, _) ⟨.refl _, .refl _, le_nil rfl, .refl _, trivial⟩ trivial (by first | omega | (simp; done) | (simp; omega)) (Φ := fun _ => True) (fun _ _ => trivial) (.inl ⟨trivial, trivial, trivial, trivial, trivial⟩) (v := .p (.bs _)) rfl (fun h8 => ?_))
          refine Si.n rfl (lk rfl) (V.ncPtr rfl ?_)
          refine Si.e ?_
          refine ⟨flEq_nil, ?_⟩
          refine Lo.s rfl (A.sto ty22 rfl rfl rfl (v := .p (.bs _)) rfl trivial rfl (by first | rfl | omega | (simp; done) | (simp; omega)) rfl rfl ?_)
          refine Pl.e ?_
          refine Si.e ?_
          refine ⟨flEq_nil, ?_⟩
          show HT _ _ _ _ _
          refine HT.region S_fill5_ok ?_
          refine So.q rfl rfl (V.addI rfl rfl (by omega) ?_)
          refine So.q rfl rfl (V.mv (v := .p (.v (.int .i64 _))) rfl ?_)
          refine So.e ?_
          show HT _ _ _ _ _
          refine HT.seq ?_
          refine HT.region S_fill5_ok ?_
          refine So.q rfl rfl (V.bin (a := (.v (.int .i64 _))) (b := (.v (.int .i64 _))) (r := .v (.bool _)) rfl rfl rfl trivial ?_)
          refine So.e ?_
          show HT _ _ _ _ _
          refine HT.seq ?_
          refine R.cond rfl rfl (fun h9 => ?_) (fun h9 => ?_)
          · have h9 := of_decide_eq_true h9
            refine HT.skip ?_
            show HT _ _ _ _ _
            refine HT.seq ?_
            refine HT.block ?_
            refine HT.seq ?_
            refine HT.region S_fill5_ok ?_
            refine So.q rfl rfl (V.ixOwnS0 ty51 ty42 (s := 2) rfl rfl rfl rfl rfl (by omega) rfl ?_)
            refine So.q rfl rfl (V.ldPtrG ty42 rfl rfl rfl rfl (by first | rfl | omega | (simp; done) | (simp; omega)) rfl ?_)
            refine So.n (lk rfl) (A.alloc 7 1 ty42 rfl ⟨lk rfl, trivial⟩ (f := fun j => ([.str [], .v (.pointer none)] : List PV).getD j (.v undef)) (fun j hj => by match j, hj with | 0, _ => rfl | 1, _ => rfl) ?_)
            refine So.s (A.stoG [.p (.str _), .ptr 2 6] ty42 rfl rfl (by decide) (by intro j hj; match j, hj with | 0, _ => (first | exact trivial | exact rfl) | 1, _ => (first | exact trivial | exact rfl)) rfl rfl (by intro j hj; match j, hj with | 0, _ => rfl | 1, _ => rfl) rfl ?_)
            refine So.e ?_
            show HT _ _ _ _ _
            refine HT.planS S_fill5_ok S_fill5_det mixed [] [⟨[0, 1, 2, 3, 4, 5, 6], 7, []⟩] (by kernel_rfl) ?_
            refine Pl.l0 ?_
            refine Si.n rfl (lk rfl) (V.faPtr ty42 rfl ty40 (lk rfl) rfl rfl (by first | exact lk rfl | first | rfl | omega | (simp; done) | (simp; omega)) ?_)
            refine Si.n rfl (lk rfl) (V.ldPtr ty40 rfl rfl rfl (lk rfl) (v := .ptr 2 6) rfl ?_)
            refine Si.n rfl (lk rfl) (V.mv (v := .p (.bs _)) rfl ?_)
            refine Si.n rfl (lk rfl) (V.faPtr ty42 rfl ty9 (lk rfl) rfl rfl (by first | exact lk rfl | first | rfl | omega | (simp; done) | (simp; omega)) ?_)
            refine Si.n rfl (lk rfl) (V.ldPtr ty9 rfl rfl rfl (lk rfl) (v := .p (.str _)) rfl ?_)
            refine Si.n rfl (lk rfl) (V.call [.p (.bs _), .p (.str _), .p (.v (.slice none 0 0)), .p (.v (.int .i64 _))] 8 rfl rfl rfl rfl ⟨trivial, trivial, trivial, trivial, trivial⟩ ⟨lk rfl, trivial⟩ (_, _, _, _) ⟨.refl _, .refl _, le_nil rfl, .refl _, trivial⟩ trivial (by first | omega | (simp; done) | (simp; omega)) (Φ := fun _ => True) (fun _ _ => trivial) (.inl ⟨trivial, trivial, trivial, trivial, trivial⟩) (v := .p (.bs _)) rfl (fun h10 => ?_))
            refine Si.n rfl (lk rfl) (V.ncPtr rfl ?_)
            refine Si.e ?_
            refine ⟨flEq_nil, ?_⟩
            refine Lo.s rfl (A.sto ty22 rfl rfl rfl (v := .p (.bs _)) rfl trivial rfl (by first | rfl | omega | (simp; done) | (simp; omega)) rfl rfl ?_)
            refine Pl.e ?_
            refine Si.e ?_
            refine ⟨flEq_nil, ?_⟩
            show HT _ _ _ _ _
            refine HT.region S_fill5_ok ?_
            refine So.q rfl rfl (V.addI rfl rfl (by omega) ?_)
            refine So.q rfl rfl (V.mv (v := .p (.v (.int .i64 _))) rfl ?_)
            refine So.e ?_
            show HT _ _ _ _ _
            refine HT.seq ?_
            refine HT.region S_fill5_ok ?_
            refine So.q rfl rfl (V.bin (a := (.v (.int .i64 _))) (b := (.v (.int .i64 _))) (r := .v (.bool _)) rfl rfl rfl trivial ?_)
            refine So.e ?_
            show HT _ _ _ _ _
            refine HT.seq ?_
            refine R.cond rfl rfl (fun h11 => ?_) (fun h11 => ?_)
            · have h11 := of_decide_eq_true h11
              exfalso; omega
            · have h11 := of_decide_eq_false h11
              refine HT.exit ?_
              exact ret_ok (sg [(2, 2)]) h rfl rfl rfl ⟨trivial, trivial⟩ trivial rfl ⟨trivial, ⟨⟨_, rfl, .inr (ob_rows (by first | rfl | ((try dsimp only); (first | rfl | (intro j hj; simp only [take_full]; done) | (intro j hj; simp only [take_full]; rfl)))) (by first | rfl | ((try dsimp only); (first | rfl | (intro j hj; simp only [take_full]; done) | (intro j hj; simp only [take_full]; rfl))))), trivial⟩, trivial⟩⟩
          · have h9 := of_decide_eq_false h9
            exfalso; omega
        · have h7 := of_decide_eq_false h7
          exfalso; omega
      · have h5 := of_decide_eq_false h5
        exfalso; omega
    · have h3 := of_decide_eq_false h3
      exfalso; omega
  · have h1 := of_decide_eq_false h1
    exfalso; omega

end Go.Vh

set_option linter.unusedVariables false
set_option linter.unusedSimpArgs false
namespace Go.Vh
open Go Go.Vc Go.Proofs Go.Vw

/-! ### sodality/sched.Derive -/
def deriveSp : Sp := ⟨[], mkE (α := (List UInt8) × (List UInt8)) (fun (a, x) => [.p (.bs (a)), .p (.bs (x))]) (fun (a, x) => []) (fun (a, x) => a.length ≤ 1000000000 ∧ x.length ≤ 1000000000) (fun (a, x) => [.agg 7 (fun j => .bs ((epochL a x).getD j []))]) (fun (a, x) => [])⟩
def S_derive : FuncId → Option Sp := fun f => if f = 24 then some shortSp else if f = 23 then some extractSp else if f = 21 then some hlabelSp else if f = 28 then some fill1Sp else none
theorem S_derive_ok : ∀ f s, S_derive f = some s → FOK Tryd.prog gl f s := fun f s h => by
  unfold S_derive at h
  split at h
  · rename_i e; cases h; subst e; exact short_ok
  split at h
  · rename_i e; cases h; subst e; exact extract_ok
  split at h
  · rename_i e; cases h; subst e; exact hlabel_ok
  split at h
  · rename_i e; cases h; subst e; exact fill1_ok
  cases h
theorem S_derive_det : ∀ f s, S_derive f = some s → SpDet s.sp := fun f s h => by
  unfold S_derive at h
  split at h
  · cases h; exact mkE_det _ _ _ _ _
  split at h
  · cases h; exact mkE_det _ _ _ _ _
  split at h
  · cases h; exact mkE_det _ _ _ _ _
  split at h
  · cases h; exact mkE_det _ _ _ _ _
  cases h
def S_derive_1 : FuncId → Option Sp := fun f => if f = 28 then some fill5Sp else none
theorem S_derive_1_ok : ∀ f s, S_derive_1 f = some s → FOK Tryd.prog gl f s := fun f s h => by
  unfold S_derive_1 at h
  split at h
  · rename_i e; cases h; subst e; exact fill5_ok
  cases h
theorem S_derive_1_det : ∀ f s, S_derive_1 f = some s → SpDet s.sp := fun f s h => by
  unfold S_derive_1 at h
  split at h
  · cases h; exact mkE_det _ _ _ _ _
  cases h
set_option maxHeartbeats 1000000 in
set_option maxRecDepth 20000 in
theorem derive_ok : FOK Tryd.prog gl 13 deriveSp := by
  refine FOK.ofEC (tyOf_ok Tryd.prog) (rvs := [.cell 4 28]) (nt := 36) Tryd.func13 rfl rfl rfl rfl (by decide) 2 (fun ⟨_, _⟩ => rfl) (by decide) (fun ⟨_, _⟩ => ⟨trivial, trivial, trivial⟩) ?_
  rintro ⟨a, x⟩ kk hlen hpre h
  have hl0 : (a).length ≤ 9223372036854775807 := hlen.1
  have hl1 : (x).length ≤ 9223372036854775807 := hlen.2.1
  replace hpre : a.length ≤ 1000000000 ∧ x.length ≤ 1000000000 := hpre
  show HT (cx Tryd.prog 36 (tyOf Tryd.prog) gl []) _ [(0, .p (.bs (a))), (1, .p (.bs (x)))] [] _
  have hs0 := shortF_len a
  have hs2 := shortF_len x
  have hmd : (midF a).length = 32 := mac_len _ _
  have hsc : (secF a x).length = 32 := labelF_len (by simp [nEpoch]; omega)
  refine HT.seq ?_
  refine HT.region S_derive_ok ?_
  refine So.n (lk rfl) (A.alloc 1 1 ty28 rfl trivial (f := fun _ => .v (.slice none 0 0)) (fun _ _ => rfl) ?_)
  refine So.e ?_
  show HT _ _ _ _ _
  refine HT.seq ?_
  refine HT.region S_derive_ok ?_
  refine So.n (lk rfl) (A.alloc 2 1 ty28 rfl trivial (f := fun _ => .v (.slice none 0 0)) (fun _ _ => rfl) ?_)
  refine So.e ?_
  show HT _ _ _ _ _
  refine HT.seq ?_
  refine HT.planS S_derive_ok S_derive_det mixed [0, 1, 3, 4] [⟨[0, 1], 2, [0, 1]⟩] (by kernel_rfl) ?_
  refine Pl.lk ?_
  refine Si.n rfl (lk rfl) (V.mv (v := .p (.bs _)) rfl ?_)
  refine Si.n rfl (lk rfl) (V.call [.p (.bs _)] 3 rfl rfl rfl rfl ⟨trivial, trivial⟩ trivial _ ⟨.refl _, trivial⟩ trivial (by first | omega | (simp only [List.drop_zero, List.take_length]; omega) | (simp; done) | (simp; omega)) (Φ := fun _ => True) (fun _ _ => trivial) (.inl ⟨trivial, trivial⟩) (v := .p (.bs _)) rfl (fun h1 => ?_))
  refine Si.e ?_
  refine ⟨flEq_nil, fun ff => ?_⟩
  refine Lo.n rfl (lk rfl) (A.mkB 3 ty22 ty5 rfl rfl rfl (by omega) rfl rfl trivial ?_)
  refine ⟨_, fun ff => ff, ap0d, rfl, FG.id, ?_⟩
  show planA _ _ _ _ _ [(0, .p (.bs _)), (1, .p (.bs _))] _ _ _
  refine Pl.e ?_
  refine Si.n rfl (lk rfl) (V.mv (v := .p (.bs _)) rfl ?_)
  refine Si.n rfl (lk rfl) (V.call [.p (.bs _)] 4 rfl rfl rfl rfl ⟨trivial, trivial⟩ trivial _ ⟨.refl _, trivial⟩ trivial (by first | omega | (simp only [List.drop_zero, List.take_length]; omega) | (simp; done) | (simp; omega)) (Φ := fun _ => True) (fun _ _ => trivial) (.inl ⟨trivial, trivial⟩) (v := .p (.bs _)) rfl (fun h2 => ?_))
  refine Si.n rfl (lk rfl) (V.call [.p (.bs _), .p (.bs _)] 4 rfl rfl rfl rfl ⟨trivial, trivial, trivial⟩ trivial (_, _) ⟨.refl _, .refl _, trivial⟩ trivial (by first | omega | (simp only [List.drop_zero, List.take_length]; omega) | (simp; done) | (simp; omega)) (Φ := fun _ => True) (fun _ _ => trivial) (.inr ⟨trivial, by simp [Hp.scal, OC.scal, PV.scal, BV.scal]⟩) (v := .p (.bs _)) rfl (fun h3 => ?_))
  refine Si.n rfl (lk rfl) (V.as (v := .p (.bs _)) rfl ?_)
  refine Si.e ?_
  refine ⟨(flEq_cons rfl (flEq_cons rfl flEq_nil)), ?_⟩
  show HT _ _ _ _ _
  refine HT.seq ?_
  refine R.tell [(6, .p (.bs (midF a)))] [] [1, 4, 5] [1, 2] (fr0 := [(1, .p (.bs _)), (4, .ptr 1 0), (5, .ptr 2 0)]) (O0 := [(1, ⟨_, _, _, _, .rows _⟩), (2, ⟨_, _, _, _, .rows _⟩)]) rfl rfl ⟨⟨⟨le_bs (by first | rfl | exact mid_eq a), trivial⟩, ⟨.refl _, trivial⟩, ⟨.refl _, rfl⟩, ⟨.refl _, rfl⟩, trivial⟩, ⟨⟨_, rfl, .inl rfl, trivial⟩, ⟨_, rfl, .inl rfl, trivial⟩, trivial⟩⟩ ?_
  show HT _ _ _ _ _
  refine HT.region S_derive_ok ?_
  refine So.q rfl rfl (V.mv (v := .p (.bs _)) rfl ?_)
  refine So.q rfl rfl (V.mv (v := .p (.bs _)) rfl ?_)
  refine So.n (lk rfl) (A.call0 [.p (.bs _)] 3 rfl rfl rfl rfl ⟨trivial, trivial⟩ trivial _ ⟨.refl _, trivial⟩ trivial (by first | omega | (simp only [List.drop_zero, List.take_length]; omega) | (simp; done) | (simp; omega)) (Φ := fun _ => True) (fun _ _ => trivial) (.inl rfl) (v := .p (.bs _)) rfl (O' := _) rfl (fun h4 => ?_))
  refine So.n (lk rfl) (A.call0F S_derive_ok [.p (.bs _), .p (.str _), .p (.bs _), .p (.v (.int .i64 _))] 3 rfl rfl rfl rfl ⟨trivial, trivial, trivial, trivial, trivial⟩ trivial (midF a, nEpoch, shortF x, 32) ⟨.refl _, .refl _, .refl _, .refl _, trivial⟩ trivial (by first | omega | (simp; done) | (simp; omega)) (Φ := fun _ => True) (fun _ _ => trivial) (.inl rfl) (t := 5) (off := 0) rfl (O' := (5, ⟨5, 1, _, true, .bs _⟩) :: _) rfl rfl rfl (y := .p (.bs _)) rfl rfl (fun h5 => ?_))
  refine So.q rfl rfl (V.faPtr ty28 rfl ty22 (lk rfl) rfl rfl (by first | exact lk rfl | first | rfl | omega | (simp; done) | (simp; omega)) ?_)
  refine So.s (A.sto ty22 rfl rfl rfl (v := .p (.bs _)) rfl trivial rfl (by first | rfl | omega | (simp; done) | (simp; omega)) rfl rfl ?_)
  refine So.e ?_
  show HT _ _ _ _ _
  refine HT.seq ?_
  refine R.tell [] [(2, ⟨28, 1, 7, true, .rows (fun j => if j = 1 then .bs (secF a x) else .v (.slice none 0 0))⟩)] [4, 5, 6] [1] (fr0 := [(4, .ptr 1 0), (5, .ptr 2 0), (6, .p (.bs _))]) (O0 := [(1, ⟨_, _, _, _, .rows _⟩)]) rfl rfl ⟨⟨⟨.refl _, rfl⟩, ⟨.refl _, rfl⟩, ⟨.refl _, trivial⟩, trivial⟩, ⟨⟨_, rfl, .inr (ob_rows (by first | rfl | ((try dsimp only); first | rfl | (intro j hj; first | rfl | (simp only [take_full]; done) | (simp only [take_full]; rfl)))) (by first | rfl | ((try dsimp only); first | rfl | (intro j hj; first | rfl | (simp only [take_full]; done) | (simp only [take_full]; rfl))))), trivial⟩, ⟨_, rfl, .inl rfl, trivial⟩, trivial⟩⟩ ?_
  show HT _ _ _ _ _
  refine HT.region S_derive_ok ?_
  refine So.q rfl rfl (V.mv (v := .p (.bs _)) rfl ?_)
  refine So.q rfl rfl (V.faPtr ty28 rfl ty22 (lk rfl) rfl rfl (by first | exact lk rfl | first | rfl | omega | (simp; done) | (simp; omega)) ?_)
  refine So.n (lk rfl) (A.bldG ty42 rfl ⟨by first | exact trivial | exact rfl | (intro j hj; first | trivial | rfl | (simp [BV.one]; done)), by first | exact trivial | exact rfl | (intro j hj; first | trivial | rfl | (simp [BV.one]; done)), trivial⟩ rfl rfl ?_)
  refine So.n (lk rfl) (A.bsl 3 ty51 ty42 rfl (lk rfl) (lk rfl) (fun h => Bool.noConfusion (show false = true from h)) rfl rfl trivial ⟨(fun j hj => by match j, hj with | 0, _ => trivial | 1, _ => trivial), trivial⟩ rfl (N := 2) rfl (c := .cells [.p (.str _), .ptr 2 0]) rfl ?_)
  refine So.n (lk rfl) (A.call [.p (.bs _), .own 1 _ _] [(1, ⟨_, _, _, _, .cells [.p (.str _), .ptr 2 0]⟩), (2, ⟨_, _, _, _, .rows _⟩)] (sg [(1, 3), (2, 2)]) 4 rfl rfl rfl rfl ⟨rfl, rfl, trivial⟩ rfl ⟨⟨trivial, rfl, trivial⟩, trivial, trivial⟩ ⟨trivial, rfl, trivial⟩ trivial rfl (midF a, nWelcome, fun j => if j = 1 then .bs (secF a x) else .v (.slice none 0 0)) ⟨.refl _, .refl _, trivial⟩ ⟨⟨_, rfl, .inl rfl, ⟨trivial, rfl, trivial⟩⟩, ⟨_, rfl, .inl rfl, trivial⟩, trivial⟩ (by first | omega | (simp only [List.drop_zero, List.take_length]; omega) | (simp; done) | (simp; omega)) (Φ := fun _ => True) (fun _ _ => trivial) ⟨⟨_, _, rfl, rfl, rfl, Nat.le_refl _⟩, trivial⟩ (.inl rfl) rfl (v := .tup 0 _) rfl (O' := (2, ⟨_, _, _, _, .rows _⟩) :: _) rfl (fun h6 => ?_))
  refine So.e ?_
  show HT _ _ _ _ _
  refine HT.seq ?_
  refine HT.region S_derive_1_ok ?_
  refine So.q rfl rfl (V.faPtr ty28 rfl ty22 (lk rfl) rfl rfl (by first | exact lk rfl | first | rfl | omega | (simp; done) | (simp; omega)) ?_)
  refine So.q rfl rfl (V.ldPtr ty22 rfl rfl rfl (by first | rfl | omega | (simp; done) | (simp; omega)) (v := .p (.bs _)) rfl ?_)
  refine So.q rfl rfl (V.faPtr ty28 rfl ty22 (lk rfl) rfl rfl (by first | exact lk rfl | first | rfl | omega | (simp; done) | (simp; omega)) ?_)
  refine So.n (lk rfl) (A.bldG ty42 rfl ⟨by first | exact trivial | exact rfl | (intro j hj; first | trivial | rfl | (simp [BV.one]; done)), by first | exact trivial | exact rfl | (intro j hj; first | trivial | rfl | (simp [BV.one]; done)), trivial⟩ rfl rfl ?_)
  refine So.q rfl rfl (V.faPtr ty28 rfl ty22 (lk rfl) rfl rfl (by first | exact lk rfl | first | rfl | omega | (simp; done) | (simp; omega)) ?_)
  refine So.n (lk rfl) (A.bldG ty42 rfl ⟨by first | exact trivial | exact rfl | (intro j hj; first | trivial | rfl | (simp [BV.one]; done)), by first | exact trivial | exact rfl | (intro j hj; first | trivial | rfl | (simp [BV.one]; done)), trivial⟩ rfl rfl ?_)
  refine So.q rfl rfl (V.faPtr ty28 rfl ty22 (lk rfl) rfl rfl (by first | exact lk rfl | first | rfl | omega | (simp; done) | (simp; omega)) ?_)
  refine So.n (lk rfl) (A.bldG ty42 rfl ⟨by first | exact trivial | exact rfl | (intro j hj; first | trivial | rfl | (simp [BV.one]; done)), by first | exact trivial | exact rfl | (intro j hj; first | trivial | rfl | (simp [BV.one]; done)), trivial⟩ rfl rfl ?_)
  refine So.q rfl rfl (V.faPtr ty28 rfl ty22 (lk rfl) rfl rfl (by first | exact lk rfl | first | rfl | omega | (simp; done) | (simp; omega)) ?_)
  refine So.n (lk rfl) (A.bldG ty42 rfl ⟨by first | exact trivial | exact rfl | (intro j hj; first | trivial | rfl | (simp [BV.one]; done)), by first | exact trivial | exact rfl | (intro j hj; first | trivial | rfl | (simp [BV.one]; done)), trivial⟩ rfl rfl ?_)
  refine So.q rfl rfl (V.faPtr ty28 rfl ty22 (lk rfl) rfl rfl (by first | exact lk rfl | first | rfl | omega | (simp; done) | (simp; omega)) ?_)
  refine So.n (lk rfl) (A.bldG ty42 rfl ⟨by first | exact trivial | exact rfl | (intro j hj; first | trivial | rfl | (simp [BV.one]; done)), by first | exact trivial | exact rfl | (intro j hj; first | trivial | rfl | (simp [BV.one]; done)), trivial⟩ rfl rfl ?_)
  refine So.n (lk rfl) (A.bsl 3 ty51 ty42 rfl (lk rfl) (lk rfl) (fun h => Bool.noConfusion (show false = true from h)) rfl rfl trivial ⟨(fun j hj => by match j, hj with | 0, _ => trivial | 1, _ => trivial), (fun j hj => by match j, hj with | 0, _ => trivial | 1, _ => trivial), (fun j hj => by match j, hj with | 0, _ => trivial | 1, _ => trivial), (fun j hj => by match j, hj with | 0, _ => trivial | 1, _ => trivial), (fun j hj => by match j, hj with | 0, _ => trivial | 1, _ => trivial), trivial⟩ rfl (N := 10) rfl (c := .cells [.p (.str _), .ptr 2 2, .p (.str _), .ptr 2 3, .p (.str _), .ptr 2 4, .p (.str _), .ptr 2 5, .p (.str _), .ptr 2 6]) rfl ?_)
  refine So.n (lk rfl) (A.call [.p (.bs _), .own 1 _ _] [(1, ⟨_, _, _, _, .cells [.p (.str _), .ptr 2 2, .p (.str _), .ptr 2 3, .p (.str _), .ptr 2 4, .p (.str _), .ptr 2 5, .p (.str _), .ptr 2 6]⟩), (2, ⟨_, _, _, _, .rows _⟩)] (sg [(1, 3), (2, 2)]) 4 rfl rfl rfl rfl ⟨rfl, rfl, trivial⟩ rfl ⟨⟨trivial, rfl, trivial, rfl, trivial, rfl, trivial, rfl, trivial, rfl, trivial⟩, trivial, trivial⟩ ⟨trivial, rfl, trivial⟩ trivial rfl (secF a x, nEncrypt, nExport, nConfirm, nMember, nInit, fun j => if j = 0 then .bs (labelF (midF a) nWelcome [] 32) else if j = 1 then .bs (secF a x) else .v (.slice none 0 0)) ⟨.refl _, .refl _, trivial⟩ ⟨⟨_, rfl, .inl rfl, ⟨trivial, rfl, trivial, rfl, trivial, rfl, trivial, rfl, trivial, rfl, trivial⟩⟩, ⟨_, rfl, .inl rfl, trivial⟩, trivial⟩ (by first | omega | (simp only [List.drop_zero, List.take_length]; omega) | (simp; done) | (simp; omega)) (Φ := fun _ => True) (fun _ _ => trivial) ⟨⟨_, _, rfl, rfl, rfl, Nat.le_refl _⟩, trivial⟩ (.inl rfl) rfl (v := .tup 0 _) rfl (O' := (2, ⟨_, _, _, _, .rows _⟩) :: _) rfl (fun h7 => ?_))
  refine So.e ?_
  show HT _ _ _ _ _
  refine HT.seq ?_
  refine HT.region S_derive_ok ?_
  refine So.q rfl rfl (V.ldPtrA ty28 rfl rfl rfl rfl (by first | rfl | omega | (simp; done) | (simp; omega)) ?_)
  refine So.s (A.stoAg ty28 rfl (n := 7) rfl (by decide) (by intro j hj; first | rfl | trivial | (match j, hj with | 0, _ => trivial | 1, _ => trivial | 2, _ => trivial | 3, _ => trivial | 4, _ => trivial | 5, _ => trivial | 6, _ => trivial)) rfl rfl rfl ?_)
  refine So.e ?_
  show HT _ _ _ _ _
  refine HT.ret ?_
  exact retC_ok (sg []) [(4, .ptr 1 0)] [(1, ⟨28, 1, 7, true, .rows (fun j => .bs ((epochL a x).getD j []))⟩)] h ⟨⟨⟨.refl _, rfl⟩, trivial⟩, ⟨⟨_, rfl, .inr (ob_rows rfl (by intro j hj; first | rfl | ((try dsimp only); (first | rfl | (intro j hj; (match j, hj with | 0, _ => rfl | 1, _ => rfl | 2, _ => rfl | 3, _ => rfl | 4, _ => rfl | 5, _ => rfl | 6, _ => rfl)) | (match j, hj with | 0, _ => rfl | 1, _ => rfl | 2, _ => rfl | 3, _ => rfl | 4, _ => rfl | 5, _ => rfl | 6, _ => rfl))))), trivial⟩, trivial⟩⟩ ⟨rvA_cell ty28 rfl rfl rfl rfl (Nat.le_refl _) (le_agg (fun j _ => by first | rfl | (dsimp only; rw [Nat.zero_add]))), trivial⟩ trivial rfl trivial ⟨trivial, trivial⟩ rfl

end Go.Vh

set_option linter.unusedVariables false
set_option linter.unusedSimpArgs false
namespace Go.Vh
open Go Go.Vc Go.Proofs Go.Vw

/-! ### sodality/sched.Export -/
def export1Sp : Sp := ⟨[], mkE (α := (List (List UInt8)) × (List UInt8) × (List UInt8) × Int) (fun (e, m, c, n) => [.agg 7 (fun j => .bs ((e).getD j [])), .p (.str (m)), .p (.bs (c)), .p (.v (.int .i64 (n)))]) (fun (e, m, c, n) => []) (fun (e, m, c, n) => m.length ≤ 40 ∧ c.length ≤ 1000000000 ∧ (e.getD 3 []).length ≤ 1000000000) (fun (e, m, c, n) => [.own 2 (0) ((expF (e.getD 3 []) m c n).length)]) (fun (e, m, c, n) => [(2, ⟨5, 1, (expF (e.getD 3 []) m c n).length, true, .bs (expF (e.getD 3 []) m c n)⟩)])⟩
def S_export1 : FuncId → Option Sp := fun f => if f = 24 then some shortSp else if f = 21 then some hlabelSp else if f = 22 then some shasumSp else none
theorem S_export1_ok : ∀ f s, S_export1 f = some s → FOK Tryd.prog gl f s := fun f s h => by
  unfold S_export1 at h
  split at h
  · rename_i e; cases h; subst e; exact short_ok
  split at h
  · rename_i e; cases h; subst e; exact hlabel_ok
  split at h
  · rename_i e; cases h; subst e; exact shasum_ok
  cases h
theorem S_export1_det : ∀ f s, S_export1 f = some s → SpDet s.sp := fun f s h => by
  unfold S_export1 at h
  split at h
  · cases h; exact mkE_det _ _ _ _ _
  split at h
  · cases h; exact mkE_det _ _ _ _ _
  split at h
  · cases h; exact mkE_det _ _ _ _ _
  cases h
set_option maxHeartbeats 1000000 in
set_option maxRecDepth 20000 in
theorem export1_ok : FOK Tryd.prog gl 19 export1Sp := by
  refine FOK.ofE (tyOf_ok Tryd.prog) (slots := [8]) (nt := 23) Tryd.func19 rfl rfl rfl rfl (by decide) 4 (fun ⟨_, _, _, _⟩ => rfl) (by decide) (fun ⟨_, _, _, _⟩ => ⟨trivial, trivial, trivial, trivial, trivial⟩) ?_
  rintro ⟨e, m, c, n⟩ kk hlen hpre h
  have hl2 : (c).length ≤ 9223372036854775807 := hlen.2.2.1
  replace hpre : m.length ≤ 40 ∧ c.length ≤ 1000000000 ∧ (e.getD 3 []).length ≤ 1000000000 := hpre
  show HT (cx Tryd.prog 23 (tyOf Tryd.prog) gl []) _ [(0, .agg 7 (fun j => .bs ((e).getD j []))), (1, .p (.str (m))), (2, .p (.bs (c))), (3, .p (.v (.int .i64 (n))))] [] _
  have hkl := key_len (e := e.getD 3 []) hpre.1
  have hsc := shortF_len c
  have hse := shortF_len (e.getD 3 [])
  refine HT.seq ?_
  refine HT.region S_export1_ok ?_
  refine So.n (lk rfl) (A.boxAg 1 1 (n := 7) rfl (by intro j hj; first | rfl | trivial | (split <;> first | rfl | trivial | (split <;> first | rfl | trivial))) rfl trivial ?_)
  refine So.q rfl rfl (V.as (v := .p (.v (.slice none 0 0))) rfl ?_)
  refine So.e ?_
  show HT _ _ _ _ _
  refine HT.seq ?_
  refine HT.region S_export1_ok ?_
  refine So.q rfl rfl (V.faPtr ty28 rfl ty22 (lk rfl) rfl rfl (by first | exact lk rfl | first | rfl | omega | (simp; done) | (simp; omega)) ?_)
  refine So.q rfl rfl (V.ldPtr ty22 rfl rfl rfl (by first | rfl | omega | (simp; done) | (simp; omega)) (v := .p (.bs _)) rfl ?_)
  refine So.n (lk rfl) (A.call0 [.p (.bs _)] 2 rfl rfl rfl rfl ⟨trivial, trivial⟩ trivial (e.getD 3 []) ⟨.refl _, trivial⟩ trivial (by first | omega | (simp only [List.drop_zero, List.take_length]; omega) | (simp; done) | (simp; omega)) (Φ := fun _ => True) (fun _ _ => trivial) (.inl rfl) (v := .p (.bs _)) rfl (O' := _) rfl (fun h1 => ?_))
  refine So.q rfl rfl (V.mv (v := .p (.str _)) rfl ?_)
  refine So.n (lk rfl) (A.call0 [.p (.bs _), .p (.str _), .p (.v (.slice none 0 0)), .p (.v (.int .i64 _))] 2 rfl rfl rfl rfl ⟨trivial, trivial, trivial, trivial, trivial⟩ trivial (shortF (e.getD 3 []), m, [], 32) ⟨.refl _, .refl _, le_nil rfl, .refl _, trivial⟩ trivial (by first | omega | (simp; done) | (simp; omega)) (Φ := fun _ => True) (fun _ _ => trivial) (.inl rfl) (v := .own 4 0 _) rfl (O' := (4, ⟨5, 1, _, true, .bs _⟩) :: _) rfl (fun h2 => ?_))
  refine So.q rfl rfl (V.as (v := .own 4 0 _) rfl ?_)
  refine So.e ?_
  show HT _ _ _ _ _
  refine HT.seq ?_
  refine HT.seq ?_
  refine HT.region S_export1_ok ?_
  refine So.q rfl rfl (V.mv (v := .own 4 0 _) rfl ?_)
  refine So.n (lk rfl) (A.eqNilOwn ty22 rfl rfl (fun h3 => ?_) ?_)
  · omega
  · refine So.e ?_
    show HT _ _ _ _ _
    refine R.condF rfl ?_
    refine HT.skip ?_
    show HT _ _ _ _ _
    refine HT.seq ?_
    refine HT.region S_export1_ok ?_
    refine So.q rfl rfl (V.mv (v := .own 4 0 _) rfl ?_)
    refine So.q rfl rfl (V.mv (v := .p (.bs _)) rfl ?_)
    refine So.n (lk rfl) (A.call0 [.p (.bs _)] 5 rfl rfl rfl rfl ⟨trivial, trivial⟩ trivial _ ⟨.refl _, trivial⟩ trivial (by first | omega | (simp only [List.drop_zero, List.take_length]; omega) | (simp; done) | (simp; omega)) (Φ := fun _ => True) (fun _ _ => trivial) (.inl rfl) (v := .p (.bs _)) rfl (O' := _) rfl (fun h4 => ?_))
    refine So.n (lk rfl) (A.call0 [.p (.bs _)] 5 rfl rfl rfl rfl ⟨trivial, trivial⟩ trivial (shortF c) ⟨.refl _, trivial⟩ trivial (by first | omega | (simp; done) | (simp; omega)) (Φ := fun _ => True) (fun _ _ => trivial) (.inl rfl) (v := .own 7 0 _) rfl (O' := (7, ⟨5, 1, _, true, .bs _⟩) :: _) rfl (fun h5 => ?_))
    refine So.q rfl rfl (V.mv (v := .p (.v (.int .i64 _))) rfl ?_)
    refine So.n (lk rfl) (A.call0 [.p (.bs _), .p (.str _), .p (.bs _), .p (.v (.int .i64 _))] 8 rfl rfl rfl rfl ⟨trivial, trivial, trivial, trivial, trivial⟩ trivial (labelF (shortF (e.getD 3 [])) m [] 32, nExported, sha (shortF c), n) ⟨le_bs (take_full _), .refl _, le_bs (sha_tr _), .refl _, trivial⟩ trivial (by first | omega | (simp; done) | (simp; omega)) (Φ := fun _ => True) (fun _ _ => trivial) (.inr ⟨trivial, by simp [Hp.scal, OC.scal, PV.scal, BV.scal]⟩) (v := .own 10 0 _) rfl (O' := (10, ⟨5, 1, _, true, .bs _⟩) :: _) rfl (fun h6 => ?_))
    refine So.q rfl rfl (V.as (v := .own 10 0 _) rfl ?_)
    refine So.e ?_
    show HT _ _ _ _ _
    refine HT.ret ?_
    exact ret_ok (sg [(2, 10)]) h rfl rfl rfl ⟨trivial, trivial⟩ ⟨rfl, trivial⟩ rfl ⟨⟨⟨le_own2 (by first | rfl | omega) (by first | rfl), rfl⟩, trivial⟩, ⟨⟨_, rfl, .inl (ob_bs (by first | rfl | ((try dsimp only); (first | rfl))) (by first | rfl | ((try dsimp only); (first | rfl)))), trivial⟩, trivial⟩⟩

end Go.Vh

set_option linter.unusedVariables false
set_option linter.unusedSimpArgs false
namespace Go.Vh
open Go Go.Vc Go.Proofs Go.Vw

/-! ### sodality/wire.fits -/
def fitsSp : Sp := ⟨[], mkE (α := Int) (fun n => [.p (.v (.int .i64 (n)))]) (fun n => []) (fun n => True) (fun n => [.p (.v (.bool (fitsF n)))]) (fun n => [])⟩
def S_fits : FuncId → Option Sp := fun _ => none
theorem S_fits_ok : ∀ f s, S_fits f = some s → FOK Tryd.prog gl f s := fun f s h => by cases h
theorem S_fits_det : ∀ f s, S_fits f = some s → SpDet s.sp := fun f s h => by cases h
set_option maxHeartbeats 1000000 in
set_option maxRecDepth 1000 in
theorem fits_ok : FOK Tryd.prog gl 60 fitsSp := by
  refine FOK.ofE (tyOf_ok Tryd.prog) (slots := [2]) (nt := 9) Tryd.func60 rfl rfl rfl rfl (by decide) 1 (fun _ => rfl) (by decide) (fun _ => ⟨trivial, trivial⟩) ?_
  rintro n kk hlen hpre h
  replace hpre : True := hpre
  show HT (cx Tryd.prog 9 (tyOf Tryd.prog) gl []) _ [(0, .p (.v (.int .i64 (n))))] [] _
  refine HT.seq ?_
  refine HT.region S_fits_ok ?_
  refine So.q rfl rfl (V.as (v := .p (.v (.bool false))) rfl ?_)
  refine So.e ?_
  show HT _ _ _ _ _
  refine HT.seq ?_
  refine HT.seq ?_
  refine HT.region S_fits_ok ?_
  refine So.q rfl rfl (V.mv (v := .p (.v (.int .i64 _))) rfl ?_)
  refine So.e ?_
  show HT _ _ _ _ _
  refine HT.block ?_
  refine HT.seq ?_
  refine HT.seq ?_
  refine HT.region S_fits_ok ?_
  refine So.q rfl rfl (V.bin (a := (.v (.int .i64 _))) (b := (.v (.int .i64 (1)))) (r := .v (.bool _)) rfl rfl rfl trivial ?_)
  refine So.q rfl rfl (V.as (v := .p (.v (.bool _))) rfl ?_)
  refine So.e ?_
  show HT _ _ _ _ _
  refine R.cond rfl rfl (fun h1 => ?_) (fun h1 => ?_)
  · have h1 := of_decide_eq_true h1
    refine HT.skip ?_
    show HT _ _ _ _ _
    refine R.condT rfl ?_
    refine HT.seq ?_
    refine HT.region S_fits_ok ?_
    refine So.q rfl rfl (V.as (v := .p (.v (.bool true))) rfl ?_)
    refine So.e ?_
    show HT _ _ _ _ _
    refine HT.ret ?_
    exact ret_ok (sg []) h rfl rfl rfl trivial ⟨trivial, trivial⟩ rfl ⟨⟨⟨le_bool (by first | exact fits_t (by omega) | exact fits_f (by omega) | omega), trivial⟩, trivial⟩, trivial⟩
  · have h1 := of_decide_eq_false h1
    refine HT.seq ?_
    refine HT.region S_fits_ok ?_
    refine So.q rfl rfl (V.bin (a := (.v (.int .i64 _))) (b := (.v (.int .i64 (2)))) (r := .v (.bool _)) rfl rfl rfl trivial ?_)
    refine So.q rfl rfl (V.as (v := .p (.v (.bool _))) rfl ?_)
    refine So.e ?_
    show HT _ _ _ _ _
    refine R.cond rfl rfl (fun h2 => ?_) (fun h2 => ?_)
    · have h2 := of_decide_eq_true h2
      refine HT.skip ?_
      show HT _ _ _ _ _
      refine R.condT rfl ?_
      refine HT.seq ?_
      refine HT.region S_fits_ok ?_
      refine So.q rfl rfl (V.as (v := .p (.v (.bool true))) rfl ?_)
      refine So.e ?_
      show HT _ _ _ _ _
      refine HT.ret ?_
      exact ret_ok (sg []) h rfl rfl rfl trivial ⟨trivial, trivial⟩ rfl ⟨⟨⟨le_bool (by first | exact fits_t (by omega) | exact fits_f (by omega) | omega), trivial⟩, trivial⟩, trivial⟩
    · have h2 := of_decide_eq_false h2
      refine HT.seq ?_
      refine HT.region S_fits_ok ?_
      refine So.q rfl rfl (V.bin (a := (.v (.int .i64 _))) (b := (.v (.int .i64 (4)))) (r := .v (.bool _)) rfl rfl rfl trivial ?_)
      refine So.q rfl rfl (V.as (v := .p (.v (.bool _))) rfl ?_)
      refine So.e ?_
      show HT _ _ _ _ _
      refine R.cond rfl rfl (fun h3 => ?_) (fun h3 => ?_)
      · have h3 := of_decide_eq_true h3
        refine HT.skip ?_
        show HT _ _ _ _ _
        refine R.condT rfl ?_
        refine HT.seq ?_
        refine HT.region S_fits_ok ?_
        refine So.q rfl rfl (V.as (v := .p (.v (.bool true))) rfl ?_)
        refine So.e ?_
        show HT _ _ _ _ _
        refine HT.ret ?_
        exact ret_ok (sg []) h rfl rfl rfl trivial ⟨trivial, trivial⟩ rfl ⟨⟨⟨le_bool (by first | exact fits_t (by omega) | exact fits_f (by omega) | omega), trivial⟩, trivial⟩, trivial⟩
      · have h3 := of_decide_eq_false h3
        refine HT.region S_fits_ok ?_
        refine So.q rfl rfl (V.bin (a := (.v (.int .i64 _))) (b := (.v (.int .i64 (8)))) (r := .v (.bool _)) rfl rfl rfl trivial ?_)
        refine So.q rfl rfl (V.as (v := .p (.v (.bool _))) rfl ?_)
        refine So.e ?_
        show HT _ _ _ _ _
        refine R.cond rfl rfl (fun h4 => ?_) (fun h4 => ?_)
        · have h4 := of_decide_eq_true h4
          refine HT.seq ?_
          refine HT.region S_fits_ok ?_
          refine So.q rfl rfl (V.as (v := .p (.v (.bool true))) rfl ?_)
          refine So.e ?_
          show HT _ _ _ _ _
          refine HT.ret ?_
          exact ret_ok (sg []) h rfl rfl rfl trivial ⟨trivial, trivial⟩ rfl ⟨⟨⟨le_bool (by first | exact fits_t (by omega) | exact fits_f (by omega) | omega), trivial⟩, trivial⟩, trivial⟩
        · have h4 := of_decide_eq_false h4
          refine HT.skip ?_
          show HT _ _ _ _ _
          refine HT.seq ?_
          refine HT.region S_fits_ok ?_
          refine So.q rfl rfl (V.as (v := .p (.v (.bool false))) rfl ?_)
          refine So.e ?_
          show HT _ _ _ _ _
          refine HT.ret ?_
          exact ret_ok (sg []) h rfl rfl rfl trivial ⟨trivial, trivial⟩ rfl ⟨⟨⟨le_bool (by first | exact fits_t (by omega) | exact fits_f (by omega) | omega), trivial⟩, trivial⟩, trivial⟩

/-! ### sodality/wire.Number -/
def numSp : Sp := ⟨[], mkE (α := Int × Int) (fun (n, k) => [.p (.v (.int .i64 (n))), .p (.v (.int .i64 (k)))]) (fun (n, k) => []) (fun (n, k) => True) (fun (n, k) => [.own 1 (0) ((numF n k).length)]) (fun (n, k) => [(1, ⟨5, 1, (numF n k).length, true, .bs (numF n k)⟩)])⟩
def S_num : FuncId → Option Sp := fun f => if f = 60 then some fitsSp else none
theorem S_num_ok : ∀ f s, S_num f = some s → FOK Tryd.prog gl f s := fun f s h => by
  unfold S_num at h
  split at h
  · rename_i e; cases h; subst e; exact fits_ok
  cases h
theorem S_num_det : ∀ f s, S_num f = some s → SpDet s.sp := fun f s h => by
  unfold S_num at h
  split at h
  · cases h; exact mkE_det _ _ _ _ _
  cases h
set_option maxHeartbeats 1000000 in
set_option maxRecDepth 1000 in
theorem num_ok : FOK Tryd.prog gl 58 numSp := by
  refine FOK.ofE (tyOf_ok Tryd.prog) (slots := [4]) (nt := 45) Tryd.func58 rfl rfl rfl rfl (by decide) 2 (fun ⟨_, _⟩ => rfl) (by decide) (fun ⟨_, _⟩ => ⟨trivial, trivial, trivial⟩) ?_
  rintro ⟨n, k⟩ kk hlen hpre h
  replace hpre : True := hpre
  show HT (cx Tryd.prog 45 (tyOf Tryd.prog) gl []) _ [(0, .p (.v (.int .i64 (n)))), (1, .p (.v (.int .i64 (k))))] [] _
  refine HT.seq ?_
  refine HT.region S_num_ok ?_
  refine So.q rfl rfl (V.as (v := .p (.v (.slice none 0 0))) rfl ?_)
  refine So.e ?_
  show HT _ _ _ _ _
  refine HT.seq ?_
  refine HT.seq ?_
  refine HT.region S_num_ok ?_
  refine So.q rfl rfl (V.mv (v := .p (.v (.int .i64 _))) rfl ?_)
  refine So.n (lk rfl) (A.call0 [.p (.v (.int .i64 _))] 1 rfl rfl rfl rfl ⟨trivial, trivial⟩ trivial _ ⟨.refl _, trivial⟩ trivial (by trivial) (Φ := fun _ => True) (fun _ _ => trivial) (.inl rfl) (v := .p (.v (.bool _))) rfl (O' := _) rfl (fun h1 => ?_))
  refine So.q rfl rfl (V.not rfl ?_)
  refine So.q rfl rfl (V.mv (v := .p (.v (.bool _))) rfl ?_)
  refine So.gd rfl rfl (lk rfl) (lk rfl) (fun h2 => ?_) (fun h2 => ?_)
  · have h2 := fitsT (bnF h2)
    refine A.v rfl (V.mv (v := .p (.v (.int .i64 _))) rfl ?_)
    refine So.gy rfl rfl (lk rfl) (lk rfl) ?_
    refine A.v rfl (V.bin (a := (.v (.int .i64 _))) (b := (.v (.int .i64 (0)))) (r := .v (.bool _)) rfl rfl rfl trivial ?_)
    refine So.q rfl rfl (V.pkFalse (u := .p (.v (.bool _))) rfl rfl ?_)
    refine So.q rfl rfl (V.mv (v := .p (.v (.bool _))) rfl ?_)
    refine So.gd rfl rfl (lk rfl) (lk rfl) (fun h3 => ?_) (fun h3 => ?_)
    · have h3 := of_decide_eq_false h3
      refine A.v rfl (V.mv (v := .p (.v (.int .i64 _))) rfl ?_)
      refine So.gy rfl rfl (lk rfl) (lk rfl) ?_
      refine A.v rfl (V.bin (a := (.v (.int .i64 _))) (b := (.v (.int .i64 (8)))) (r := .v (.bool _)) rfl rfl rfl trivial ?_)
      refine So.gy rfl rfl (lk rfl) (lk rfl) ?_
      refine A.v rfl (V.mv (v := .p (.v (.bool _))) rfl ?_)
      refine So.gd rfl rfl (lk rfl) (lk rfl) (fun h4 => ?_) (fun h4 => ?_)
      · have h4 := of_decide_eq_true h4
        refine A.v rfl (V.mv (v := .p (.v (.int .i64 _))) rfl ?_)
        refine So.gy rfl rfl (lk rfl) (lk rfl) ?_
        refine A.v rfl (V.mv (v := .p (.v (.int .i64 _))) rfl ?_)
        refine So.gy rfl rfl (lk rfl) (lk rfl) ?_
        refine A.v rfl (V.mulI rfl rfl (by omega) ?_)
        refine So.gy rfl rfl (lk rfl) (lk rfl) ?_
        refine A.v rfl (V.bin (a := (.v (.int .i64 (1)))) (b := (.v (.int .i64 _))) (r := .v (.int .i64 _)) rfl rfl rfl (by first | rfl | omega | (simp; done) | (simp; omega)) ?_)
        refine So.gy rfl rfl (lk rfl) (lk rfl) ?_
        refine A.v rfl (V.bin (a := (.v (.int .i64 _))) (b := (.v (.int .i64 _))) (r := .v (.bool _)) rfl rfl rfl trivial ?_)
        refine So.gy rfl rfl (lk rfl) (lk rfl) ?_
        refine A.v rfl (V.pkTrue (u := .p (.v (.bool _))) rfl rfl ?_)
        refine So.q rfl rfl (V.pkFalse (u := .p (.v (.bool _))) rfl rfl ?_)
        refine So.e ?_
        show HT _ _ _ _ _
        refine R.cond rfl rfl (fun h5 => ?_) (fun h5 => ?_)
        · have h5 := of_decide_eq_true h5
          refine HT.seq ?_
          refine HT.region S_num_ok ?_
          refine So.q rfl rfl (V.as (v := .p (.v (.slice none 0 0))) rfl ?_)
          refine So.e ?_
          show HT _ _ _ _ _
          refine R.phan 4 1 5 1 (.bs []) rfl rfl rfl ⟨rfl, rfl⟩ ?_
          refine HT.ret ?_
          exact ret_ok (sg [(1, 1)]) h rfl rfl rfl ⟨trivial, trivial⟩ ⟨rfl, trivial⟩ rfl ⟨⟨⟨le_own2 (by first | rfl | omega) (by first | rfl | (rw [numF_bad (by omega)] <;> rfl) | (rw [numF_big (by omega) (by omega)] <;> rfl) | (rw [numF_ok (by omega) (by omega) (by omega), numB_len]) | (rw [numF_ok (by omega) (by omega) (by omega)]; exact num_fin (by omega))), rfl⟩, trivial⟩, ⟨⟨_, rfl, .inl (ob_bs (by first | rfl | ((try dsimp only); (first | rfl | (rw [numF_bad (by omega)] <;> rfl) | (rw [numF_big (by omega) (by omega)] <;> rfl) | (rw [numF_ok (by omega) (by omega) (by omega), numB_len]) | (rw [numF_ok (by omega) (by omega) (by omega)]; exact num_fin (by omega))))) (by first | rfl | ((try dsimp only); (first | rfl | (rw [numF_bad (by omega)] <;> rfl) | (rw [numF_big (by omega) (by omega)] <;> rfl) | (rw [numF_ok (by omega) (by omega) (by omega), numB_len]) | (rw [numF_ok (by omega) (by omega) (by omega)]; exact num_fin (by omega)))))), trivial⟩, trivial⟩⟩
        · have h5 := of_decide_eq_false h5
          refine HT.skip ?_
          show HT _ _ _ _ _
          refine HT.seq ?_
          refine HT.region S_num_ok ?_
          refine So.q rfl rfl (V.mv (v := .p (.v (.int .i64 _))) rfl ?_)
          refine So.n (lk rfl) (A.mkB 1 ty22 ty5 rfl rfl rfl (by omega) rfl rfl trivial ?_)
          refine So.q rfl rfl (V.as (v := .own 1 0 _) rfl ?_)
          refine So.e ?_
          show HT _ _ _ _ _
          refine HT.seq ?_
          refine HT.seq ?_
          refine HT.region S_num_ok ?_
          refine So.q rfl rfl (V.mv (v := .own 1 0 _) rfl ?_)
          refine So.q rfl rfl (V.len ty22 (v := .own 1 0 _) rfl rfl ?_)
          refine So.q rfl rfl (V.mv (v := .p (.v (.int .i64 (0)))) rfl ?_)
          refine So.e ?_
          show HT _ _ _ _ _
          refine HT.block ?_
          refine R.loop (σ := Nat) (fun s => [(29, .p (.v (.int .i64 ((s : Int)))))]) (fun s => [(1, ⟨5, 1, k.toNat, true, .bs (List.replicate (k.toNat - s) 0 ++ (numB n k.toNat).drop (k.toNat - s))⟩)]) [0, 1, 4, 5, 28] [] (fun s => s ≤ k.toNat) (fun s => k.toNat - s) (0) (fr0 := [(0, .p (.v (.int .i64 _))), (1, .p (.v (.int .i64 _))), (4, .p (.v (.slice none 0 0))), (5, .own 1 0 _), (28, .p (.v (.int .i64 _)))]) (O0 := []) rfl rfl (by first | rfl | omega | (simp; done) | (simp; omega)) ⟨⟨⟨le_int (by first | rfl | omega | (simp [numB]; done)), trivial⟩, ⟨.refl _, trivial⟩, ⟨.refl _, trivial⟩, ⟨.refl _, trivial⟩, ⟨.refl _, rfl⟩, ⟨.refl _, trivial⟩, trivial⟩, ⟨⟨_, rfl, .inl (ob_bs (by first | rfl | ((try dsimp only); first | rfl | omega | (simp [numB]; done))) (by first | rfl | ((try dsimp only); first | rfl | omega | (simp [numB]; done)))), trivial⟩, trivial⟩⟩ (fun s hP0 => ?_)
          refine HT.seq ?_
          refine HT.region S_num_ok ?_
          refine So.q rfl rfl (V.bin (a := (.v (.int .i64 ((_ : Nat) : Int)))) (b := (.v (.int .i64 _))) (r := .v (.bool _)) rfl rfl rfl trivial ?_)
          refine So.e ?_
          show HT _ _ _ _ _
          refine HT.seq ?_
          refine R.cond rfl rfl (fun h6 => ?_) (fun h6 => ?_)
          · have h6 := of_decide_eq_true h6
            refine HT.skip ?_
            show HT _ _ _ _ _
            refine HT.seq ?_
            refine HT.block ?_
            refine HT.seq ?_
            refine HT.region S_num_ok ?_
            refine So.q rfl rfl (V.mv (v := .p (.v (.int .i64 ((_ : Nat) : Int)))) rfl ?_)
            refine So.q rfl rfl (V.as (v := .p (.v (.int .i64 ((_ : Nat) : Int)))) rfl ?_)
            refine So.e ?_
            show HT _ _ _ _ _
            refine HT.region S_num_ok ?_
            refine So.q rfl rfl (V.mv (v := .own 1 0 _) rfl ?_)
            refine So.q rfl rfl (V.mv (v := .p (.v (.int .i64 _))) rfl ?_)
            refine So.q rfl rfl (V.subI rfl rfl (by omega) ?_)
            refine So.q rfl rfl (V.mv (v := .p (.v (.int .i64 ((_ : Nat) : Int)))) rfl ?_)
            refine So.q rfl rfl (V.subI rfl rfl (by omega) ?_)
            refine So.q rfl rfl (V.mv (v := .p (.v (.int .i64 _))) rfl ?_)
            refine So.q rfl rfl (V.mv (v := .p (.v (.int .i64 ((_ : Nat) : Int)))) rfl ?_)
            refine So.q rfl rfl (V.mulI rfl rfl (by omega) ?_)
            refine So.q rfl rfl (V.bin (a := (.v (.int .i64 _))) (b := (.v (.int .i64 _))) (r := .v (.int .i64 _)) rfl rfl rfl (by first | rfl | omega | (simp; done) | (simp; omega)) ?_)
            refine So.q rfl rfl (V.cvN ty5 ty2 (a := (.v (.int .i64 _))) (r := (.u8 _)) rfl rfl ?_)
            refine So.q rfl rfl (V.ixOwn10 ty22 ty5 rfl rfl rfl rfl rfl (by omega) rfl ?_)
            refine So.s (A.sto ty5 rfl rfl rfl (v := .p (.u8 _)) rfl trivial rfl (by first | rfl | omega | (simp; done) | (simp; omega)) rfl rfl ?_)
            refine So.e ?_
            show HT _ _ _ _ _
            refine HT.region S_num_ok ?_
            refine So.q rfl rfl (V.addI rfl rfl (by omega) ?_)
            refine So.q rfl rfl (V.mv (v := .p (.v (.int .i64 _))) rfl ?_)
            refine So.e ?_
            refine ⟨s + 1, by first | rfl | omega | (simp; done) | (simp; omega), by omega, ⟨⟨⟨le_int (by first | rfl | omega | (simp; done) | (simp; omega)), trivial⟩, ⟨.refl _, trivial⟩, ⟨.refl _, trivial⟩, ⟨.refl _, trivial⟩, ⟨.refl _, rfl⟩, ⟨.refl _, trivial⟩, trivial⟩, ⟨⟨_, rfl, .inl (ob_bs (by first | rfl | ((try dsimp only); first | rfl | exact num_step (by omega) (by omega))) (by first | rfl | ((try dsimp only); first | rfl | exact num_step (by omega) (by omega)))), trivial⟩, trivial⟩⟩⟩
          · have h6 := of_decide_eq_false h6
            refine HT.exit ?_
            show HT _ _ _ _ _
            refine HT.seq ?_
            refine HT.region S_num_ok ?_
            refine So.q rfl rfl (V.mv (v := .own 1 0 _) rfl ?_)
            refine So.q rfl rfl (V.as (v := .own 1 0 _) rfl ?_)
            refine So.e ?_
            show HT _ _ _ _ _
            refine HT.ret ?_
            exact ret_ok (sg [(1, 1)]) h rfl rfl rfl ⟨trivial, trivial⟩ ⟨rfl, trivial⟩ rfl ⟨⟨⟨le_own2 (by first | rfl | omega) (by first | rfl | (rw [numF_bad (by omega)] <;> rfl) | (rw [numF_big (by omega) (by omega)] <;> rfl) | (rw [numF_ok (by omega) (by omega) (by omega), numB_len]) | (rw [numF_ok (by omega) (by omega) (by omega)]; exact num_fin (by omega))), rfl⟩, trivial⟩, ⟨⟨_, rfl, .inl (ob_bs (by first | rfl | ((try dsimp only); (first | rfl | (rw [numF_bad (by omega)] <;> rfl) | (rw [numF_big (by omega) (by omega)] <;> rfl) | (rw [numF_ok (by omega) (by omega) (by omega), numB_len]) | (rw [numF_ok (by omega) (by omega) (by omega)]; exact num_fin (by omega))))) (by first | rfl | ((try dsimp only); (first | rfl | (rw [numF_bad (by omega)] <;> rfl) | (rw [numF_big (by omega) (by omega)] <;> rfl) | (rw [numF_ok (by omega) (by omega) (by omega), numB_len]) | (rw [numF_ok (by omega) (by omega) (by omega)]; exact num_fin (by omega)))))), trivial⟩, trivial⟩⟩
      · have h4 := of_decide_eq_false h4
        refine So.gn (b := false) rfl rfl rfl (lk rfl) (lk rfl) ?_
        refine So.gn (b := false) rfl rfl rfl (lk rfl) (lk rfl) ?_
        refine So.gn (b := false) rfl rfl rfl (lk rfl) (lk rfl) ?_
        refine So.gn (b := false) rfl rfl rfl (lk rfl) (lk rfl) ?_
        refine So.gy rfl rfl (lk rfl) (lk rfl) ?_
        refine A.v rfl (V.pkFalse (u := .p (.v (.bool false))) rfl rfl ?_)
        refine So.q rfl rfl (V.pkFalse (u := .p (.v (.bool false))) rfl rfl ?_)
        refine So.e ?_
        show HT _ _ _ _ _
        refine R.condF rfl ?_
        refine HT.skip ?_
        show HT _ _ _ _ _
        refine HT.seq ?_
        refine HT.region S_num_ok ?_
        refine So.q rfl rfl (V.mv (v := .p (.v (.int .i64 _))) rfl ?_)
        refine So.n (lk rfl) (A.mkB 1 ty22 ty5 rfl rfl rfl (by omega) rfl rfl trivial ?_)
        refine So.q rfl rfl (V.as (v := .own 1 0 _) rfl ?_)
        refine So.e ?_
        show HT _ _ _ _ _
        refine HT.seq ?_
        refine HT.seq ?_
        refine HT.region S_num_ok ?_
        refine So.q rfl rfl (V.mv (v := .own 1 0 _) rfl ?_)
        refine So.q rfl rfl (V.len ty22 (v := .own 1 0 _) rfl rfl ?_)
        refine So.q rfl rfl (V.mv (v := .p (.v (.int .i64 (0)))) rfl ?_)
        refine So.e ?_
        show HT _ _ _ _ _
        refine HT.block ?_
        refine R.loop (σ := Nat) (fun s => [(29, .p (.v (.int .i64 ((s : Int)))))]) (fun s => [(1, ⟨5, 1, k.toNat, true, .bs (List.replicate (k.toNat - s) 0 ++ (numB n k.toNat).drop (k.toNat - s))⟩)]) [0, 1, 4, 5, 28] [] (fun s => s ≤ k.toNat) (fun s => k.toNat - s) (0) (fr0 := [(0, .p (.v (.int .i64 _))), (1, .p (.v (.int .i64 _))), (4, .p (.v (.slice none 0 0))), (5, .own 1 0 _), (28, .p (.v (.int .i64 _)))]) (O0 := []) rfl rfl (by first | rfl | omega | (simp; done) | (simp; omega)) ⟨⟨⟨le_int (by first | rfl | omega | (simp [numB]; done)), trivial⟩, ⟨.refl _, trivial⟩, ⟨.refl _, trivial⟩, ⟨.refl _, trivial⟩, ⟨.refl _, rfl⟩, ⟨.refl _, trivial⟩, trivial⟩, ⟨⟨_, rfl, .inl (ob_bs (by first | rfl | ((try dsimp only); first | rfl | omega | (simp [numB]; done))) (by first | rfl | ((try dsimp only); first | rfl | omega | (simp [numB]; done)))), trivial⟩, trivial⟩⟩ (fun s hP0 => ?_)
        refine HT.seq ?_
        refine HT.region S_num_ok ?_
        refine So.q rfl rfl (V.bin (a := (.v (.int .i64 ((_ : Nat) : Int)))) (b := (.v (.int .i64 _))) (r := .v (.bool _)) rfl rfl rfl trivial ?_)
        refine So.e ?_
        show HT _ _ _ _ _
        refine HT.seq ?_
        refine R.cond rfl rfl (fun h7 => ?_) (fun h7 => ?_)
        · have h7 := of_decide_eq_true h7
          refine HT.skip ?_
          show HT _ _ _ _ _
          refine HT.seq ?_
          refine HT.block ?_
          refine HT.seq ?_
          refine HT.region S_num_ok ?_
          refine So.q rfl rfl (V.mv (v := .p (.v (.int .i64 ((_ : Nat) : Int)))) rfl ?_)
          refine So.q rfl rfl (V.as (v := .p (.v (.int .i64 ((_ : Nat) : Int)))) rfl ?_)
          refine So.e ?_
          show HT _ _ _ _ _
          refine HT.region S_num_ok ?_
          refine So.q rfl rfl (V.mv (v := .own 1 0 _) rfl ?_)
          refine So.q rfl rfl (V.mv (v := .p (.v (.int .i64 _))) rfl ?_)
          refine So.q rfl rfl (V.subI rfl rfl (by omega) ?_)
          refine So.q rfl rfl (V.mv (v := .p (.v (.int .i64 ((_ : Nat) : Int)))) rfl ?_)
          refine So.q rfl rfl (V.subI rfl rfl (by omega) ?_)
          refine So.q rfl rfl (V.mv (v := .p (.v (.int .i64 _))) rfl ?_)
          refine So.q rfl rfl (V.mv (v := .p (.v (.int .i64 ((_ : Nat) : Int)))) rfl ?_)
          refine So.q rfl rfl (V.mulI rfl rfl (by omega) ?_)
          refine So.q rfl rfl (V.bin (a := (.v (.int .i64 _))) (b := (.v (.int .i64 _))) (r := .v (.int .i64 _)) rfl rfl rfl (by first | rfl | omega | (simp; done) | (simp; omega)) ?_)
          refine So.q rfl rfl (V.cvN ty5 ty2 (a := (.v (.int .i64 _))) (r := (.u8 _)) rfl rfl ?_)
          refine So.q rfl rfl (V.ixOwn10 ty22 ty5 rfl rfl rfl rfl rfl (by omega) rfl ?_)
          refine So.s (A.sto ty5 rfl rfl rfl (v := .p (.u8 _)) rfl trivial rfl (by first | rfl | omega | (simp; done) | (simp; omega)) rfl rfl ?_)
          refine So.e ?_
          show HT _ _ _ _ _
          refine HT.region S_num_ok ?_
          refine So.q rfl rfl (V.addI rfl rfl (by omega) ?_)
          refine So.q rfl rfl (V.mv (v := .p (.v (.int .i64 _))) rfl ?_)
          refine So.e ?_
          refine ⟨s + 1, by first | rfl | omega | (simp; done) | (simp; omega), by omega, ⟨⟨⟨le_int (by first | rfl | omega | (simp; done) | (simp; omega)), trivial⟩, ⟨.refl _, trivial⟩, ⟨.refl _, trivial⟩, ⟨.refl _, trivial⟩, ⟨.refl _, rfl⟩, ⟨.refl _, trivial⟩, trivial⟩, ⟨⟨_, rfl, .inl (ob_bs (by first | rfl | ((try dsimp only); first | rfl | exact num_step (by omega) (by omega))) (by first | rfl | ((try dsimp only); first | rfl | exact num_step (by omega) (by omega)))), trivial⟩, trivial⟩⟩⟩
        · have h7 := of_decide_eq_false h7
          refine HT.exit ?_
          show HT _ _ _ _ _
          refine HT.seq ?_
          refine HT.region S_num_ok ?_
          refine So.q rfl rfl (V.mv (v := .own 1 0 _) rfl ?_)
          refine So.q rfl rfl (V.as (v := .own 1 0 _) rfl ?_)
          refine So.e ?_
          show HT _ _ _ _ _
          refine HT.ret ?_
          exact ret_ok (sg [(1, 1)]) h rfl rfl rfl ⟨trivial, trivial⟩ ⟨rfl, trivial⟩ rfl ⟨⟨⟨le_own2 (by first | rfl | omega) (by first | rfl | (rw [numF_bad (by omega)] <;> rfl) | (rw [numF_big (by omega) (by omega)] <;> rfl) | (rw [numF_ok (by omega) (by omega) (by omega), numB_len]) | (rw [numF_ok (by omega) (by omega) (by omega)]; exact num_fin (by omega))), rfl⟩, trivial⟩, ⟨⟨_, rfl, .inl (ob_bs (by first | rfl | ((try dsimp only); (first | rfl | (rw [numF_bad (by omega)] <;> rfl) | (rw [numF_big (by omega) (by omega)] <;> rfl) | (rw [numF_ok (by omega) (by omega) (by omega), numB_len]) | (rw [numF_ok (by omega) (by omega) (by omega)]; exact num_fin (by omega))))) (by first | rfl | ((try dsimp only); (first | rfl | (rw [numF_bad (by omega)] <;> rfl) | (rw [numF_big (by omega) (by omega)] <;> rfl) | (rw [numF_ok (by omega) (by omega) (by omega), numB_len]) | (rw [numF_ok (by omega) (by omega) (by omega)]; exact num_fin (by omega)))))), trivial⟩, trivial⟩⟩
    · have h3 := of_decide_eq_true h3
      refine So.gn (b := true) rfl rfl rfl (lk rfl) (lk rfl) ?_
      refine So.gn (b := true) rfl rfl rfl (lk rfl) (lk rfl) ?_
      refine So.gu rfl rfl (lk rfl) ?_
      refine So.gu rfl rfl (lk rfl) ?_
      refine So.gu rfl rfl (lk rfl) ?_
      refine So.gu rfl rfl (lk rfl) ?_
      refine So.gu rfl rfl (lk rfl) ?_
      refine So.gn (b := true) rfl rfl rfl (lk rfl) (lk rfl) ?_
      refine So.q rfl rfl (V.pkTrue (u := .p (.v (.bool true))) rfl rfl ?_)
      refine So.e ?_
      show HT _ _ _ _ _
      refine R.condT rfl ?_
      refine HT.seq ?_
      refine HT.region S_num_ok ?_
      refine So.q rfl rfl (V.as (v := .p (.v (.slice none 0 0))) rfl ?_)
      refine So.e ?_
      show HT _ _ _ _ _
      refine R.phan 4 1 5 1 (.bs []) rfl rfl rfl ⟨rfl, rfl⟩ ?_
      refine HT.ret ?_
      exact ret_ok (sg [(1, 1)]) h rfl rfl rfl ⟨trivial, trivial⟩ ⟨rfl, trivial⟩ rfl ⟨⟨⟨le_own2 (by first | rfl | omega) (by first | rfl | (rw [numF_bad (by omega)] <;> rfl) | (rw [numF_big (by omega) (by omega)] <;> rfl) | (rw [numF_ok (by omega) (by omega) (by omega), numB_len]) | (rw [numF_ok (by omega) (by omega) (by omega)]; exact num_fin (by omega))), rfl⟩, trivial⟩, ⟨⟨_, rfl, .inl (ob_bs (by first | rfl | ((try dsimp only); (first | rfl | (rw [numF_bad (by omega)] <;> rfl) | (rw [numF_big (by omega) (by omega)] <;> rfl) | (rw [numF_ok (by omega) (by omega) (by omega), numB_len]) | (rw [numF_ok (by omega) (by omega) (by omega)]; exact num_fin (by omega))))) (by first | rfl | ((try dsimp only); (first | rfl | (rw [numF_bad (by omega)] <;> rfl) | (rw [numF_big (by omega) (by omega)] <;> rfl) | (rw [numF_ok (by omega) (by omega) (by omega), numB_len]) | (rw [numF_ok (by omega) (by omega) (by omega)]; exact num_fin (by omega)))))), trivial⟩, trivial⟩⟩
  · have h2 := fitsN (bnT h2)
    refine So.gn (b := true) rfl rfl rfl (lk rfl) (lk rfl) ?_
    refine So.q rfl rfl (V.pkTrue (u := .p (.v (.bool true))) rfl rfl ?_)
    refine So.q rfl rfl (V.mv (v := .p (.v (.bool true))) rfl ?_)
    refine So.gn (b := true) rfl rfl rfl (lk rfl) (lk rfl) ?_
    refine So.gn (b := true) rfl rfl rfl (lk rfl) (lk rfl) ?_
    refine So.gn (b := true) rfl rfl rfl (lk rfl) (lk rfl) ?_
    refine So.gu rfl rfl (lk rfl) ?_
    refine So.gu rfl rfl (lk rfl) ?_
    refine So.gu rfl rfl (lk rfl) ?_
    refine So.gu rfl rfl (lk rfl) ?_
    refine So.gu rfl rfl (lk rfl) ?_
    refine So.gn (b := true) rfl rfl rfl (lk rfl) (lk rfl) ?_
    refine So.q rfl rfl (V.pkTrue (u := .p (.v (.bool true))) rfl rfl ?_)
    refine So.e ?_
    show HT _ _ _ _ _
    refine R.condT rfl ?_
    refine HT.seq ?_
    refine HT.region S_num_ok ?_
    refine So.q rfl rfl (V.as (v := .p (.v (.slice none 0 0))) rfl ?_)
    refine So.e ?_
    show HT _ _ _ _ _
    refine R.phan 4 1 5 1 (.bs []) rfl rfl rfl ⟨rfl, rfl⟩ ?_
    refine HT.ret ?_
    exact ret_ok (sg [(1, 1)]) h rfl rfl rfl ⟨trivial, trivial⟩ ⟨rfl, trivial⟩ rfl ⟨⟨⟨le_own2 (by first | rfl | omega) (by first | rfl | (rw [numF_bad (by omega)] <;> rfl) | (rw [numF_big (by omega) (by omega)] <;> rfl) | (rw [numF_ok (by omega) (by omega) (by omega), numB_len]) | (rw [numF_ok (by omega) (by omega) (by omega)]; exact num_fin (by omega))), rfl⟩, trivial⟩, ⟨⟨_, rfl, .inl (ob_bs (by first | rfl | ((try dsimp only); (first | rfl | (rw [numF_bad (by omega)] <;> rfl) | (rw [numF_big (by omega) (by omega)] <;> rfl) | (rw [numF_ok (by omega) (by omega) (by omega), numB_len]) | (rw [numF_ok (by omega) (by omega) (by omega)]; exact num_fin (by omega))))) (by first | rfl | ((try dsimp only); (first | rfl | (rw [numF_bad (by omega)] <;> rfl) | (rw [numF_big (by omega) (by omega)] <;> rfl) | (rw [numF_ok (by omega) (by omega) (by omega), numB_len]) | (rw [numF_ok (by omega) (by omega) (by omega)]; exact num_fin (by omega)))))), trivial⟩, trivial⟩⟩

/-! ### sodality/wire.length -/
def lenSp : Sp := ⟨[], mkE (α := Int) (fun n => [.p (.v (.int .i64 (n)))]) (fun n => []) (fun n => 0 ≤ n ∧ n < 1073741824) (fun n => [.own 1 (0) ((lenF n).length)]) (fun n => [(1, ⟨5, 1, (lenF n).length, true, .bs (lenF n)⟩)])⟩
def S_len : FuncId → Option Sp := fun f => if f = 58 then some numSp else none
theorem S_len_ok : ∀ f s, S_len f = some s → FOK Tryd.prog gl f s := fun f s h => by
  unfold S_len at h
  split at h
  · rename_i e; cases h; subst e; exact num_ok
  cases h
theorem S_len_det : ∀ f s, S_len f = some s → SpDet s.sp := fun f s h => by
  unfold S_len at h
  split at h
  · cases h; exact mkE_det _ _ _ _ _
  cases h
set_option maxHeartbeats 1000000 in
set_option maxRecDepth 1000 in
theorem len_ok : FOK Tryd.prog gl 51 lenSp := by
  refine FOK.ofE (tyOf_ok Tryd.prog) (slots := [2]) (nt := 22) Tryd.func51 rfl rfl rfl rfl (by decide) 1 (fun _ => rfl) (by decide) (fun _ => ⟨trivial, trivial⟩) ?_
  rintro n kk hlen hpre h
  replace hpre : 0 ≤ n ∧ n < 1073741824 := hpre
  show HT (cx Tryd.prog 22 (tyOf Tryd.prog) gl []) _ [(0, .p (.v (.int .i64 (n))))] [] _
  refine HT.seq ?_
  refine HT.region S_len_ok ?_
  refine So.q rfl rfl (V.as (v := .p (.v (.slice none 0 0))) rfl ?_)
  refine So.e ?_
  show HT _ _ _ _ _
  refine HT.scopeS ?_
  refine HT.seq ?_
  refine HT.region S_len_ok ?_
  refine So.q rfl rfl (V.as (v := .p (.v (.int .i64 (0)))) rfl ?_)
  refine So.e ?_
  show HT _ _ _ _ _
  refine HT.seq ?_
  refine HT.label ?_
  show HT _ _ _ _ _
  refine HT.seq ?_
  refine HT.block ?_
  refine R.loop (σ := Int) (fun s => [(3, .p (.v (.int .i64 (s))))]) (fun s => []) [0, 2] [] (fun s => 0 ≤ s ∧ s ≤ 2 ∧ (0 < s → 64 ≤ n) ∧ (1 < s → 16384 ≤ n)) (fun s => (3 - s).toNat) (0) (fr0 := [(0, .p (.v (.int .i64 _))), (2, .p (.v (.slice none 0 0)))]) (O0 := []) rfl rfl (by first | rfl | omega | (simp; done) | (simp; omega)) ⟨⟨⟨le_int (by first | rfl | omega | (simp; done) | (simp; omega)), trivial⟩, ⟨.refl _, trivial⟩, ⟨.refl _, trivial⟩, trivial⟩, trivial⟩ (fun s hP0 => ?_)
  have hsv := shl_v s
  have htb := tbl_nn s
  refine HT.block ?_
  refine HT.seq ?_
  refine HT.seq ?_
  refine HT.region S_len_ok ?_
  refine So.q rfl rfl (V.mv (v := .p (.v (.int .i64 _))) rfl ?_)
  refine So.q rfl rfl (V.mv (v := .p (.v (.int .i64 _))) rfl ?_)
  refine So.q rfl rfl (V.ixArr1 ty75 ty3 rfl rfl (lk rfl) rfl (by omega) rfl ?_)
  refine So.q rfl rfl (V.ldRp ty3 rfl rfl (lk rfl) (v := (.v (.int .i64 _))) rfl ?_)
  refine So.q rfl rfl (V.bin (a := (.v (.int .i64 (1)))) (b := (.v (.int .i64 _))) (r := .v (.int .i64 _)) rfl rfl rfl (by first | rfl | omega | (simp; done) | (simp; omega)) ?_)
  refine So.q rfl rfl (V.bin (a := (.v (.int .i64 _))) (b := (.v (.int .i64 _))) (r := .v (.bool _)) rfl rfl rfl trivial ?_)
  refine So.e ?_
  show HT _ _ _ _ _
  refine R.cond rfl rfl (fun h1 => ?_) (fun h1 => ?_)
  · have h1 := of_decide_eq_true h1
    refine HT.exit ?_
    show HT _ _ _ _ _
    refine HT.seq ?_
    refine HT.tail S_len_ok mixed 9 (by kernel_rfl) (by kernel_rfl) ?_
    refine So.q rfl rfl (V.mv (v := .p (.v (.int .i64 _))) rfl ?_)
    refine So.q rfl rfl (V.mv (v := .p (.v (.int .i64 _))) rfl ?_)
    refine So.q rfl rfl (V.mv (v := .p (.v (.int .i64 _))) rfl ?_)
    refine So.q rfl rfl (V.ixArr1 ty75 ty3 rfl rfl (lk rfl) rfl (by omega) rfl ?_)
    refine So.q rfl rfl (V.ldRp ty3 rfl rfl (lk rfl) (v := (.v (.int .i64 _))) rfl ?_)
    refine So.q rfl rfl (V.bin (a := (.v (.int .i64 _))) (b := (.v (.int .i64 _))) (r := .v (.int .i64 _)) rfl rfl rfl (by first | rfl | omega | (simp; done) | (simp; omega)) ?_)
    refine So.q rfl rfl (V.bin (a := (.v (.int .i64 _))) (b := (.v (.int .i64 _))) (r := .v (.int .i64 _)) rfl rfl rfl trivial ?_)
    refine So.q rfl rfl (V.mv (v := .p (.v (.int .i64 _))) rfl ?_)
    refine So.q rfl rfl (V.bin (a := (.v (.int .i64 (1)))) (b := (.v (.int .i64 _))) (r := .v (.int .i64 _)) rfl rfl rfl (by first | rfl | omega | (simp; done) | (simp; omega)) ?_)
    refine So.n (lk rfl) (A.call0 [.p (.v (.int .i64 _)), .p (.v (.int .i64 _))] 1 rfl rfl rfl rfl ⟨trivial, trivial, trivial⟩ trivial (_, _) ⟨.refl _, .refl _, trivial⟩ trivial (by trivial) (Φ := fun (n, k) => (numF n k).length ≤ 8) (fun _ _ => numF_len _ _) (.inl rfl) (v := .own 2 0 _) rfl (O' := (2, ⟨5, 1, _, true, .bs _⟩) :: _) rfl (fun h2 => ?_))
    try dsimp only at h2
    refine So.q rfl rfl (V.as (v := .own 2 0 _) rfl ?_)
    refine So.e ?_
    show HT _ _ _ _ _
    refine HT.ret ?_
    exact ret_ok (sg [(1, 2)]) h rfl rfl rfl ⟨trivial, trivial⟩ ⟨rfl, trivial⟩ rfl ⟨⟨⟨le_own2 (by first | rfl | omega) (by first | rfl | (rw [lenP (by omega) (by omega) (by omega) (by omega) (by omega) (by omega) (by omega)])), rfl⟩, trivial⟩, ⟨⟨_, rfl, .inl (ob_bs (by first | rfl | ((try dsimp only); (first | rfl | (rw [lenP (by omega) (by omega) (by omega) (by omega) (by omega) (by omega) (by omega)])))) (by first | rfl | ((try dsimp only); (first | rfl | (rw [lenP (by omega) (by omega) (by omega) (by omega) (by omega) (by omega) (by omega)]))))), trivial⟩, trivial⟩⟩
  · have h1 := of_decide_eq_false h1
    refine HT.skip ?_
    show HT _ _ _ _ _
    refine HT.region S_len_ok ?_
    refine So.q rfl rfl (V.mv (v := .p (.v (.int .i64 _))) rfl ?_)
    refine So.q rfl rfl (V.addI rfl rfl (by omega) ?_)
    refine So.q rfl rfl (V.as (v := .p (.v (.int .i64 _))) rfl ?_)
    refine So.e ?_
    refine ⟨s + 1, by omega, by omega, ⟨⟨⟨le_int (by first | rfl | omega | (simp; done) | (simp; omega)), trivial⟩, ⟨.refl _, trivial⟩, ⟨.refl _, trivial⟩, trivial⟩, trivial⟩⟩

/-! ### sodality/wire.Text -/
def textSp : Sp := ⟨[], mkE (α := (List UInt8)) (fun s => [.p (.bs (s))]) (fun s => []) (fun s => True) (fun s => [.own 1 (0) ((textF s).length), .p (.v (.int .i64 (textE s)))]) (fun s => [(1, ⟨5, 1, (textF s).length, true, .bs (textF s)⟩)])⟩
def S_text : FuncId → Option Sp := fun f => if f = 51 then some lenSp else none
theorem S_text_ok : ∀ f s, S_text f = some s → FOK Tryd.prog gl f s := fun f s h => by
  unfold S_text at h
  split at h
  · rename_i e; cases h; subst e; exact len_ok
  cases h
theorem S_text_det : ∀ f s, S_text f = some s → SpDet s.sp := fun f s h => by
  unfold S_text at h
  split at h
  · cases h; exact mkE_det _ _ _ _ _
  cases h
set_option maxHeartbeats 1000000 in
set_option maxRecDepth 1000 in
theorem text_ok : FOK Tryd.prog gl 42 textSp := by
  refine FOK.ofE (tyOf_ok Tryd.prog) (slots := [2, 3]) (nt := 12) Tryd.func42 rfl rfl rfl rfl (by decide) 1 (fun _ => rfl) (by decide) (fun _ => ⟨trivial, trivial⟩) ?_
  rintro s kk hlen hpre h
  have hl0 : (s).length ≤ 9223372036854775807 := hlen.1
  replace hpre : True := hpre
  show HT (cx Tryd.prog 12 (tyOf Tryd.prog) gl []) _ [(0, .p (.bs (s)))] [] _
  refine HT.seq ?_
  refine HT.region S_text_ok ?_
  refine So.q rfl rfl (V.as (v := .p (.v (.slice none 0 0))) rfl ?_)
  refine So.q rfl rfl (V.as (v := .p (.v (.int .i64 (0)))) rfl ?_)
  refine So.e ?_
  show HT _ _ _ _ _
  refine HT.seq ?_
  refine HT.seq ?_
  refine HT.region S_text_ok ?_
  refine So.q rfl rfl (V.mv (v := .p (.bs _)) rfl ?_)
  refine So.q rfl rfl (V.len ty22 (v := .p (.bs _)) rfl rfl ?_)
  refine So.q rfl rfl (V.bin (a := (.v (.int .i64 _))) (b := (.v (.int .i64 (1048576)))) (r := .v (.bool _)) rfl rfl rfl trivial ?_)
  refine So.e ?_
  show HT _ _ _ _ _
  refine R.cond rfl rfl (fun h1 => ?_) (fun h1 => ?_)
  · have h1 := of_decide_eq_true h1
    refine HT.seq ?_
    refine HT.region S_text_ok ?_
    refine So.q rfl rfl (V.as (v := .p (.v (.slice none 0 0))) rfl ?_)
    refine So.q rfl rfl (V.as (v := .p (.v (.int .i64 (2)))) rfl ?_)
    refine So.e ?_
    show HT _ _ _ _ _
    refine R.phan 2 1 5 1 (.bs []) rfl rfl rfl ⟨rfl, rfl⟩ ?_
    refine HT.ret ?_
    exact ret_ok (sg [(1, 1)]) h rfl rfl rfl ⟨trivial, trivial⟩ ⟨rfl, trivial, trivial⟩ rfl ⟨⟨⟨le_own2 (by first | rfl | omega) (by first | rfl | (unfold textF; simp (disch := omega) only [if_pos, if_neg] <;> first | rfl | (simp; done)) | (unfold textE; simp (disch := omega) only [if_pos, if_neg])), rfl⟩, ⟨le_int (by first | rfl | (unfold textF; simp (disch := omega) only [if_pos, if_neg] <;> first | rfl | (simp; done)) | (unfold textE; simp (disch := omega) only [if_pos, if_neg])), trivial⟩, trivial⟩, ⟨⟨_, rfl, .inl (ob_bs (by first | rfl | ((try dsimp only); (first | rfl | (unfold textF; simp (disch := omega) only [if_pos, if_neg] <;> first | rfl | (simp; done)) | (unfold textE; simp (disch := omega) only [if_pos, if_neg])))) (by first | rfl | ((try dsimp only); (first | rfl | (unfold textF; simp (disch := omega) only [if_pos, if_neg] <;> first | rfl | (simp; done)) | (unfold textE; simp (disch := omega) only [if_pos, if_neg]))))), trivial⟩, trivial⟩⟩
  · have h1 := of_decide_eq_false h1
    refine HT.skip ?_
    show HT _ _ _ _ _
    refine HT.seq ?_
    refine HT.region S_text_ok ?_
    refine So.q rfl rfl (V.mv (v := .p (.bs _)) rfl ?_)
    refine So.q rfl rfl (V.len ty22 (v := .p (.bs _)) rfl rfl ?_)
    refine So.n (lk rfl) (A.call0 [.p (.v (.int .i64 _))] 1 rfl rfl rfl rfl ⟨trivial, trivial⟩ trivial _ ⟨.refl _, trivial⟩ trivial (by omega) (Φ := fun n => (lenF n).length ≤ 4) (fun n _ => lenF_le n) (.inl rfl) (v := .own 2 0 _) rfl (O' := (2, ⟨5, 1, _, true, .bs _⟩) :: _) rfl (fun h2 => ?_))
    try dsimp only at h2
    refine So.q rfl rfl (V.mv (v := .p (.bs _)) rfl ?_)
    refine So.n (lk rfl) (A.apOwn ty22 ty5 rfl rfl rfl rfl (u := .p (.bs _)) rfl rfl rfl rfl (by first | rfl | omega | (simp; done) | (simp; omega)) rfl rfl rfl ?_)
    refine So.q rfl rfl (V.as (v := .own 2 0 _) rfl ?_)
    refine So.q rfl rfl (V.as (v := .p (.v (.int .i64 (0)))) rfl ?_)
    refine So.e ?_
    show HT _ _ _ _ _
    refine HT.ret ?_
    exact ret_ok (sg [(1, 2)]) h rfl rfl rfl ⟨trivial, trivial⟩ ⟨rfl, trivial, trivial⟩ rfl ⟨⟨⟨le_own2 (by first | rfl | omega) (by first | rfl | (unfold textF; simp (disch := omega) only [if_pos, if_neg] <;> first | rfl | (simp; done)) | (unfold textE; simp (disch := omega) only [if_pos, if_neg])), rfl⟩, ⟨le_int (by first | rfl | (unfold textF; simp (disch := omega) only [if_pos, if_neg] <;> first | rfl | (simp; done)) | (unfold textE; simp (disch := omega) only [if_pos, if_neg])), trivial⟩, trivial⟩, ⟨⟨_, rfl, .inl (ob_bs (by first | rfl | ((try dsimp only); (first | rfl | (unfold textF; simp (disch := omega) only [if_pos, if_neg] <;> first | rfl | (simp; done)) | (unfold textE; simp (disch := omega) only [if_pos, if_neg])))) (by first | rfl | ((try dsimp only); (first | rfl | (unfold textF; simp (disch := omega) only [if_pos, if_neg] <;> first | rfl | (simp; done)) | (unfold textE; simp (disch := omega) only [if_pos, if_neg]))))), trivial⟩, trivial⟩⟩

end Go.Vh

set_option linter.unusedVariables false
set_option linter.unusedSimpArgs false
namespace Go.Vh
open Go Go.Vc Go.Proofs Go.Vw

/-! ### sodality/sched.sum -/
def sum2Sp : Sp := ⟨[], mkE (α := (List UInt8) × (List UInt8)) (fun (a, b) => [.p (.sl (2) 1 (fun j => .bs (([a, b] : List (List UInt8)).getD j [])))]) (fun (a, b) => []) (fun (a, b) => a.length ≤ 1000000000 ∧ b.length ≤ 1000000000) (fun (a, b) => [.own 2 (0) (32)]) (fun (a, b) => [(2, ⟨5, 1, 32, true, .bs (sumF a b)⟩)])⟩
def S_sum2 : FuncId → Option Sp := fun f => if f = 35 then some newSp else if f = 24 then some shortSp else if f = 42 then some textSp else if f = 36 then some writeSp else if f = 37 then some hsumSp else none
theorem S_sum2_ok : ∀ f s, S_sum2 f = some s → FOK Tryd.prog gl f s := fun f s h => by
  unfold S_sum2 at h
  split at h
  · rename_i e; cases h; subst e; exact new_ok
  split at h
  · rename_i e; cases h; subst e; exact short_ok
  split at h
  · rename_i e; cases h; subst e; exact text_ok
  split at h
  · rename_i e; cases h; subst e; exact write_ok
  split at h
  · rename_i e; cases h; subst e; exact hsum_ok
  cases h
theorem S_sum2_det : ∀ f s, S_sum2 f = some s → SpDet s.sp := fun f s h => by
  unfold S_sum2 at h
  split at h
  · cases h; exact mkE_det _ _ _ _ _
  split at h
  · cases h; exact mkE_det _ _ _ _ _
  split at h
  · cases h; exact mkE_det _ _ _ _ _
  split at h
  · cases h; exact mkE_det _ _ _ _ _
  split at h
  · cases h; exact mkE_det _ _ _ _ _
  cases h
set_option maxHeartbeats 1000000 in
set_option maxRecDepth 20000 in
theorem sum2_ok : FOK Tryd.prog gl 29 sum2Sp := by
  refine FOK.ofE (tyOf_ok Tryd.prog) (slots := [2]) (nt := 27) Tryd.func29 rfl rfl rfl rfl (by decide) 1 (fun ⟨_, _⟩ => rfl) (by decide) (fun ⟨_, _⟩ => ⟨trivial, trivial⟩) ?_
  rintro ⟨a, b⟩ kk hlen hpre h
  have hl0 : 2 ≤ 9223372036854775807 := hlen.1
  replace hpre : a.length ≤ 1000000000 ∧ b.length ≤ 1000000000 := hpre
  show HT (cx Tryd.prog 27 (tyOf Tryd.prog) gl []) _ [(0, .p (.sl (2) 1 (fun j => .bs (([a, b] : List (List UInt8)).getD j []))))] [] _
  have hs0 := shortF_len a
  have hs1 := shortF_len b
  have hts := sum_pre a b
  have hj1 : (jn nl (txF (shortF a))).length ≤ 1000000000 := by rw [jn_len]; simp [rst]; omega
  have hnl : (nl ++ txF (shortF a)).length = (txF (shortF a)).length := rfl
  have hj2 : (jn (nl ++ txF (shortF a)) (txF (shortF b))).length ≤ 2000000000 := by have := rst_len (nl ++ txF (shortF a)); rw [jn_len, List.length_append]; omega
  have hnt : (nl ++ txF (shortF a) ++ txF (shortF b)).length = (txF (shortF a)).length + (txF (shortF b)).length := by rw [List.length_append, hnl]
  refine HT.seq ?_
  refine HT.region S_sum2_ok ?_
  refine So.q rfl rfl (V.as (v := .p (.v (.slice none 0 0))) rfl ?_)
  refine So.e ?_
  show HT _ _ _ _ _
  refine HT.seq ?_
  refine HT.region S_sum2_ok ?_
  refine So.n (lk rfl) (A.call0 [] 1 rfl rfl rfl rfl trivial trivial () trivial trivial (by trivial) (Φ := fun _ => True) (fun _ _ => trivial) (.inl rfl) (v := .ptr 2 0) rfl (O' := (2, ⟨67, 1, _, true, .cells _⟩) :: (3, ⟨5, 1, _, true, .bs _⟩) :: _) rfl (fun h1 => ?_))
  refine So.q rfl rfl (V.as (v := .ptr 2 0) rfl ?_)
  refine So.e ?_
  show HT _ _ _ _ _
  refine HT.seq ?_
  refine HT.seq ?_
  refine HT.region S_sum2_ok ?_
  refine So.q rfl rfl (V.mv (v := .p (.sl _ 1 _)) rfl ?_)
  refine So.q rfl rfl (V.len ty52 (v := .p (.sl _ 1 _)) rfl rfl ?_)
  refine So.q rfl rfl (V.mv (v := .p (.v (.int .i64 (0)))) rfl ?_)
  refine So.e ?_
  show HT _ _ _ _ _
  refine HT.block ?_
  refine HT.rounds 3 ?_
  show HT _ _ _ _ _
  refine HT.seq ?_
  refine HT.region S_sum2_ok ?_
  refine So.q rfl rfl (V.bin (a := (.v (.int .i64 _))) (b := (.v (.int .i64 _))) (r := .v (.bool _)) rfl rfl rfl trivial ?_)
  refine So.e ?_
  show HT _ _ _ _ _
  refine HT.seq ?_
  refine R.cond rfl rfl (fun h2 => ?_) (fun h2 => ?_)
  · have h2 := of_decide_eq_true h2
    refine HT.skip ?_
    show HT _ _ _ _ _
    refine HT.seq ?_
    refine HT.block ?_
    refine HT.seq ?_
    refine HT.region S_sum2_ok ?_
    refine So.q rfl rfl (V.ixSl1 ty52 ty22 rfl rfl rfl (by omega) rfl ?_)
    refine So.q rfl rfl (V.ldRp ty22 rfl rfl (lk rfl) (v := (.bs _)) rfl ?_)
    refine So.q rfl rfl (V.as (v := .p (.bs _)) rfl ?_)
    refine So.e ?_
    show HT _ _ _ _ _
    refine HT.seq ?_
    refine HT.region S_sum2_ok ?_
    refine So.q rfl rfl (V.mv (v := .p (.bs _)) rfl ?_)
    refine So.n (lk rfl) (A.call0 [.p (.bs _)] 4 rfl rfl rfl rfl ⟨trivial, trivial⟩ trivial a ⟨.refl _, trivial⟩ trivial (by first | omega | (simp only [List.drop_zero, List.take_length]; omega) | (simp; done) | (simp; omega)) (Φ := fun _ => True) (fun _ _ => trivial) (.inl rfl) (v := .p (.bs _)) rfl (O' := _) rfl (fun h3 => ?_))
    refine So.n (lk rfl) (A.call0 [.p (.bs _)] 4 rfl rfl rfl rfl ⟨trivial, trivial⟩ trivial _ ⟨.refl _, trivial⟩ trivial (by trivial) (Φ := fun s => (textF s).length ≤ 1048580) (fun s _ => textF_len s) (.inl rfl) (v := .tup 2 _) rfl (O' := (5, ⟨5, 1, _, true, .bs _⟩) :: _) rfl (fun h4 => ?_))
    try dsimp only at h4
    refine So.q rfl rfl (V.mv (v := .tup 2 _) rfl ?_)
    refine So.q rfl rfl (V.ext rfl (lk rfl) (v := .own 5 0 _) rfl ?_)
    refine So.q rfl rfl (V.ext rfl (lk rfl) (v := .p (.v (.int .i64 _))) rfl ?_)
    refine So.q rfl rfl (V.as (v := .own 5 0 _) rfl ?_)
    refine So.q rfl rfl (V.as (v := .p (.v (.int .i64 _))) rfl ?_)
    refine So.e ?_
    show HT _ _ _ _ _
    refine HT.region S_sum2_ok ?_
    refine So.q rfl rfl (V.mv (v := .ptr 2 0) rfl ?_)
    refine So.q rfl rfl (V.mv (v := .own 5 0 _) rfl ?_)
    refine So.n (lk rfl) (A.call [.ptr 1 _, .p (.bs _)] [(1, ⟨_, _, _, _, .cells [.p (.u32 _), .p (.u32 _), .p (.u32 _), .p (.u32 _), .p (.u32 _), .p (.u32 _), .p (.u32 _), .p (.u32 _), .own 2 _ _, .p (.u64 _)]⟩), (2, ⟨_, _, _, _, .bs _⟩)] (sg [(1, 2), (2, 3)]) 6 rfl rfl rfl rfl ⟨rfl, rfl, trivial⟩ rfl ⟨⟨trivial, trivial, trivial, trivial, trivial, trivial, trivial, trivial, rfl, trivial, trivial⟩, trivial, trivial⟩ ⟨rfl, trivial, trivial⟩ trivial rfl (nl, txF (shortF a), nl) ⟨.refl _, le_bs (take_full _), trivial⟩ ⟨⟨_, rfl, .inl rfl, ⟨trivial, trivial, trivial, trivial, trivial, trivial, trivial, trivial, rfl, trivial, trivial⟩⟩, ⟨_, rfl, .inl rfl, trivial⟩, trivial⟩ (by first | omega | (simp; done) | (simp; omega)) (Φ := fun _ => True) (fun _ _ => trivial) ⟨⟨_, _, rfl, rfl, rfl, Nat.le_refl _⟩, trivial⟩ (.inr ⟨fun _ hj => absurd hj (Nat.not_lt_zero _), by simp [Hp.scal, OC.scal, PV.scal, BV.scal]⟩) rfl (v := .tup 0 _) rfl (O' := (2, ⟨_, _, _, _, .cells _⟩) :: (8, ⟨_, _, _, _, .bs _⟩) :: _) rfl (fun h5 => ?_))
    refine So.e ?_
    show HT _ _ _ _ _
    refine HT.region S_sum2_ok ?_
    refine So.q rfl rfl (V.addI rfl rfl (by omega) ?_)
    refine So.q rfl rfl (V.mv (v := .p (.v (.int .i64 _))) rfl ?_)
    refine So.e ?_
    show HT _ _ _ _ _
    refine HT.seq ?_
    refine HT.region S_sum2_ok ?_
    refine So.q rfl rfl (V.bin (a := (.v (.int .i64 _))) (b := (.v (.int .i64 _))) (r := .v (.bool _)) rfl rfl rfl trivial ?_)
    refine So.e ?_
    show HT _ _ _ _ _
    refine HT.seq ?_
    refine R.cond rfl rfl (fun h6 => ?_) (fun h6 => ?_)
    · have h6 := of_decide_eq_true h6
      refine HT.skip ?_
      show HT _ _ _ _ _
      refine HT.seq ?_
      refine HT.block ?_
      refine HT.seq ?_
      refine HT.region S_sum2_ok ?_
      refine So.q rfl rfl (V.ixSl1 ty52 ty22 rfl rfl rfl (by omega) rfl ?_)
      refine So.q rfl rfl (V.ldRp ty22 rfl rfl (lk rfl) (v := (.bs _)) rfl ?_)
      refine So.q rfl rfl (V.as (v := .p (.bs _)) rfl ?_)
      refine So.e ?_
      show HT _ _ _ _ _
      refine HT.seq ?_
      refine HT.region S_sum2_ok ?_
      refine So.q rfl rfl (V.mv (v := .p (.bs _)) rfl ?_)
      refine So.n (lk rfl) (A.call0 [.p (.bs _)] 9 rfl rfl rfl rfl ⟨trivial, trivial⟩ trivial b ⟨.refl _, trivial⟩ trivial (by first | omega | (simp only [List.drop_zero, List.take_length]; omega) | (simp; done) | (simp; omega)) (Φ := fun _ => True) (fun _ _ => trivial) (.inl rfl) (v := .p (.bs _)) rfl (O' := _) rfl (fun h7 => ?_))
      refine So.n (lk rfl) (A.call0 [.p (.bs _)] 9 rfl rfl rfl rfl ⟨trivial, trivial⟩ trivial _ ⟨.refl _, trivial⟩ trivial (by trivial) (Φ := fun s => (textF s).length ≤ 1048580) (fun s _ => textF_len s) (.inl rfl) (v := .tup 2 _) rfl (O' := (10, ⟨5, 1, _, true, .bs _⟩) :: _) rfl (fun h8 => ?_))
      try dsimp only at h8
      refine So.q rfl rfl (V.mv (v := .tup 2 _) rfl ?_)
      refine So.q rfl rfl (V.ext rfl (lk rfl) (v := .own 10 0 _) rfl ?_)
      refine So.q rfl rfl (V.ext rfl (lk rfl) (v := .p (.v (.int .i64 _))) rfl ?_)
      refine So.q rfl rfl (V.as (v := .own 10 0 _) rfl ?_)
      refine So.q rfl rfl (V.as (v := .p (.v (.int .i64 _))) rfl ?_)
      refine So.e ?_
      show HT _ _ _ _ _
      refine HT.region S_sum2_ok ?_
      refine So.q rfl rfl (V.mv (v := .ptr 2 0) rfl ?_)
      refine So.q rfl rfl (V.mv (v := .own 10 0 _) rfl ?_)
      refine So.n (lk rfl) (A.call [.ptr 1 _, .p (.bs _)] [(1, ⟨_, _, _, _, .cells [.p (.u32 _), .p (.u32 _), .p (.u32 _), .p (.u32 _), .p (.u32 _), .p (.u32 _), .p (.u32 _), .p (.u32 _), .own 2 _ _, .p (.u64 _)]⟩), (2, ⟨_, _, _, _, .bs _⟩)] (sg [(1, 2), (2, 8)]) 11 rfl rfl rfl rfl ⟨rfl, rfl, trivial⟩ rfl ⟨⟨trivial, trivial, trivial, trivial, trivial, trivial, trivial, trivial, rfl, trivial, trivial⟩, trivial, trivial⟩ ⟨rfl, trivial, trivial⟩ trivial rfl (nl ++ txF (shortF a), txF (shortF b), jn nl (txF (shortF a))) ⟨.refl _, le_bs (take_full _), trivial⟩ ⟨⟨_, rfl, .inl rfl, ⟨trivial, trivial, trivial, trivial, trivial, trivial, trivial, trivial, rfl, trivial, trivial⟩⟩, ⟨_, rfl, .inl rfl, trivial⟩, trivial⟩ (by first | omega | (simp; done) | (simp; omega)) (Φ := fun _ => True) (fun _ _ => trivial) ⟨⟨_, _, rfl, rfl, rfl, Nat.le_refl _⟩, trivial⟩ (.inr ⟨fun _ hj => absurd hj (Nat.not_lt_zero _), by simp [Hp.scal, OC.scal, PV.scal, BV.scal]⟩) rfl (v := .tup 0 _) rfl (O' := (2, ⟨_, _, _, _, .cells _⟩) :: (13, ⟨_, _, _, _, .bs _⟩) :: _) rfl (fun h9 => ?_))
      refine So.e ?_
      show HT _ _ _ _ _
      refine HT.region S_sum2_ok ?_
      refine So.q rfl rfl (V.addI rfl rfl (by omega) ?_)
      refine So.q rfl rfl (V.mv (v := .p (.v (.int .i64 _))) rfl ?_)
      refine So.e ?_
      show HT _ _ _ _ _
      refine HT.seq ?_
      refine HT.region S_sum2_ok ?_
      refine So.q rfl rfl (V.bin (a := (.v (.int .i64 _))) (b := (.v (.int .i64 _))) (r := .v (.bool _)) rfl rfl rfl trivial ?_)
      refine So.e ?_
      show HT _ _ _ _ _
      refine HT.seq ?_
      refine R.cond rfl rfl (fun h10 => ?_) (fun h10 => ?_)
      · have h10 := of_decide_eq_true h10
        exfalso; omega
      · have h10 := of_decide_eq_false h10
        refine HT.exit ?_
        show HT _ _ _ _ _
        refine HT.seq ?_
        refine HT.region S_sum2_ok ?_
        refine So.q rfl rfl (V.mv (v := .ptr 2 0) rfl ?_)
        refine So.n (lk rfl) (A.call [.ptr 1 _] [(1, ⟨_, _, _, _, .cells [.p (.u32 _), .p (.u32 _), .p (.u32 _), .p (.u32 _), .p (.u32 _), .p (.u32 _), .p (.u32 _), .p (.u32 _), .own 2 _ _, .p (.u64 _)]⟩), (2, ⟨_, _, _, _, .bs _⟩)] (sg [(1, 2), (2, 13)]) 14 rfl rfl rfl rfl ⟨rfl, rfl, trivial⟩ rfl ⟨⟨trivial, trivial, trivial, trivial, trivial, trivial, trivial, trivial, rfl, trivial, trivial⟩, trivial, trivial⟩ ⟨rfl, trivial⟩ trivial rfl ((nl ++ txF (shortF a)) ++ txF (shortF b), jn (nl ++ txF (shortF a)) (txF (shortF b))) ⟨.refl _, trivial⟩ ⟨⟨_, rfl, .inl rfl, ⟨trivial, trivial, trivial, trivial, trivial, trivial, trivial, trivial, rfl, trivial, trivial⟩⟩, ⟨_, rfl, .inl rfl, trivial⟩, trivial⟩ (by first | omega | (simp [jn_len, rst]; omega)) (Φ := fun _ => True) (fun _ _ => trivial) ⟨⟨_, _, rfl, rfl, rfl, Nat.le_refl _⟩, ⟨_, _, rfl, rfl, rfl, Nat.le_refl _⟩, trivial⟩ (.inl rfl) rfl (v := .own 17 0 _) rfl (O' := (2, ⟨_, _, _, _, .cells _⟩) :: (13, ⟨_, _, _, _, .bs _⟩) :: (17, ⟨_, _, _, _, .bs _⟩) :: _) rfl (fun h11 => ?_))
        refine So.q rfl rfl (V.as (v := .own 17 0 _) rfl ?_)
        refine So.e ?_
        show HT _ _ _ _ _
        refine HT.ret ?_
        exact ret_ok (sg [(2, 17)]) h rfl rfl rfl ⟨trivial, trivial⟩ ⟨rfl, trivial⟩ rfl ⟨⟨⟨le_own2 (by first | rfl | omega) (by first | rfl), rfl⟩, trivial⟩, ⟨⟨_, rfl, .inl (ob_bs (by first | rfl | ((try dsimp only); (first | rfl))) (by first | rfl | ((try dsimp only); (first | rfl)))), trivial⟩, trivial⟩⟩
    · have h6 := of_decide_eq_false h6
      exfalso; omega
  · have h2 := of_decide_eq_false h2
    exfalso; omega

/-! ### sodality/sched.Confirmed -/
def confirmedSp : Sp := ⟨[], mkE (α := (List UInt8) × (List UInt8)) (fun (a, b) => [.p (.bs (a)), .p (.bs (b))]) (fun (a, b) => []) (fun (a, b) => a.length ≤ 1000000000 ∧ b.length ≤ 1000000000) (fun (a, b) => [.own 2 (0) (32)]) (fun (a, b) => [(2, ⟨5, 1, 32, true, .bs (sumF a b)⟩)])⟩
def S_confirmed : FuncId → Option Sp := fun f => if f = 29 then some sum2Sp else none
theorem S_confirmed_ok : ∀ f s, S_confirmed f = some s → FOK Tryd.prog gl f s := fun f s h => by
  unfold S_confirmed at h
  split at h
  · rename_i e; cases h; subst e; exact sum2_ok
  cases h
theorem S_confirmed_det : ∀ f s, S_confirmed f = some s → SpDet s.sp := fun f s h => by
  unfold S_confirmed at h
  split at h
  · cases h; exact mkE_det _ _ _ _ _
  cases h
set_option maxHeartbeats 1000000 in
set_option maxRecDepth 1000 in
theorem confirmed_ok : FOK Tryd.prog gl 15 confirmedSp := by
  refine FOK.ofE (tyOf_ok Tryd.prog) (slots := [4]) (nt := 9) Tryd.func15 rfl rfl rfl rfl (by decide) 2 (fun ⟨_, _⟩ => rfl) (by decide) (fun ⟨_, _⟩ => ⟨trivial, trivial, trivial⟩) ?_
  rintro ⟨a, b⟩ kk hlen hpre h
  have hl0 : (a).length ≤ 9223372036854775807 := hlen.1
  have hl1 : (b).length ≤ 9223372036854775807 := hlen.2.1
  replace hpre : a.length ≤ 1000000000 ∧ b.length ≤ 1000000000 := hpre
  show HT (cx Tryd.prog 9 (tyOf Tryd.prog) gl []) _ [(0, .p (.bs (a))), (1, .p (.bs (b)))] [] _
  refine HT.seq ?_
  refine HT.region S_confirmed_ok ?_
  refine So.q rfl rfl (V.as (v := .p (.v (.slice none 0 0))) rfl ?_)
  refine So.e ?_
  show HT _ _ _ _ _
  refine HT.seq ?_
  refine HT.region S_confirmed_ok ?_
  refine So.q rfl rfl (V.mv (v := .p (.bs _)) rfl ?_)
  refine So.q rfl rfl (V.mv (v := .p (.bs _)) rfl ?_)
  refine So.n (lk rfl) (A.bsl 1 ty52 ty22 rfl (lk rfl) (lk rfl) (fun _ => rfl) rfl rfl trivial ⟨trivial, trivial, trivial⟩ rfl (N := 2) rfl (c := .rows _) rfl ?_)
  refine So.n (lk rfl) (A.call0 [.p (.sl _ _ _)] 2 rfl rfl rfl rfl ⟨trivial, trivial⟩ trivial (a, b) ⟨le_sl rfl (by intro j hj; match j, hj with | 0, _ => rfl | 1, _ => rfl), trivial⟩ trivial (by first | omega | (simp only [List.drop_zero, List.take_length]; omega) | (simp; done) | (simp; omega)) (Φ := fun _ => True) (fun _ _ => trivial) (.inr ⟨trivial, by simp [Hp.scal, OC.scal, PV.scal, BV.scal]⟩) (v := .own 4 0 _) rfl (O' := (4, ⟨5, 1, _, true, .bs _⟩) :: _) rfl (fun h1 => ?_))
  refine So.q rfl rfl (V.as (v := .own 4 0 _) rfl ?_)
  refine So.e ?_
  show HT _ _ _ _ _
  refine HT.ret ?_
  exact ret_ok (sg [(2, 4)]) h rfl rfl rfl ⟨trivial, trivial⟩ ⟨rfl, trivial⟩ rfl ⟨⟨⟨le_own2 (by first | rfl | omega) (by first | rfl), rfl⟩, trivial⟩, ⟨⟨_, rfl, .inl (ob_bs (by first | rfl | ((try dsimp only); (first | rfl))) (by first | rfl | ((try dsimp only); (first | rfl)))), trivial⟩, trivial⟩⟩

/-! ### sodality/sched.Interim -/
def interimSp : Sp := ⟨[], mkE (α := (List UInt8) × (List UInt8)) (fun (a, b) => [.p (.bs (a)), .p (.bs (b))]) (fun (a, b) => []) (fun (a, b) => a.length ≤ 1000000000 ∧ b.length ≤ 1000000000) (fun (a, b) => [.own 2 (0) (32)]) (fun (a, b) => [(2, ⟨5, 1, 32, true, .bs (sumF a b)⟩)])⟩
def S_interim : FuncId → Option Sp := fun f => if f = 29 then some sum2Sp else none
theorem S_interim_ok : ∀ f s, S_interim f = some s → FOK Tryd.prog gl f s := fun f s h => by
  unfold S_interim at h
  split at h
  · rename_i e; cases h; subst e; exact sum2_ok
  cases h
theorem S_interim_det : ∀ f s, S_interim f = some s → SpDet s.sp := fun f s h => by
  unfold S_interim at h
  split at h
  · cases h; exact mkE_det _ _ _ _ _
  cases h
set_option maxHeartbeats 1000000 in
set_option maxRecDepth 1000 in
theorem interim_ok : FOK Tryd.prog gl 17 interimSp := by
  refine FOK.ofE (tyOf_ok Tryd.prog) (slots := [4]) (nt := 9) Tryd.func17 rfl rfl rfl rfl (by decide) 2 (fun ⟨_, _⟩ => rfl) (by decide) (fun ⟨_, _⟩ => ⟨trivial, trivial, trivial⟩) ?_
  rintro ⟨a, b⟩ kk hlen hpre h
  have hl0 : (a).length ≤ 9223372036854775807 := hlen.1
  have hl1 : (b).length ≤ 9223372036854775807 := hlen.2.1
  replace hpre : a.length ≤ 1000000000 ∧ b.length ≤ 1000000000 := hpre
  show HT (cx Tryd.prog 9 (tyOf Tryd.prog) gl []) _ [(0, .p (.bs (a))), (1, .p (.bs (b)))] [] _
  refine HT.seq ?_
  refine HT.region S_interim_ok ?_
  refine So.q rfl rfl (V.as (v := .p (.v (.slice none 0 0))) rfl ?_)
  refine So.e ?_
  show HT _ _ _ _ _
  refine HT.seq ?_
  refine HT.region S_interim_ok ?_
  refine So.q rfl rfl (V.mv (v := .p (.bs _)) rfl ?_)
  refine So.q rfl rfl (V.mv (v := .p (.bs _)) rfl ?_)
  refine So.n (lk rfl) (A.bsl 1 ty52 ty22 rfl (lk rfl) (lk rfl) (fun _ => rfl) rfl rfl trivial ⟨trivial, trivial, trivial⟩ rfl (N := 2) rfl (c := .rows _) rfl ?_)
  refine So.n (lk rfl) (A.call0 [.p (.sl _ _ _)] 2 rfl rfl rfl rfl ⟨trivial, trivial⟩ trivial (a, b) ⟨le_sl rfl (by intro j hj; match j, hj with | 0, _ => rfl | 1, _ => rfl), trivial⟩ trivial (by first | omega | (simp only [List.drop_zero, List.take_length]; omega) | (simp; done) | (simp; omega)) (Φ := fun _ => True) (fun _ _ => trivial) (.inr ⟨trivial, by simp [Hp.scal, OC.scal, PV.scal, BV.scal]⟩) (v := .own 4 0 _) rfl (O' := (4, ⟨5, 1, _, true, .bs _⟩) :: _) rfl (fun h1 => ?_))
  refine So.q rfl rfl (V.as (v := .own 4 0 _) rfl ?_)
  refine So.e ?_
  show HT _ _ _ _ _
  refine HT.ret ?_
  exact ret_ok (sg [(2, 4)]) h rfl rfl rfl ⟨trivial, trivial⟩ ⟨rfl, trivial⟩ rfl ⟨⟨⟨le_own2 (by first | rfl | omega) (by first | rfl), rfl⟩, trivial⟩, ⟨⟨_, rfl, .inl (ob_bs (by first | rfl | ((try dsimp only); (first | rfl))) (by first | rfl | ((try dsimp only); (first | rfl)))), trivial⟩, trivial⟩⟩

end Go.Vh

set_option linter.unusedVariables false
set_option linter.unusedSimpArgs false
namespace Go.Vh
open Go Go.Vc Go.Proofs Go.Vw

/-! ### sodality/sodalitylaw16.great -/
def greatSp : Sp := ⟨[], mkE (α := (List UInt8)) (fun b => [.p (.bs (b))]) (fun b => []) (fun b => True) (fun b => [.p (.v (.bool (decide (20000 < (b.length : Int)))))]) (fun b => [])⟩
def S_great : FuncId → Option Sp := fun _ => none
theorem S_great_ok : ∀ f s, S_great f = some s → FOK Tryd.prog gl f s := fun f s h => by cases h
theorem S_great_det : ∀ f s, S_great f = some s → SpDet s.sp := fun f s h => by cases h
set_option maxHeartbeats 1000000 in
set_option maxRecDepth 1000 in
theorem great_ok : FOK Tryd.prog gl 9 greatSp := by
  refine FOK.ofE (tyOf_ok Tryd.prog) (slots := [2]) (nt := 6) Tryd.func9 rfl rfl rfl rfl (by decide) 1 (fun _ => rfl) (by decide) (fun _ => ⟨trivial, trivial⟩) ?_
  rintro b kk hlen hpre h
  have hl0 : (b).length ≤ 9223372036854775807 := hlen.1
  replace hpre : True := hpre
  show HT (cx Tryd.prog 6 (tyOf Tryd.prog) gl []) _ [(0, .p (.bs (b)))] [] _
  refine HT.seq ?_
  refine HT.region S_great_ok ?_
  refine So.q rfl rfl (V.as (v := .p (.v (.bool false))) rfl ?_)
  refine So.e ?_
  show HT _ _ _ _ _
  refine HT.seq ?_
  refine HT.region S_great_ok ?_
  refine So.q rfl rfl (V.mv (v := .p (.bs _)) rfl ?_)
  refine So.q rfl rfl (V.len ty22 (v := .p (.bs _)) rfl rfl ?_)
  refine So.q rfl rfl (V.bin (a := (.v (.int .i64 _))) (b := (.v (.int .i64 (20000)))) (r := .v (.bool _)) rfl rfl rfl trivial ?_)
  refine So.q rfl rfl (V.as (v := .p (.v (.bool _))) rfl ?_)
  refine So.e ?_
  show HT _ _ _ _ _
  refine HT.ret ?_
  exact ret_ok (sg []) h rfl rfl rfl trivial ⟨trivial, trivial⟩ rfl ⟨⟨⟨le_bool (by first | rfl | omega | (simp; done) | (simp; omega)), trivial⟩, trivial⟩, trivial⟩

/-! ### sodality/sodalitylaw16.head -/
def headSp : Sp := ⟨[], mkE (α := Unit) (fun _ => []) (fun _ => []) (fun _ => True) (fun _ => [.p (.v (.bool true))]) (fun _ => [])⟩
def S_head : FuncId → Option Sp := fun f => if f = 10 then some joinerSp else if f = 13 then some deriveSp else if f = 19 then some export1Sp else if f = 15 then some confirmedSp else if f = 17 then some interimSp else none
theorem S_head_ok : ∀ f s, S_head f = some s → FOK Tryd.prog gl f s := fun f s h => by
  unfold S_head at h
  split at h
  · rename_i e; cases h; subst e; exact joiner_ok
  split at h
  · rename_i e; cases h; subst e; exact derive_ok
  split at h
  · rename_i e; cases h; subst e; exact export1_ok
  split at h
  · rename_i e; cases h; subst e; exact confirmed_ok
  split at h
  · rename_i e; cases h; subst e; exact interim_ok
  cases h
theorem S_head_det : ∀ f s, S_head f = some s → SpDet s.sp := fun f s h => by
  unfold S_head at h
  split at h
  · cases h; exact mkE_det _ _ _ _ _
  split at h
  · cases h; exact mkE_det _ _ _ _ _
  split at h
  · cases h; exact mkE_det _ _ _ _ _
  split at h
  · cases h; exact mkE_det _ _ _ _ _
  split at h
  · cases h; exact mkE_det _ _ _ _ _
  cases h
set_option maxHeartbeats 1000000 in
set_option maxRecDepth 20000 in
theorem head_ok : FOK Tryd.prog gl 8 headSp := by
  refine FOK.ofE (tyOf_ok Tryd.prog) (slots := [0]) (nt := 31) Tryd.func8 rfl rfl rfl rfl (by decide) 0 (fun _ => rfl) (by decide) (fun _ => trivial) ?_
  rintro _ kk hlen hpre h
  replace hpre : True := hpre
  show HT (cx Tryd.prog 31 (tyOf Tryd.prog) gl []) _ [] [] _
  obtain ⟨z, hz⟩ : ∃ z : List UInt8, z = [] := ⟨[], rfl⟩
  have hzl : z.length = 0 := by subst hz; rfl
  obtain ⟨N, hN⟩ : ∃ N : Int, N = 5 := ⟨5, rfl⟩
  obtain ⟨xs, hxs⟩ : ∃ xs : List UInt8, xs = [120] := ⟨[120], rfl⟩
  have hxl : xs.length = 1 := by subst hxs; rfl
  have hjl := joinF_len z z z
  have he6 := ep_len (joinF z z z) z (j := 6) (by omega)
  have he3 := ep_len (joinF z z z) z (j := 3) (by omega)
  have hel := expF_len (e := (epochL (joinF z z z) z).getD 3 []) (m := xs) (c := z) (n := N) (by omega) (by omega)
  refine HT.seq ?_
  refine HT.region S_head_ok ?_
  refine So.q rfl rfl (V.as (v := .p (.v (.bool false))) rfl ?_)
  refine So.e ?_
  show HT _ _ _ _ _
  refine HT.seq ?_
  refine HT.region S_head_ok ?_
  refine So.n (lk rfl) (A.call0F S_head_ok [.p (.v (.slice none 0 0)), .p (.v (.slice none 0 0)), .p (.v (.slice none 0 0))] 1 rfl rfl rfl rfl ⟨trivial, trivial, trivial, trivial⟩ trivial (z, z, z) ⟨le_nil hz, le_nil hz, le_nil hz, trivial⟩ trivial (by first | omega | (simp only [List.drop_zero, List.take_length]; omega) | (simp; done) | (simp; omega)) (Φ := fun _ => True) (fun _ _ => trivial) (.inl rfl) (t := 3) (off := 0) rfl (O' := (3, ⟨5, 1, _, true, .bs _⟩) :: _) rfl rfl rfl (y := .p (.bs _)) rfl rfl (fun h1 => ?_))
  refine So.q rfl rfl (V.as (v := .p (.bs _)) rfl ?_)
  refine So.e ?_
  show HT _ _ _ _ _
  refine HT.seq ?_
  refine R.tell [(1, .p (.bs (joinF z z z)))] [] [0] [] (fr0 := [(0, .p (.v (.bool false)))]) (O0 := []) rfl rfl ⟨⟨⟨le_bs (by first | rfl | exact take_full _), trivial⟩, ⟨.refl _, trivial⟩, trivial⟩, trivial⟩ ?_
  show HT _ _ _ _ _
  refine HT.region S_head_ok ?_
  refine So.q rfl rfl (V.mv (v := .p (.bs _)) rfl ?_)
  refine So.n (lk rfl) (A.call0 [.p (.bs _), .p (.v (.slice none 0 0))] 1 rfl rfl rfl rfl ⟨trivial, trivial, trivial⟩ trivial (joinF z z z, z) ⟨.refl _, le_nil hz, trivial⟩ trivial (by first | omega | (simp only [List.drop_zero, List.take_length]; omega) | (simp; done) | (simp; omega)) (Φ := fun _ => True) (fun _ _ => trivial) (.inl rfl) (v := .agg 7 _) rfl (O' := _) rfl (fun h2 => ?_))
  refine So.n (lk rfl) (A.alloc 1 1 ty28 rfl trivial (f := fun _ => .v (.slice none 0 0)) (fun _ _ => rfl) ?_)
  refine So.s (A.stoAg ty28 rfl (n := 7) rfl (by decide) (by intro j hj; first | rfl | trivial | (match j, hj with | 0, _ => trivial | 1, _ => trivial | 2, _ => trivial | 3, _ => trivial | 4, _ => trivial | 5, _ => trivial | 6, _ => trivial)) rfl rfl rfl ?_)
  refine So.e ?_
  show HT _ _ _ _ _
  refine HT.seq ?_
  refine HT.region S_head_ok ?_
  refine So.q rfl rfl (V.mv (v := .p (.bs _)) rfl ?_)
  refine So.q rfl rfl (V.len ty22 (v := .p (.bs _)) rfl rfl ?_)
  refine So.q rfl rfl (V.bin (a := (.v (.int .i64 _))) (b := (.v (.int .i64 (32)))) (r := .v (.bool _)) rfl rfl rfl trivial ?_)
  refine So.q rfl rfl (V.mv (v := .p (.v (.bool _))) rfl ?_)
  refine So.gd rfl rfl (lk rfl) (lk rfl) (fun h3 => ?_) (fun h3 => ?_)
  · have h3 := of_decide_eq_true h3
    refine A.v rfl (V.faPtr ty28 rfl ty22 (lk rfl) rfl rfl (by first | exact lk rfl | first | rfl | omega | (simp; done) | (simp; omega)) ?_)
    refine So.gy rfl rfl (lk rfl) (lk rfl) ?_
    refine A.v rfl (V.ldPtr ty22 rfl rfl rfl (by first | rfl | omega | (simp; done) | (simp; omega)) (v := .p (.bs _)) rfl ?_)
    refine So.gy rfl rfl (lk rfl) (lk rfl) ?_
    refine A.v rfl (V.len ty22 (v := .p (.bs _)) rfl rfl ?_)
    refine So.gy rfl rfl (lk rfl) (lk rfl) ?_
    refine A.v rfl (V.bin (a := (.v (.int .i64 _))) (b := (.v (.int .i64 (32)))) (r := .v (.bool _)) rfl rfl rfl trivial ?_)
    refine So.q rfl rfl (V.pkTrue (u := .p (.v (.bool _))) rfl rfl ?_)
    refine So.q rfl rfl (V.mv (v := .p (.v (.bool _))) rfl ?_)
    refine So.gd rfl rfl (lk rfl) (lk rfl) (fun h4 => ?_) (fun h4 => ?_)
    · have h4 := of_decide_eq_true h4
      refine A.v rfl (V.ldPtrA ty28 rfl rfl rfl rfl (by first | rfl | omega | (simp; done) | (simp; omega)) ?_)
      refine So.gy rfl rfl (lk rfl) (lk rfl) ?_
      refine A.call0 [.agg 7 _, .p (.str _), .p (.v (.slice none 0 0)), .p (.v (.int .i64 _))] 2 rfl rfl rfl rfl ⟨trivial, trivial, trivial, trivial, trivial⟩ trivial (epochL (joinF z z z) z, xs, z, N) ⟨le_agg (fun j _ => by simp only [Nat.zero_add]), le_str hxs.symm, le_nil hz, le_int hN.symm, trivial⟩ trivial (by first | omega | (simp only [List.drop_zero, List.take_length]; omega) | (simp; done) | (simp; omega)) (Φ := fun _ => True) (fun _ _ => trivial) (.inl rfl) (v := .own 4 0 _) rfl (O' := (4, ⟨5, 1, _, true, .bs _⟩) :: _) rfl (fun h5 => ?_)
      refine So.gy rfl rfl (lk rfl) (lk rfl) ?_
      refine A.v rfl (V.len ty22 (v := .own 4 0 _) rfl rfl ?_)
      refine So.gy rfl rfl (lk rfl) (lk rfl) ?_
      refine A.v rfl (V.bin (a := (.v (.int .i64 _))) (b := (.v (.int .i64 (5)))) (r := .v (.bool _)) rfl rfl rfl trivial ?_)
      refine So.q rfl rfl (V.pkTrue (u := .p (.v (.bool _))) rfl rfl ?_)
      refine So.q rfl rfl (V.mv (v := .p (.v (.bool _))) rfl ?_)
      refine So.gd rfl rfl (lk rfl) (lk rfl) (fun h6 => ?_) (fun h6 => ?_)
      · have h6 := of_decide_eq_true h6
        refine A.call0 [.p (.v (.slice none 0 0)), .p (.v (.slice none 0 0))] 5 rfl rfl rfl rfl ⟨trivial, trivial, trivial⟩ trivial (z, z) ⟨le_nil hz, le_nil hz, trivial⟩ trivial (by first | omega | (simp only [List.drop_zero, List.take_length]; omega) | (simp; done) | (simp; omega)) (Φ := fun _ => True) (fun _ _ => trivial) (.inl rfl) (v := .own 7 0 _) rfl (O' := (7, ⟨5, 1, _, true, .bs _⟩) :: _) rfl (fun h7 => ?_)
        refine So.gy rfl rfl (lk rfl) (lk rfl) ?_
        refine A.v rfl (V.len ty22 (v := .own 7 0 _) rfl rfl ?_)
        refine So.gy rfl rfl (lk rfl) (lk rfl) ?_
        refine A.v rfl (V.bin (a := (.v (.int .i64 _))) (b := (.v (.int .i64 (32)))) (r := .v (.bool _)) rfl rfl rfl trivial ?_)
        refine So.q rfl rfl (V.pkTrue (u := .p (.v (.bool _))) rfl rfl ?_)
        refine So.q rfl rfl (V.mv (v := .p (.v (.bool _))) rfl ?_)
        refine So.gd rfl rfl (lk rfl) (lk rfl) (fun h8 => ?_) (fun h8 => ?_)
        · have h8 := of_decide_eq_true h8
          refine A.call0 [.p (.v (.slice none 0 0)), .p (.v (.slice none 0 0))] 8 rfl rfl rfl rfl ⟨trivial, trivial, trivial⟩ trivial (z, z) ⟨le_nil hz, le_nil hz, trivial⟩ trivial (by first | omega | (simp only [List.drop_zero, List.take_length]; omega) | (simp; done) | (simp; omega)) (Φ := fun _ => True) (fun _ _ => trivial) (.inl rfl) (v := .own 10 0 _) rfl (O' := (10, ⟨5, 1, _, true, .bs _⟩) :: _) rfl (fun h9 => ?_)
          refine So.gy rfl rfl (lk rfl) (lk rfl) ?_
          refine A.v rfl (V.len ty22 (v := .own 10 0 _) rfl rfl ?_)
          refine So.gy rfl rfl (lk rfl) (lk rfl) ?_
          refine A.v rfl (V.bin (a := (.v (.int .i64 _))) (b := (.v (.int .i64 (32)))) (r := .v (.bool _)) rfl rfl rfl trivial ?_)
          refine So.q rfl rfl (V.pkTrue (u := .p (.v (.bool _))) rfl rfl ?_)
          refine So.q rfl rfl (V.as (v := .p (.v (.bool _))) rfl ?_)
          refine So.e ?_
          show HT _ _ _ _ _
          refine HT.ret ?_
          exact ret_ok (sg []) h rfl rfl rfl trivial ⟨trivial, trivial⟩ rfl ⟨⟨⟨le_bool (by first | with_reducible rfl | exact decide_eq_true (by omega) | rfl), trivial⟩, trivial⟩, trivial⟩
        · have h8 := of_decide_eq_false h8
          first | exact absurd (by first | omega | (simp only [Nat.zero_add]; omega) | with_reducible rfl) h8 | exact absurd h8 (by first | omega | (simp only [Nat.zero_add]; omega) | with_reducible rfl)
      · have h6 := of_decide_eq_false h6
        first | exact absurd (by first | omega | (simp only [Nat.zero_add]; omega) | with_reducible rfl) h6 | exact absurd h6 (by first | omega | (simp only [Nat.zero_add]; omega) | with_reducible rfl)
    · have h4 := of_decide_eq_false h4
      first | exact absurd (by first | omega | (simp only [Nat.zero_add]; omega) | with_reducible rfl) h4 | exact absurd h4 (by first | omega | (simp only [Nat.zero_add]; omega) | with_reducible rfl)
  · have h3 := of_decide_eq_false h3
    first | exact absurd (by first | omega | (simp only [Nat.zero_add]; omega) | with_reducible rfl) h3 | exact absurd h3 (by first | omega | (simp only [Nat.zero_add]; omega) | with_reducible rfl)

end Go.Vh

set_option linter.unusedVariables false
set_option linter.unusedSimpArgs false
namespace Go.Vh
open Go Go.Vc Go.Proofs Go.Vw

/-! ### sodality/sodalityref11.length -/
def rlenSp : Sp := ⟨[], mkE (α := Int) (fun n => [.p (.v (.int .i64 (n)))]) (fun n => []) (fun n => True) (fun n => [.own 1 (0) ((lenF n).length)]) (fun n => [(1, ⟨5, 1, (lenF n).length, true, .bs (lenF n)⟩)])⟩
def S_rlen : FuncId → Option Sp := fun _ => none
theorem S_rlen_ok : ∀ f s, S_rlen f = some s → FOK Tryd.prog gl f s := fun f s h => by cases h
theorem S_rlen_det : ∀ f s, S_rlen f = some s → SpDet s.sp := fun f s h => by cases h
set_option maxHeartbeats 1000000 in
set_option maxRecDepth 1000 in
theorem rlen_ok : FOK Tryd.prog gl 52 rlenSp := by
  refine FOK.ofE (tyOf_ok Tryd.prog) (slots := [2]) (nt := 30) Tryd.func52 rfl rfl rfl rfl (by decide) 1 (fun _ => rfl) (by decide) (fun _ => ⟨trivial, trivial⟩) ?_
  rintro n kk hlen hpre h
  replace hpre : True := hpre
  show HT (cx Tryd.prog 30 (tyOf Tryd.prog) gl []) _ [(0, .p (.v (.int .i64 (n))))] [] _
  refine HT.seq ?_
  refine HT.region S_rlen_ok ?_
  refine So.q rfl rfl (V.as (v := .p (.v (.slice none 0 0))) rfl ?_)
  refine So.e ?_
  show HT _ _ _ _ _
  refine HT.seq ?_
  refine HT.seq ?_
  refine HT.region S_rlen_ok ?_
  refine So.q rfl rfl (V.mv (v := .p (.v (.int .i64 _))) rfl ?_)
  refine So.q rfl rfl (V.bin (a := (.v (.int .i64 _))) (b := (.v (.int .i64 (64)))) (r := .v (.bool _)) rfl rfl rfl trivial ?_)
  refine So.e ?_
  show HT _ _ _ _ _
  refine R.cond rfl rfl (fun h1 => ?_) (fun h1 => ?_)
  · have h1 := of_decide_eq_true h1
    refine HT.seq ?_
    refine HT.region S_rlen_ok ?_
    refine So.q rfl rfl (V.mv (v := .p (.v (.int .i64 _))) rfl ?_)
    refine So.q rfl rfl (V.cvN ty5 ty3 (a := (.v (.int .i64 _))) (r := (.u8 _)) rfl rfl ?_)
    refine So.n (lk rfl) (A.bsl 1 ty22 ty5 rfl (lk rfl) (lk rfl) (fun _ => rfl) rfl rfl trivial ⟨trivial, trivial⟩ rfl (N := 1) rfl (c := .bs [_]) rfl ?_)
    refine So.q rfl rfl (V.as (v := .own 1 0 _) rfl ?_)
    refine So.e ?_
    show HT _ _ _ _ _
    refine HT.ret ?_
    exact ret_ok (sg [(1, 1)]) h rfl rfl rfl ⟨trivial, trivial⟩ ⟨rfl, trivial⟩ rfl ⟨⟨⟨le_own2 (by first | rfl | omega) (by first | rfl | (unfold lenF; simp (disch := omega) only [if_pos, if_neg] <;> first | rfl | (rw [u8_add64]) | (rw [u8_add128]))), rfl⟩, trivial⟩, ⟨⟨_, rfl, .inl (ob_bs (by first | rfl | ((try dsimp only); (first | rfl | (unfold lenF; simp (disch := omega) only [if_pos, if_neg] <;> first | rfl | (rw [u8_add64]) | (rw [u8_add128]))))) (by first | rfl | ((try dsimp only); (first | rfl | (unfold lenF; simp (disch := omega) only [if_pos, if_neg] <;> first | rfl | (rw [u8_add64]) | (rw [u8_add128])))))), trivial⟩, trivial⟩⟩
  · have h1 := of_decide_eq_false h1
    refine HT.skip ?_
    show HT _ _ _ _ _
    refine HT.seq ?_
    refine HT.seq ?_
    refine HT.region S_rlen_ok ?_
    refine So.q rfl rfl (V.mv (v := .p (.v (.int .i64 _))) rfl ?_)
    refine So.q rfl rfl (V.bin (a := (.v (.int .i64 _))) (b := (.v (.int .i64 (16384)))) (r := .v (.bool _)) rfl rfl rfl trivial ?_)
    refine So.e ?_
    show HT _ _ _ _ _
    refine R.cond rfl rfl (fun h2 => ?_) (fun h2 => ?_)
    · have h2 := of_decide_eq_true h2
      refine HT.seq ?_
      refine HT.region S_rlen_ok ?_
      refine So.q rfl rfl (V.mv (v := .p (.v (.int .i64 _))) rfl ?_)
      refine So.q rfl rfl (V.shrI (n := 8) (M := 256) rfl rfl rfl (by decide) ?_)
      refine So.q rfl rfl (V.cvN ty5 ty3 (a := (.v (.int .i64 _))) (r := (.u8 _)) rfl rfl ?_)
      refine So.q rfl rfl (V.bin (a := (.u8 _)) (b := (.u8 64)) (r := .u8 _) rfl rfl rfl trivial ?_)
      refine So.q rfl rfl (V.mv (v := .p (.v (.int .i64 _))) rfl ?_)
      refine So.q rfl rfl (V.cvN ty5 ty3 (a := (.v (.int .i64 _))) (r := (.u8 _)) rfl rfl ?_)
      refine So.n (lk rfl) (A.bsl 1 ty22 ty5 rfl (lk rfl) (lk rfl) (fun _ => rfl) rfl rfl trivial ⟨trivial, trivial, trivial⟩ rfl (N := 2) rfl (c := .bs [_, _]) rfl ?_)
      refine So.q rfl rfl (V.as (v := .own 1 0 _) rfl ?_)
      refine So.e ?_
      show HT _ _ _ _ _
      refine HT.ret ?_
      exact ret_ok (sg [(1, 1)]) h rfl rfl rfl ⟨trivial, trivial⟩ ⟨rfl, trivial⟩ rfl ⟨⟨⟨le_own2 (by first | rfl | omega) (by first | rfl | (unfold lenF; simp (disch := omega) only [if_pos, if_neg] <;> first | rfl | (rw [u8_add64]) | (rw [u8_add128]))), rfl⟩, trivial⟩, ⟨⟨_, rfl, .inl (ob_bs (by first | rfl | ((try dsimp only); (first | rfl | (unfold lenF; simp (disch := omega) only [if_pos, if_neg] <;> first | rfl | (rw [u8_add64]) | (rw [u8_add128]))))) (by first | rfl | ((try dsimp only); (first | rfl | (unfold lenF; simp (disch := omega) only [if_pos, if_neg] <;> first | rfl | (rw [u8_add64]) | (rw [u8_add128])))))), trivial⟩, trivial⟩⟩
    · have h2 := of_decide_eq_false h2
      refine HT.skip ?_
      show HT _ _ _ _ _
      refine HT.seq ?_
      refine HT.region S_rlen_ok ?_
      refine So.q rfl rfl (V.mv (v := .p (.v (.int .i64 _))) rfl ?_)
      refine So.q rfl rfl (V.shrI (n := 24) (M := 16777216) rfl rfl rfl (by decide) ?_)
      refine So.q rfl rfl (V.cvN ty5 ty3 (a := (.v (.int .i64 _))) (r := (.u8 _)) rfl rfl ?_)
      refine So.q rfl rfl (V.bin (a := (.u8 _)) (b := (.u8 128)) (r := .u8 _) rfl rfl rfl trivial ?_)
      refine So.q rfl rfl (V.mv (v := .p (.v (.int .i64 _))) rfl ?_)
      refine So.q rfl rfl (V.shrI (n := 16) (M := 65536) rfl rfl rfl (by decide) ?_)
      refine So.q rfl rfl (V.cvN ty5 ty3 (a := (.v (.int .i64 _))) (r := (.u8 _)) rfl rfl ?_)
      refine So.q rfl rfl (V.mv (v := .p (.v (.int .i64 _))) rfl ?_)
      refine So.q rfl rfl (V.shrI (n := 8) (M := 256) rfl rfl rfl (by decide) ?_)
      refine So.q rfl rfl (V.cvN ty5 ty3 (a := (.v (.int .i64 _))) (r := (.u8 _)) rfl rfl ?_)
      refine So.q rfl rfl (V.mv (v := .p (.v (.int .i64 _))) rfl ?_)
      refine So.q rfl rfl (V.cvN ty5 ty3 (a := (.v (.int .i64 _))) (r := (.u8 _)) rfl rfl ?_)
      refine So.n (lk rfl) (A.bsl 1 ty22 ty5 rfl (lk rfl) (lk rfl) (fun _ => rfl) rfl rfl trivial ⟨trivial, trivial, trivial, trivial, trivial⟩ rfl (N := 4) rfl (c := .bs [_, _, _, _]) rfl ?_)
      refine So.q rfl rfl (V.as (v := .own 1 0 _) rfl ?_)
      refine So.e ?_
      show HT _ _ _ _ _
      refine HT.ret ?_
      exact ret_ok (sg [(1, 1)]) h rfl rfl rfl ⟨trivial, trivial⟩ ⟨rfl, trivial⟩ rfl ⟨⟨⟨le_own2 (by first | rfl | omega) (by first | rfl | (unfold lenF; simp (disch := omega) only [if_pos, if_neg] <;> first | rfl | (rw [u8_add64]) | (rw [u8_add128]))), rfl⟩, trivial⟩, ⟨⟨_, rfl, .inl (ob_bs (by first | rfl | ((try dsimp only); (first | rfl | (unfold lenF; simp (disch := omega) only [if_pos, if_neg] <;> first | rfl | (rw [u8_add64]) | (rw [u8_add128]))))) (by first | rfl | ((try dsimp only); (first | rfl | (unfold lenF; simp (disch := omega) only [if_pos, if_neg] <;> first | rfl | (rw [u8_add64]) | (rw [u8_add128])))))), trivial⟩, trivial⟩⟩

/-! ### sodality/sodalityref11.Text -/
def rtextSp : Sp := ⟨[], mkE (α := (List UInt8)) (fun s => [.p (.bs (s))]) (fun s => []) (fun s => True) (fun s => [.own 1 (0) ((textF s).length), .p (.v (.int .i64 (textE s)))]) (fun s => [(1, ⟨5, 1, (textF s).length, true, .bs (textF s)⟩)])⟩
def S_rtext : FuncId → Option Sp := fun f => if f = 52 then some rlenSp else none
theorem S_rtext_ok : ∀ f s, S_rtext f = some s → FOK Tryd.prog gl f s := fun f s h => by
  unfold S_rtext at h
  split at h
  · rename_i e; cases h; subst e; exact rlen_ok
  cases h
theorem S_rtext_det : ∀ f s, S_rtext f = some s → SpDet s.sp := fun f s h => by
  unfold S_rtext at h
  split at h
  · cases h; exact mkE_det _ _ _ _ _
  cases h
set_option maxHeartbeats 1000000 in
set_option maxRecDepth 1000 in
theorem rtext_ok : FOK Tryd.prog gl 43 rtextSp := by
  refine FOK.ofE (tyOf_ok Tryd.prog) (slots := [2, 3]) (nt := 12) Tryd.func43 rfl rfl rfl rfl (by decide) 1 (fun _ => rfl) (by decide) (fun _ => ⟨trivial, trivial⟩) ?_
  rintro s kk hlen hpre h
  have hl0 : (s).length ≤ 9223372036854775807 := hlen.1
  replace hpre : True := hpre
  show HT (cx Tryd.prog 12 (tyOf Tryd.prog) gl []) _ [(0, .p (.bs (s)))] [] _
  refine HT.seq ?_
  refine HT.region S_rtext_ok ?_
  refine So.q rfl rfl (V.as (v := .p (.v (.slice none 0 0))) rfl ?_)
  refine So.q rfl rfl (V.as (v := .p (.v (.int .i64 (0)))) rfl ?_)
  refine So.e ?_
  show HT _ _ _ _ _
  refine HT.seq ?_
  refine HT.seq ?_
  refine HT.region S_rtext_ok ?_
  refine So.q rfl rfl (V.mv (v := .p (.bs _)) rfl ?_)
  refine So.q rfl rfl (V.len ty22 (v := .p (.bs _)) rfl rfl ?_)
  refine So.q rfl rfl (V.bin (a := (.v (.int .i64 _))) (b := (.v (.int .i64 (1048576)))) (r := .v (.bool _)) rfl rfl rfl trivial ?_)
  refine So.e ?_
  show HT _ _ _ _ _
  refine R.cond rfl rfl (fun h1 => ?_) (fun h1 => ?_)
  · have h1 := of_decide_eq_true h1
    refine HT.seq ?_
    refine HT.region S_rtext_ok ?_
    refine So.q rfl rfl (V.as (v := .p (.v (.slice none 0 0))) rfl ?_)
    refine So.q rfl rfl (V.as (v := .p (.v (.int .i64 (2)))) rfl ?_)
    refine So.e ?_
    show HT _ _ _ _ _
    refine R.phan 2 1 5 1 (.bs []) rfl rfl rfl ⟨rfl, rfl⟩ ?_
    refine HT.ret ?_
    exact ret_ok (sg [(1, 1)]) h rfl rfl rfl ⟨trivial, trivial⟩ ⟨rfl, trivial, trivial⟩ rfl ⟨⟨⟨le_own2 (by first | rfl | omega) (by first | rfl | (unfold textF; simp (disch := omega) only [if_pos, if_neg] <;> first | rfl | (simp; done)) | (unfold textE; simp (disch := omega) only [if_pos, if_neg])), rfl⟩, ⟨le_int (by first | rfl | (unfold textF; simp (disch := omega) only [if_pos, if_neg] <;> first | rfl | (simp; done)) | (unfold textE; simp (disch := omega) only [if_pos, if_neg])), trivial⟩, trivial⟩, ⟨⟨_, rfl, .inl (ob_bs (by first | rfl | ((try dsimp only); (first | rfl | (unfold textF; simp (disch := omega) only [if_pos, if_neg] <;> first | rfl | (simp; done)) | (unfold textE; simp (disch := omega) only [if_pos, if_neg])))) (by first | rfl | ((try dsimp only); (first | rfl | (unfold textF; simp (disch := omega) only [if_pos, if_neg] <;> first | rfl | (simp; done)) | (unfold textE; simp (disch := omega) only [if_pos, if_neg]))))), trivial⟩, trivial⟩⟩
  · have h1 := of_decide_eq_false h1
    refine HT.skip ?_
    show HT _ _ _ _ _
    refine HT.seq ?_
    refine HT.region S_rtext_ok ?_
    refine So.q rfl rfl (V.mv (v := .p (.bs _)) rfl ?_)
    refine So.q rfl rfl (V.len ty22 (v := .p (.bs _)) rfl rfl ?_)
    refine So.n (lk rfl) (A.call0 [.p (.v (.int .i64 _))] 1 rfl rfl rfl rfl ⟨trivial, trivial⟩ trivial _ ⟨.refl _, trivial⟩ trivial (by trivial) (Φ := fun n => (lenF n).length ≤ 4) (fun n _ => lenF_le n) (.inl rfl) (v := .own 2 0 _) rfl (O' := (2, ⟨5, 1, _, true, .bs _⟩) :: _) rfl (fun h2 => ?_))
    try dsimp only at h2
    refine So.q rfl rfl (V.mv (v := .p (.bs _)) rfl ?_)
    refine So.n (lk rfl) (A.apOwn ty22 ty5 rfl rfl rfl rfl (u := .p (.bs _)) rfl rfl rfl rfl (by first | rfl | omega | (simp; done) | (simp; omega)) rfl rfl rfl ?_)
    refine So.q rfl rfl (V.as (v := .own 2 0 _) rfl ?_)
    refine So.q rfl rfl (V.as (v := .p (.v (.int .i64 (0)))) rfl ?_)
    refine So.e ?_
    show HT _ _ _ _ _
    refine HT.ret ?_
    exact ret_ok (sg [(1, 2)]) h rfl rfl rfl ⟨trivial, trivial⟩ ⟨rfl, trivial, trivial⟩ rfl ⟨⟨⟨le_own2 (by first | rfl | omega) (by first | rfl | (unfold textF; simp (disch := omega) only [if_pos, if_neg] <;> first | rfl | (simp; done)) | (unfold textE; simp (disch := omega) only [if_pos, if_neg])), rfl⟩, ⟨le_int (by first | rfl | (unfold textF; simp (disch := omega) only [if_pos, if_neg] <;> first | rfl | (simp; done)) | (unfold textE; simp (disch := omega) only [if_pos, if_neg])), trivial⟩, trivial⟩, ⟨⟨_, rfl, .inl (ob_bs (by first | rfl | ((try dsimp only); (first | rfl | (unfold textF; simp (disch := omega) only [if_pos, if_neg] <;> first | rfl | (simp; done)) | (unfold textE; simp (disch := omega) only [if_pos, if_neg])))) (by first | rfl | ((try dsimp only); (first | rfl | (unfold textF; simp (disch := omega) only [if_pos, if_neg] <;> first | rfl | (simp; done)) | (unfold textE; simp (disch := omega) only [if_pos, if_neg]))))), trivial⟩, trivial⟩⟩

end Go.Vh

set_option linter.unusedVariables false
set_option linter.unusedSimpArgs false
namespace Go.Vh
open Go Go.Vc Go.Proofs Go.Vw

/-! ### sodality/sodalityref16.texts -/
def rtextsSp : Sp := ⟨[], mkE (α := (List UInt8) × (List UInt8)) (fun (a, b) => [.p (.bs (a)), .p (.bs (b))]) (fun (a, b) => []) (fun (a, b) => a.length ≤ 1000000000 ∧ b.length ≤ 1000000000) (fun (a, b) => [.own 2 (0) (32)]) (fun (a, b) => [(2, ⟨5, 1, 32, true, .bs (sumF a b)⟩)])⟩
def S_rtexts : FuncId → Option Sp := fun f => if f = 27 then some rshortSp else if f = 43 then some rtextSp else if f = 31 then some rsumSp else none
theorem S_rtexts_ok : ∀ f s, S_rtexts f = some s → FOK Tryd.prog gl f s := fun f s h => by
  unfold S_rtexts at h
  split at h
  · rename_i e; cases h; subst e; exact rshort_ok
  split at h
  · rename_i e; cases h; subst e; exact rtext_ok
  split at h
  · rename_i e; cases h; subst e; exact rsum_ok
  cases h
theorem S_rtexts_det : ∀ f s, S_rtexts f = some s → SpDet s.sp := fun f s h => by
  unfold S_rtexts at h
  split at h
  · cases h; exact mkE_det _ _ _ _ _
  split at h
  · cases h; exact mkE_det _ _ _ _ _
  split at h
  · cases h; exact mkE_det _ _ _ _ _
  cases h
set_option maxHeartbeats 1000000 in
set_option maxRecDepth 20000 in
theorem rtexts_ok : FOK Tryd.prog gl 30 rtextsSp := by
  refine FOK.ofE (tyOf_ok Tryd.prog) (slots := [4]) (nt := 25) Tryd.func30 rfl rfl rfl rfl (by decide) 2 (fun ⟨_, _⟩ => rfl) (by decide) (fun ⟨_, _⟩ => ⟨trivial, trivial, trivial⟩) ?_
  rintro ⟨a, b⟩ kk hlen hpre h
  have hl0 : (a).length ≤ 9223372036854775807 := hlen.1
  have hl1 : (b).length ≤ 9223372036854775807 := hlen.2.1
  replace hpre : a.length ≤ 1000000000 ∧ b.length ≤ 1000000000 := hpre
  show HT (cx Tryd.prog 25 (tyOf Tryd.prog) gl []) _ [(0, .p (.bs (a))), (1, .p (.bs (b)))] [] _
  have hs0 := shortF_len a
  have hs1 := shortF_len b
  have hts := sum_pre a b
  have hj1 : (jn nl (txF (shortF a))).length ≤ 1000000000 := by rw [jn_len]; simp [rst]; omega
  have hnl : (nl ++ txF (shortF a)).length = (txF (shortF a)).length := rfl
  have hj2 : (jn (nl ++ txF (shortF a)) (txF (shortF b))).length ≤ 2000000000 := by have := rst_len (nl ++ txF (shortF a)); rw [jn_len, List.length_append]; omega
  have hnt : (nl ++ txF (shortF a) ++ txF (shortF b)).length = (txF (shortF a)).length + (txF (shortF b)).length := by rw [List.length_append, hnl]
  refine HT.seq ?_
  refine HT.region S_rtexts_ok ?_
  refine So.q rfl rfl (V.as (v := .p (.v (.slice none 0 0))) rfl ?_)
  refine So.e ?_
  show HT _ _ _ _ _
  refine HT.seq ?_
  refine HT.region S_rtexts_ok ?_
  refine So.q rfl rfl (V.mv (v := .p (.bs _)) rfl ?_)
  refine So.n (lk rfl) (A.call0 [.p (.bs _)] 1 rfl rfl rfl rfl ⟨trivial, trivial⟩ trivial _ ⟨.refl _, trivial⟩ trivial (by first | omega | (simp only [List.drop_zero, List.take_length]; omega) | (simp; done) | (simp; omega)) (Φ := fun _ => True) (fun _ _ => trivial) (.inl rfl) (v := .p (.bs _)) rfl (O' := _) rfl (fun h1 => ?_))
  refine So.n (lk rfl) (A.call0 [.p (.bs _)] 1 rfl rfl rfl rfl ⟨trivial, trivial⟩ trivial _ ⟨.refl _, trivial⟩ trivial (by trivial) (Φ := fun s => (textF s).length ≤ 1048580) (fun s _ => textF_len s) (.inl rfl) (v := .tup 2 _) rfl (O' := (2, ⟨5, 1, _, true, .bs _⟩) :: _) rfl (fun h2 => ?_))
  try dsimp only at h2
  refine So.q rfl rfl (V.mv (v := .tup 2 _) rfl ?_)
  refine So.q rfl rfl (V.ext rfl (lk rfl) (v := .own 2 0 _) rfl ?_)
  refine So.q rfl rfl (V.ext rfl (lk rfl) (v := .p (.v (.int .i64 _))) rfl ?_)
  refine So.q rfl rfl (V.as (v := .own 2 0 _) rfl ?_)
  refine So.q rfl rfl (V.as (v := .p (.v (.int .i64 _))) rfl ?_)
  refine So.e ?_
  show HT _ _ _ _ _
  refine HT.seq ?_
  refine HT.region S_rtexts_ok ?_
  refine So.q rfl rfl (V.mv (v := .p (.bs _)) rfl ?_)
  refine So.n (lk rfl) (A.call0 [.p (.bs _)] 3 rfl rfl rfl rfl ⟨trivial, trivial⟩ trivial _ ⟨.refl _, trivial⟩ trivial (by first | omega | (simp only [List.drop_zero, List.take_length]; omega) | (simp; done) | (simp; omega)) (Φ := fun _ => True) (fun _ _ => trivial) (.inl rfl) (v := .p (.bs _)) rfl (O' := _) rfl (fun h3 => ?_))
  refine So.n (lk rfl) (A.call0 [.p (.bs _)] 3 rfl rfl rfl rfl ⟨trivial, trivial⟩ trivial _ ⟨.refl _, trivial⟩ trivial (by trivial) (Φ := fun s => (textF s).length ≤ 1048580) (fun s _ => textF_len s) (.inl rfl) (v := .tup 2 _) rfl (O' := (4, ⟨5, 1, _, true, .bs _⟩) :: _) rfl (fun h4 => ?_))
  try dsimp only at h4
  refine So.q rfl rfl (V.mv (v := .tup 2 _) rfl ?_)
  refine So.q rfl rfl (V.ext rfl (lk rfl) (v := .own 4 0 _) rfl ?_)
  refine So.q rfl rfl (V.ext rfl (lk rfl) (v := .p (.v (.int .i64 _))) rfl ?_)
  refine So.q rfl rfl (V.as (v := .own 4 0 _) rfl ?_)
  refine So.q rfl rfl (V.as (v := .p (.v (.int .i64 _))) rfl ?_)
  refine So.e ?_
  show HT _ _ _ _ _
  refine HT.seq ?_
  refine HT.region S_rtexts_ok ?_
  refine So.q rfl rfl (V.mv (v := .own 2 0 _) rfl ?_)
  refine So.q rfl rfl (V.mv (v := .own 4 0 _) rfl ?_)
  refine So.n (lk rfl) (A.apOwn ty22 ty5 rfl rfl rfl rfl (u := .own 4 0 _) rfl rfl (l' := txF (shortF a) ++ txF (shortF b)) (by rw [ap_full (Nat.le_refl _), take_full]) (mn := (txF (shortF a)).length + (txF (shortF b)).length) (by first | rfl | (rw [take_full]; done)) (by first | rfl | omega | (simp; done) | (simp; omega)) rfl rfl rfl ?_)
  refine So.n (lk rfl) (A.call0 [.p (.bs _)] 5 rfl rfl rfl rfl ⟨trivial, trivial⟩ trivial (txF (shortF a) ++ txF (shortF b)) ⟨le_bs (by rw [List.drop_zero, List.take_of_length_le (by rw [List.length_append]; exact Nat.le_refl _)]), trivial⟩ trivial (by first | omega | (simp; done) | (simp; omega)) (Φ := fun _ => True) (fun _ _ => trivial) (.inr ⟨trivial, by simp [Hp.scal, OC.scal, PV.scal, BV.scal]⟩) (v := .own 7 0 _) rfl (O' := (7, ⟨5, 1, _, true, .bs _⟩) :: _) rfl (fun h5 => ?_))
  refine So.q rfl rfl (V.as (v := .own 7 0 _) rfl ?_)
  refine So.e ?_
  show HT _ _ _ _ _
  refine HT.ret ?_
  exact ret_ok (sg [(2, 7)]) h rfl rfl rfl ⟨trivial, trivial⟩ ⟨rfl, trivial⟩ rfl ⟨⟨⟨le_own2 (by first | rfl | omega) (by first | rfl), rfl⟩, trivial⟩, ⟨⟨_, rfl, .inl (ob_bs (by first | rfl | ((try dsimp only); (first | rfl))) (by first | rfl | ((try dsimp only); (first | rfl)))), trivial⟩, trivial⟩⟩

/-! ### sodality/sodalityref16.Confirmed -/
def rconfirmedSp : Sp := ⟨[], mkE (α := (List UInt8) × (List UInt8)) (fun (a, b) => [.p (.bs (a)), .p (.bs (b))]) (fun (a, b) => []) (fun (a, b) => a.length ≤ 1000000000 ∧ b.length ≤ 1000000000) (fun (a, b) => [.own 2 (0) (32)]) (fun (a, b) => [(2, ⟨5, 1, 32, true, .bs (sumF a b)⟩)])⟩
def S_rconfirmed : FuncId → Option Sp := fun f => if f = 30 then some rtextsSp else none
theorem S_rconfirmed_ok : ∀ f s, S_rconfirmed f = some s → FOK Tryd.prog gl f s := fun f s h => by
  unfold S_rconfirmed at h
  split at h
  · rename_i e; cases h; subst e; exact rtexts_ok
  cases h
theorem S_rconfirmed_det : ∀ f s, S_rconfirmed f = some s → SpDet s.sp := fun f s h => by
  unfold S_rconfirmed at h
  split at h
  · cases h; exact mkE_det _ _ _ _ _
  cases h
set_option maxHeartbeats 1000000 in
set_option maxRecDepth 1000 in
theorem rconfirmed_ok : FOK Tryd.prog gl 16 rconfirmedSp := by
  refine FOK.ofE (tyOf_ok Tryd.prog) (slots := [4]) (nt := 8) Tryd.func16 rfl rfl rfl rfl (by decide) 2 (fun ⟨_, _⟩ => rfl) (by decide) (fun ⟨_, _⟩ => ⟨trivial, trivial, trivial⟩) ?_
  rintro ⟨a, b⟩ kk hlen hpre h
  have hl0 : (a).length ≤ 9223372036854775807 := hlen.1
  have hl1 : (b).length ≤ 9223372036854775807 := hlen.2.1
  replace hpre : a.length ≤ 1000000000 ∧ b.length ≤ 1000000000 := hpre
  show HT (cx Tryd.prog 8 (tyOf Tryd.prog) gl []) _ [(0, .p (.bs (a))), (1, .p (.bs (b)))] [] _
  refine HT.seq ?_
  refine HT.region S_rconfirmed_ok ?_
  refine So.q rfl rfl (V.as (v := .p (.v (.slice none 0 0))) rfl ?_)
  refine So.e ?_
  show HT _ _ _ _ _
  refine HT.seq ?_
  refine HT.region S_rconfirmed_ok ?_
  refine So.q rfl rfl (V.mv (v := .p (.bs _)) rfl ?_)
  refine So.q rfl rfl (V.mv (v := .p (.bs _)) rfl ?_)
  refine So.n (lk rfl) (A.call0 [.p (.bs _), .p (.bs _)] 1 rfl rfl rfl rfl ⟨trivial, trivial, trivial⟩ trivial (_, _) ⟨.refl _, .refl _, trivial⟩ trivial (by first | omega | (simp only [List.drop_zero, List.take_length]; omega) | (simp; done) | (simp; omega)) (Φ := fun _ => True) (fun _ _ => trivial) (.inl rfl) (v := .own 3 0 _) rfl (O' := (3, ⟨5, 1, _, true, .bs _⟩) :: _) rfl (fun h1 => ?_))
  refine So.q rfl rfl (V.as (v := .own 3 0 _) rfl ?_)
  refine So.e ?_
  show HT _ _ _ _ _
  refine HT.ret ?_
  exact ret_ok (sg [(2, 3)]) h rfl rfl rfl ⟨trivial, trivial⟩ ⟨rfl, trivial⟩ rfl ⟨⟨⟨le_own2 (by first | rfl | omega) (by first | rfl), rfl⟩, trivial⟩, ⟨⟨_, rfl, .inl (ob_bs (by first | rfl | ((try dsimp only); (first | rfl))) (by first | rfl | ((try dsimp only); (first | rfl)))), trivial⟩, trivial⟩⟩

/-! ### sodality/sodalityref16.Interim -/
def rinterimSp : Sp := ⟨[], mkE (α := (List UInt8) × (List UInt8)) (fun (a, b) => [.p (.bs (a)), .p (.bs (b))]) (fun (a, b) => []) (fun (a, b) => a.length ≤ 1000000000 ∧ b.length ≤ 1000000000) (fun (a, b) => [.own 2 (0) (32)]) (fun (a, b) => [(2, ⟨5, 1, 32, true, .bs (sumF a b)⟩)])⟩
def S_rinterim : FuncId → Option Sp := fun f => if f = 30 then some rtextsSp else none
theorem S_rinterim_ok : ∀ f s, S_rinterim f = some s → FOK Tryd.prog gl f s := fun f s h => by
  unfold S_rinterim at h
  split at h
  · rename_i e; cases h; subst e; exact rtexts_ok
  cases h
theorem S_rinterim_det : ∀ f s, S_rinterim f = some s → SpDet s.sp := fun f s h => by
  unfold S_rinterim at h
  split at h
  · cases h; exact mkE_det _ _ _ _ _
  cases h
set_option maxHeartbeats 1000000 in
set_option maxRecDepth 1000 in
theorem rinterim_ok : FOK Tryd.prog gl 18 rinterimSp := by
  refine FOK.ofE (tyOf_ok Tryd.prog) (slots := [4]) (nt := 8) Tryd.func18 rfl rfl rfl rfl (by decide) 2 (fun ⟨_, _⟩ => rfl) (by decide) (fun ⟨_, _⟩ => ⟨trivial, trivial, trivial⟩) ?_
  rintro ⟨a, b⟩ kk hlen hpre h
  have hl0 : (a).length ≤ 9223372036854775807 := hlen.1
  have hl1 : (b).length ≤ 9223372036854775807 := hlen.2.1
  replace hpre : a.length ≤ 1000000000 ∧ b.length ≤ 1000000000 := hpre
  show HT (cx Tryd.prog 8 (tyOf Tryd.prog) gl []) _ [(0, .p (.bs (a))), (1, .p (.bs (b)))] [] _
  refine HT.seq ?_
  refine HT.region S_rinterim_ok ?_
  refine So.q rfl rfl (V.as (v := .p (.v (.slice none 0 0))) rfl ?_)
  refine So.e ?_
  show HT _ _ _ _ _
  refine HT.seq ?_
  refine HT.region S_rinterim_ok ?_
  refine So.q rfl rfl (V.mv (v := .p (.bs _)) rfl ?_)
  refine So.q rfl rfl (V.mv (v := .p (.bs _)) rfl ?_)
  refine So.n (lk rfl) (A.call0 [.p (.bs _), .p (.bs _)] 1 rfl rfl rfl rfl ⟨trivial, trivial, trivial⟩ trivial (_, _) ⟨.refl _, .refl _, trivial⟩ trivial (by first | omega | (simp only [List.drop_zero, List.take_length]; omega) | (simp; done) | (simp; omega)) (Φ := fun _ => True) (fun _ _ => trivial) (.inl rfl) (v := .own 3 0 _) rfl (O' := (3, ⟨5, 1, _, true, .bs _⟩) :: _) rfl (fun h1 => ?_))
  refine So.q rfl rfl (V.as (v := .own 3 0 _) rfl ?_)
  refine So.e ?_
  show HT _ _ _ _ _
  refine HT.ret ?_
  exact ret_ok (sg [(2, 3)]) h rfl rfl rfl ⟨trivial, trivial⟩ ⟨rfl, trivial⟩ rfl ⟨⟨⟨le_own2 (by first | rfl | omega) (by first | rfl), rfl⟩, trivial⟩, ⟨⟨_, rfl, .inl (ob_bs (by first | rfl | ((try dsimp only); (first | rfl))) (by first | rfl | ((try dsimp only); (first | rfl)))), trivial⟩, trivial⟩⟩

end Go.Vh
