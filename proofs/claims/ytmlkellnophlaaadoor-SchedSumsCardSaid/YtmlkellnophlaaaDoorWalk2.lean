/- What is proved: each function of the seat's program does what its contract says, wherever it is called; no condition. -/
import Derived.Test.YtmlkellnophlaaaDoorWalk0
import Derived.Test.YtmlkellnophlaaaDoorWalk1
import Derived.Test.YtmlkellnophlaaaDoorPure0
set_option linter.unusedVariables false
set_option linter.unusedSimpArgs false
set_option linter.unusedVariables false
set_option linter.unusedSimpArgs false
namespace Go.Vh
open Go Go.Vc Go.Proofs Go.Vw

/-! ### sodality/sodalityref03.Info -/
def rinfoSp : Sp := ⟨[], mkE (α := (List UInt8) × (List UInt8) × Int) (fun (m, c, n) => [.p (.str (m)), .p (.bs (c)), .p (.v (.int .i64 (n)))]) (fun (m, c, n) => []) (fun (m, c, n) => True) (fun (m, c, n) => [.own 2 (0) ((infoF m c n).length)]) (fun (m, c, n) => [(2, ⟨5, 1, (infoF m c n).length, true, .bs (infoF m c n)⟩)])⟩
def S_rinfo : FuncId → Option Sp := fun f => if f = 50 then some rlongSp else none
theorem S_rinfo_ok : ∀ f s, S_rinfo f = some s → FOK Tryd.prog gl f s := fun f s h => by
  unfold S_rinfo at h
  split at h
  · rename_i e; cases h; subst e; exact rlong_ok
  cases h
theorem S_rinfo_det : ∀ f s, S_rinfo f = some s → SpDet s.sp := fun f s h => by
  unfold S_rinfo at h
  split at h
  · cases h; exact mkE_det _ _ _ _ _
  cases h
set_option maxHeartbeats 1000000 in
set_option maxRecDepth 20000 in
theorem rinfo_ok : FOK Tryd.prog gl 39 rinfoSp := by
  refine FOK.ofE (tyOf_ok Tryd.prog) (slots := [6]) (nt := 40) Tryd.func39 rfl rfl rfl rfl (by decide) 3 (fun ⟨_, _, _⟩ => rfl) (by decide) (fun ⟨_, _, _⟩ => ⟨trivial, trivial, trivial, trivial⟩) ?_
  rintro ⟨m, c, n⟩ kk hlen hpre h
  have hl1 : (c).length ≤ 9223372036854775807 := hlen.2.1
  replace hpre : True := hpre
  show HT (cx Tryd.prog 40 (tyOf Tryd.prog) gl []) _ [(0, .p (.str (m))), (1, .p (.bs (c))), (2, .p (.v (.int .i64 (n))))] [] _
  have hl1 := longF_len (lbl ++ m)
  have hl2 := longF_len c
  have hl3 : (lbl ++ m).length = 8 + m.length := by rw [List.length_append]; rfl
  refine HT.seq ?_
  refine HT.region S_rinfo_ok ?_
  refine So.q rfl rfl (V.as (v := .p (.v (.slice none 0 0))) rfl ?_)
  refine So.e ?_
  show HT _ _ _ _ _
  refine HT.seq ?_
  refine HT.seq ?_
  refine HT.region S_rinfo_ok ?_
  refine So.q rfl rfl (V.mv (v := .p (.v (.int .i64 _))) rfl ?_)
  refine So.q rfl rfl (V.bin (a := (.v (.int .i64 _))) (b := (.v (.int .i64 (0)))) (r := .v (.bool _)) rfl rfl rfl trivial ?_)
  refine So.q rfl rfl (V.mv (v := .p (.v (.bool _))) rfl ?_)
  refine So.gd rfl rfl (lk rfl) (lk rfl) (fun h1 => ?_) (fun h1 => ?_)
  · have h1 := of_decide_eq_false h1
    refine A.v rfl (V.mv (v := .p (.v (.int .i64 _))) rfl ?_)
    refine So.gy rfl rfl (lk rfl) (lk rfl) ?_
    refine A.v rfl (V.bin (a := (.v (.int .i64 _))) (b := (.v (.int .i64 (8160)))) (r := .v (.bool _)) rfl rfl rfl trivial ?_)
    refine So.q rfl rfl (V.pkFalse (u := .p (.v (.bool _))) rfl rfl ?_)
    refine So.q rfl rfl (V.mv (v := .p (.v (.bool _))) rfl ?_)
    refine So.gd rfl rfl (lk rfl) (lk rfl) (fun h2 => ?_) (fun h2 => ?_)
    · have h2 := of_decide_eq_false h2
      refine A.v rfl (V.mv (v := .p (.str _)) rfl ?_)
      refine So.gy rfl rfl (lk rfl) (lk rfl) ?_
      refine A.v rfl (V.lenStr ty9 rfl ?_)
      refine So.gy rfl rfl (lk rfl) (lk rfl) ?_
      refine A.v rfl (V.bin (a := (.v (.int .i64 _))) (b := (.v (.int .i64 (40)))) (r := .v (.bool _)) rfl rfl rfl trivial ?_)
      refine So.q rfl rfl (V.pkFalse (u := .p (.v (.bool _))) rfl rfl ?_)
      refine So.q rfl rfl (V.mv (v := .p (.v (.bool _))) rfl ?_)
      refine So.gd rfl rfl (lk rfl) (lk rfl) (fun h3 => ?_) (fun h3 => ?_)
      · have h3 := of_decide_eq_false h3
        refine A.v rfl (V.mv (v := .p (.bs _)) rfl ?_)
        refine So.gy rfl rfl (lk rfl) (lk rfl) ?_
        refine A.v rfl (V.len ty22 (v := .p (.bs _)) rfl rfl ?_)
        refine So.gy rfl rfl (lk rfl) (lk rfl) ?_
        refine A.v rfl (V.bin (a := (.v (.int .i64 _))) (b := (.v (.int .i64 (16000)))) (r := .v (.bool _)) rfl rfl rfl trivial ?_)
        refine So.q rfl rfl (V.pkFalse (u := .p (.v (.bool _))) rfl rfl ?_)
        refine So.e ?_
        show HT _ _ _ _ _
        refine R.cond rfl rfl (fun h4 => ?_) (fun h4 => ?_)
        · have h4 := of_decide_eq_true h4
          refine HT.seq ?_
          refine HT.region S_rinfo_ok ?_
          refine So.q rfl rfl (V.as (v := .p (.v (.slice none 0 0))) rfl ?_)
          refine So.e ?_
          show HT _ _ _ _ _
          refine R.phan 6 1 5 1 (.bs []) rfl rfl rfl ⟨rfl, rfl⟩ ?_
          refine HT.ret ?_
          exact ret_ok (sg [(2, 1)]) h rfl rfl rfl ⟨trivial, trivial⟩ ⟨rfl, trivial⟩ rfl ⟨⟨⟨le_own2 (by first | rfl | omega) (by first | (show (_ : Nat) = _; first | (rw [infoF_no (by omega)]; rfl) | (rw [infoF_yes (by omega)]; unfold infoG; simp; omega)) | (show (_ : List UInt8) = _; first | (rw [infoF_no (by omega)]; done) | (rw [infoF_yes (by omega)]; done)) | rfl), rfl⟩, trivial⟩, ⟨⟨_, rfl, .inl (ob_bs (by first | rfl | ((try dsimp only); (first | (show (_ : Nat) = _; first | (rw [infoF_no (by omega)]; rfl) | (rw [infoF_yes (by omega)]; unfold infoG; simp; omega)) | (show (_ : List UInt8) = _; first | (rw [infoF_no (by omega)]; done) | (rw [infoF_yes (by omega)]; done)) | rfl))) (by first | rfl | ((try dsimp only); (first | (show (_ : Nat) = _; first | (rw [infoF_no (by omega)]; rfl) | (rw [infoF_yes (by omega)]; unfold infoG; simp; omega)) | (show (_ : List UInt8) = _; first | (rw [infoF_no (by omega)]; done) | (rw [infoF_yes (by omega)]; done)) | rfl)))), trivial⟩, trivial⟩⟩
        · have h4 := of_decide_eq_false h4
          refine HT.skip ?_
          show HT _ _ _ _ _
          refine HT.seq ?_
          refine HT.region S_rinfo_ok ?_
          refine So.q rfl rfl (V.mv (v := .p (.v (.int .i64 _))) rfl ?_)
          refine So.q rfl rfl (V.shrI (n := 8) (M := 256) rfl rfl rfl (by decide) ?_)
          refine So.q rfl rfl (V.cvN ty5 ty3 (a := (.v (.int .i64 _))) (r := (.u8 _)) rfl rfl ?_)
          refine So.q rfl rfl (V.mv (v := .p (.v (.int .i64 _))) rfl ?_)
          refine So.q rfl rfl (V.cvN ty5 ty3 (a := (.v (.int .i64 _))) (r := (.u8 _)) rfl rfl ?_)
          refine So.n (lk rfl) (A.bsl 1 ty22 ty5 rfl (lk rfl) (lk rfl) (fun _ => rfl) rfl rfl trivial ⟨trivial, trivial, trivial⟩ rfl (N := 2) rfl (c := .bs [_, _]) rfl ?_)
          refine So.q rfl rfl (V.as (v := .own 1 0 _) rfl ?_)
          refine So.e ?_
          show HT _ _ _ _ _
          refine HT.seq ?_
          refine HT.region S_rinfo_ok ?_
          refine So.q rfl rfl (V.mv (v := .own 1 0 _) rfl ?_)
          refine So.q rfl rfl (V.mv (v := .p (.str _)) rfl ?_)
          refine So.q rfl rfl (V.bin (a := (.str [71, 75, 65, 32, 49, 46, 48, 32])) (b := (.str _)) (r := .str _) rfl rfl rfl (by first | rfl | omega | (simp; done) | (simp; omega) | (simp [maxLen]; omega)) ?_)
          refine So.n (lk rfl) (A.cvS 2 ty22 ty5 ty9 rfl rfl (by first | rfl | omega | (simp; done) | (simp; omega) | (simp [maxLen]; omega)) rfl trivial ?_)
          refine So.n (lk rfl) (A.call0 [.p (.bs _)] 3 rfl rfl rfl rfl ⟨trivial, trivial⟩ trivial (lbl ++ m) ⟨le_bs (by rw [take_full]; rfl), trivial⟩ trivial (by first | omega | (simp; done) | (simp; omega)) (Φ := fun _ => True) (fun _ _ => trivial) (.inr ⟨trivial, by simp [Hp.scal, OC.scal, PV.scal, BV.scal]⟩) (v := .own 5 0 _) rfl (O' := (5, ⟨5, 1, _, true, .bs _⟩) :: _) rfl (fun h5 => ?_))
          refine So.n (lk rfl) (A.apOwn ty22 ty5 rfl rfl rfl rfl (u := .own 5 0 _) rfl rfl (l' := [UInt8.ofInt (n / 256), UInt8.ofInt n] ++ longF (lbl ++ m)) (by first | rfl | simp) (mn := 2 + (longF (lbl ++ m)).length) (by first | rfl | simp) (by first | rfl | omega | (simp; done) | (simp; omega) | (simp [maxLen]; omega)) rfl rfl rfl ?_)
          refine So.q rfl rfl (V.as (v := .own 1 0 _) rfl ?_)
          refine So.e ?_
          show HT _ _ _ _ _
          refine HT.seq ?_
          refine HT.region S_rinfo_ok ?_
          refine So.q rfl rfl (V.mv (v := .own 1 0 _) rfl ?_)
          refine So.q rfl rfl (V.mv (v := .p (.bs _)) rfl ?_)
          refine So.n (lk rfl) (A.call0 [.p (.bs _)] 6 rfl rfl rfl rfl ⟨trivial, trivial⟩ trivial _ ⟨.refl _, trivial⟩ trivial (by first | omega | (simp; done) | (simp; omega)) (Φ := fun _ => True) (fun _ _ => trivial) (.inl rfl) (v := .own 8 0 _) rfl (O' := (8, ⟨5, 1, _, true, .bs _⟩) :: _) rfl (fun h6 => ?_))
          refine So.n (lk rfl) (A.apOwn ty22 ty5 rfl rfl rfl rfl (u := .own 8 0 _) rfl rfl (l' := infoG m c n) (by rw [ap_full (by simp; omega), take_full (longF c)]; unfold infoG; rfl) (mn := 2 + (longF (lbl ++ m)).length + (longF c).length) (by first | rfl | simp) (by first | rfl | omega | (simp; done) | (simp; omega) | (simp [maxLen]; omega)) rfl rfl rfl ?_)
          refine So.q rfl rfl (V.as (v := .own 1 0 _) rfl ?_)
          refine So.e ?_
          show HT _ _ _ _ _
          refine HT.ret ?_
          exact ret_ok (sg [(2, 1)]) h rfl rfl rfl ⟨trivial, trivial⟩ ⟨rfl, trivial⟩ rfl ⟨⟨⟨le_own2 (by first | rfl | omega) (by first | (show (_ : Nat) = _; first | (rw [infoF_no (by omega)]; rfl) | (rw [infoF_yes (by omega)]; unfold infoG; simp; omega)) | (show (_ : List UInt8) = _; first | (rw [infoF_no (by omega)]; done) | (rw [infoF_yes (by omega)]; done)) | rfl), rfl⟩, trivial⟩, ⟨⟨_, rfl, .inl (ob_bs (by first | rfl | ((try dsimp only); (first | (show (_ : Nat) = _; first | (rw [infoF_no (by omega)]; rfl) | (rw [infoF_yes (by omega)]; unfold infoG; simp; omega)) | (show (_ : List UInt8) = _; first | (rw [infoF_no (by omega)]; done) | (rw [infoF_yes (by omega)]; done)) | rfl))) (by first | rfl | ((try dsimp only); (first | (show (_ : Nat) = _; first | (rw [infoF_no (by omega)]; rfl) | (rw [infoF_yes (by omega)]; unfold infoG; simp; omega)) | (show (_ : List UInt8) = _; first | (rw [infoF_no (by omega)]; done) | (rw [infoF_yes (by omega)]; done)) | rfl)))), trivial⟩, trivial⟩⟩
      · have h3 := of_decide_eq_true h3
        refine So.gn (b := true) rfl rfl rfl (lk rfl) (lk rfl) ?_
        refine So.gn (b := true) rfl rfl rfl (lk rfl) (lk rfl) ?_
        refine So.q rfl rfl (V.pkTrue (u := .p (.v (.bool true))) rfl rfl ?_)
        refine So.e ?_
        show HT _ _ _ _ _
        refine R.condT rfl ?_
        refine HT.seq ?_
        refine HT.region S_rinfo_ok ?_
        refine So.q rfl rfl (V.as (v := .p (.v (.slice none 0 0))) rfl ?_)
        refine So.e ?_
        show HT _ _ _ _ _
        refine R.phan 6 1 5 1 (.bs []) rfl rfl rfl ⟨rfl, rfl⟩ ?_
        refine HT.ret ?_
        exact ret_ok (sg [(2, 1)]) h rfl rfl rfl ⟨trivial, trivial⟩ ⟨rfl, trivial⟩ rfl ⟨⟨⟨le_own2 (by first | rfl | omega) (by first | (show (_ : Nat) = _; first | (rw [infoF_no (by omega)]; rfl) | (rw [infoF_yes (by omega)]; unfold infoG; simp; omega)) | (show (_ : List UInt8) = _; first | (rw [infoF_no (by omega)]; done) | (rw [infoF_yes (by omega)]; done)) | rfl), rfl⟩, trivial⟩, ⟨⟨_, rfl, .inl (ob_bs (by first | rfl | ((try dsimp only); (first | (show (_ : Nat) = _; first | (rw [infoF_no (by omega)]; rfl) | (rw [infoF_yes (by omega)]; unfold infoG; simp; omega)) | (show (_ : List UInt8) = _; first | (rw [infoF_no (by omega)]; done) | (rw [infoF_yes (by omega)]; done)) | rfl))) (by first | rfl | ((try dsimp only); (first | (show (_ : Nat) = _; first | (rw [infoF_no (by omega)]; rfl) | (rw [infoF_yes (by omega)]; unfold infoG; simp; omega)) | (show (_ : List UInt8) = _; first | (rw [infoF_no (by omega)]; done) | (rw [infoF_yes (by omega)]; done)) | rfl)))), trivial⟩, trivial⟩⟩
    · have h2 := of_decide_eq_true h2
      refine So.gn (b := true) rfl rfl rfl (lk rfl) (lk rfl) ?_
      refine So.gn (b := true) rfl rfl rfl (lk rfl) (lk rfl) ?_
      refine So.q rfl rfl (V.pkTrue (u := .p (.v (.bool true))) rfl rfl ?_)
      refine So.q rfl rfl (V.mv (v := .p (.v (.bool true))) rfl ?_)
      refine So.gn (b := true) rfl rfl rfl (lk rfl) (lk rfl) ?_
      refine So.gn (b := true) rfl rfl rfl (lk rfl) (lk rfl) ?_
      refine So.gn (b := true) rfl rfl rfl (lk rfl) (lk rfl) ?_
      refine So.q rfl rfl (V.pkTrue (u := .p (.v (.bool true))) rfl rfl ?_)
      refine So.e ?_
      show HT _ _ _ _ _
      refine R.condT rfl ?_
      refine HT.seq ?_
      refine HT.region S_rinfo_ok ?_
      refine So.q rfl rfl (V.as (v := .p (.v (.slice none 0 0))) rfl ?_)
      refine So.e ?_
      show HT _ _ _ _ _
      refine R.phan 6 1 5 1 (.bs []) rfl rfl rfl ⟨rfl, rfl⟩ ?_
      refine HT.ret ?_
      exact ret_ok (sg [(2, 1)]) h rfl rfl rfl ⟨trivial, trivial⟩ ⟨rfl, trivial⟩ rfl ⟨⟨⟨le_own2 (by first | rfl | omega) (by first | (show (_ : Nat) = _; first | (rw [infoF_no (by omega)]; rfl) | (rw [infoF_yes (by omega)]; unfold infoG; simp; omega)) | (show (_ : List UInt8) = _; first | (rw [infoF_no (by omega)]; done) | (rw [infoF_yes (by omega)]; done)) | rfl), rfl⟩, trivial⟩, ⟨⟨_, rfl, .inl (ob_bs (by first | rfl | ((try dsimp only); (first | (show (_ : Nat) = _; first | (rw [infoF_no (by omega)]; rfl) | (rw [infoF_yes (by omega)]; unfold infoG; simp; omega)) | (show (_ : List UInt8) = _; first | (rw [infoF_no (by omega)]; done) | (rw [infoF_yes (by omega)]; done)) | rfl))) (by first | rfl | ((try dsimp only); (first | (show (_ : Nat) = _; first | (rw [infoF_no (by omega)]; rfl) | (rw [infoF_yes (by omega)]; unfold infoG; simp; omega)) | (show (_ : List UInt8) = _; first | (rw [infoF_no (by omega)]; done) | (rw [infoF_yes (by omega)]; done)) | rfl)))), trivial⟩, trivial⟩⟩
  · have h1 := of_decide_eq_true h1
    refine So.gn (b := true) rfl rfl rfl (lk rfl) (lk rfl) ?_
    refine So.q rfl rfl (V.pkTrue (u := .p (.v (.bool true))) rfl rfl ?_)
    refine So.q rfl rfl (V.mv (v := .p (.v (.bool true))) rfl ?_)
    refine So.gn (b := true) rfl rfl rfl (lk rfl) (lk rfl) ?_
    refine So.gn (b := true) rfl rfl rfl (lk rfl) (lk rfl) ?_
    refine So.gn (b := true) rfl rfl rfl (lk rfl) (lk rfl) ?_
    refine So.q rfl rfl (V.pkTrue (u := .p (.v (.bool true))) rfl rfl ?_)
    refine So.q rfl rfl (V.mv (v := .p (.v (.bool true))) rfl ?_)
    refine So.gn (b := true) rfl rfl rfl (lk rfl) (lk rfl) ?_
    refine So.gn (b := true) rfl rfl rfl (lk rfl) (lk rfl) ?_
    refine So.gn (b := true) rfl rfl rfl (lk rfl) (lk rfl) ?_
    refine So.q rfl rfl (V.pkTrue (u := .p (.v (.bool true))) rfl rfl ?_)
    refine So.e ?_
    show HT _ _ _ _ _
    refine R.condT rfl ?_
    refine HT.seq ?_
    refine HT.region S_rinfo_ok ?_
    refine So.q rfl rfl (V.as (v := .p (.v (.slice none 0 0))) rfl ?_)
    refine So.e ?_
    show HT _ _ _ _ _
    refine R.phan 6 1 5 1 (.bs []) rfl rfl rfl ⟨rfl, rfl⟩ ?_
    refine HT.ret ?_
    exact ret_ok (sg [(2, 1)]) h rfl rfl rfl ⟨trivial, trivial⟩ ⟨rfl, trivial⟩ rfl ⟨⟨⟨le_own2 (by first | rfl | omega) (by first | (show (_ : Nat) = _; first | (rw [infoF_no (by omega)]; rfl) | (rw [infoF_yes (by omega)]; unfold infoG; simp; omega)) | (show (_ : List UInt8) = _; first | (rw [infoF_no (by omega)]; done) | (rw [infoF_yes (by omega)]; done)) | rfl), rfl⟩, trivial⟩, ⟨⟨_, rfl, .inl (ob_bs (by first | rfl | ((try dsimp only); (first | (show (_ : Nat) = _; first | (rw [infoF_no (by omega)]; rfl) | (rw [infoF_yes (by omega)]; unfold infoG; simp; omega)) | (show (_ : List UInt8) = _; first | (rw [infoF_no (by omega)]; done) | (rw [infoF_yes (by omega)]; done)) | rfl))) (by first | rfl | ((try dsimp only); (first | (show (_ : Nat) = _; first | (rw [infoF_no (by omega)]; rfl) | (rw [infoF_yes (by omega)]; unfold infoG; simp; omega)) | (show (_ : List UInt8) = _; first | (rw [infoF_no (by omega)]; done) | (rw [infoF_yes (by omega)]; done)) | rfl)))), trivial⟩, trivial⟩⟩

end Go.Vh

set_option linter.unusedVariables false
set_option linter.unusedSimpArgs false
namespace Go.Vh
open Go Go.Vc Go.Proofs Go.Vw

/-! ### sodality/sodalityref03.Mac -/
def rmacSp : Sp := ⟨[], mkE (α := (List UInt8) × (List UInt8)) (fun (k, t) => [.p (.bs (k)), .p (.bs (t))]) (fun (k, t) => []) (fun (k, t) => k.length ≤ 1000000000 ∧ t.length ≤ 1000000000) (fun (k, t) => [.own 2 (0) (32)]) (fun (k, t) => [(2, ⟨5, 1, 32, true, .bs (mac k t)⟩)])⟩
def S_rmac : FuncId → Option Sp := fun f => if f = 31 then some rsumSp else none
theorem S_rmac_ok : ∀ f s, S_rmac f = some s → FOK Tryd.prog gl f s := fun f s h => by
  unfold S_rmac at h
  split at h
  · rename_i e; cases h; subst e; exact rsum_ok
  cases h
theorem S_rmac_det : ∀ f s, S_rmac f = some s → SpDet s.sp := fun f s h => by
  unfold S_rmac at h
  split at h
  · cases h; exact mkE_det _ _ _ _ _
  cases h
set_option maxHeartbeats 1000000 in
set_option maxRecDepth 20000 in
theorem rmac_ok : FOK Tryd.prog gl 41 rmacSp := by
  refine FOK.ofE (tyOf_ok Tryd.prog) (slots := [4]) (nt := 47) Tryd.func41 rfl rfl rfl rfl (by decide) 2 (fun ⟨_, _⟩ => rfl) (by decide) (fun ⟨_, _⟩ => ⟨trivial, trivial, trivial⟩) ?_
  rintro ⟨k, t⟩ kk hlen hpre h
  have hl0 : (k).length ≤ 9223372036854775807 := hlen.1
  have hl1 : (t).length ≤ 9223372036854775807 := hlen.2.1
  replace hpre : k.length ≤ 1000000000 ∧ t.length ≤ 1000000000 := hpre
  show HT (cx Tryd.prog 47 (tyOf Tryd.prog) gl []) _ [(0, .p (.bs (k))), (1, .p (.bs (t)))] [] _
  have hk0 := key0_le k
  have hp1 := padF_len (key0 k) 54
  have hp2 := padF_len (key0 k) 92
  have hs0 := sha_len (padF (key0 k) 54 ++ t)
  refine HT.seq ?_
  refine HT.region S_rmac_ok ?_
  refine So.q rfl rfl (V.as (v := .p (.v (.slice none 0 0))) rfl ?_)
  refine So.e ?_
  show HT _ _ _ _ _
  refine HT.seq ?_
  refine HT.region S_rmac_ok ?_
  refine So.n (lk rfl) (A.bsl 1 ty22 ty5 rfl (lk rfl) (lk rfl) (fun _ => rfl) rfl rfl trivial trivial rfl (N := 0) rfl (c := .bs []) rfl ?_)
  refine So.q rfl rfl (V.mv (v := .p (.bs _)) rfl ?_)
  refine So.n (lk rfl) (A.apOwn ty22 ty5 rfl rfl rfl rfl (u := .p (.bs _)) rfl rfl (l' := k) (by simp) (mn := k.length) (by simp) (by first | rfl | omega | (simp; done) | (simp; omega)) rfl rfl rfl ?_)
  refine So.q rfl rfl (V.as (v := .own 1 0 _) rfl ?_)
  refine So.e ?_
  show HT _ _ _ _ _
  refine HT.frzS 1 rfl rfl rfl ?_
  show HT _ _ _ _ _
  refine R.cut (True) [(5, .p (.bs (key0 k)))] [] [1, 4] [] (fr0 := [(1, .p (.bs _)), (4, .p (.v (.slice none 0 0)))]) (O0 := []) rfl rfl ?_ (fun hphi => ?_)
  · refine HT.seq ?_
    refine R.tell [(5, .p (.bs (k)))] [] [1, 4] [] (fr0 := [(1, .p (.bs _)), (4, .p (.v (.slice none 0 0)))]) (O0 := []) rfl rfl ⟨⟨⟨le_bs (by first | rfl | exact take_full _), trivial⟩, ⟨.refl _, trivial⟩, ⟨.refl _, trivial⟩, trivial⟩, trivial⟩ ?_
    show HT _ _ _ _ _
    refine HT.region S_rmac_ok ?_
    refine So.q rfl rfl (V.mv (v := .p (.bs _)) rfl ?_)
    refine So.q rfl rfl (V.len ty22 (v := .p (.bs _)) rfl rfl ?_)
    refine So.q rfl rfl (V.bin (a := (.v (.int .i64 _))) (b := (.v (.int .i64 (64)))) (r := .v (.bool _)) rfl rfl rfl trivial ?_)
    refine So.e ?_
    show HT _ _ _ _ _
    refine R.cond rfl rfl (fun h1 => ?_) (fun h1 => ?_)
    · have h1 := of_decide_eq_true h1
      refine HT.region S_rmac_ok ?_
      refine So.q rfl rfl (V.mv (v := .p (.bs _)) rfl ?_)
      refine So.n (lk rfl) (A.call0F S_rmac_ok [.p (.bs _)] 1 rfl rfl rfl rfl ⟨trivial, trivial⟩ trivial _ ⟨.refl _, trivial⟩ trivial (by first | omega | (simp; done) | (simp; omega)) (Φ := fun _ => True) (fun _ _ => trivial) (.inl rfl) (t := 3) (off := 0) rfl (O' := (3, ⟨5, 1, _, true, .bs _⟩) :: _) rfl rfl rfl (y := .p (.bs _)) rfl rfl (fun h2 => ?_))
      refine So.q rfl rfl (V.as (v := .p (.bs _)) rfl ?_)
      refine So.e ?_
      exact ⟨by first | trivial | (unfold key0; rw [if_pos (by omega)]; rfl) | (unfold key0; rw [if_pos (by omega), ap_sha k]; done) | (unfold key0; rw [if_neg (by omega)]; done) | (unfold key0; rw [if_neg (by omega)]; simp; done), ⟨⟨⟨le_bs (by first | trivial | (unfold key0; rw [if_pos (by omega)]; rfl) | (unfold key0; rw [if_pos (by omega), ap_sha k]; done) | (unfold key0; rw [if_neg (by omega)]; done) | (unfold key0; rw [if_neg (by omega)]; simp; done)), trivial⟩, ⟨.refl _, trivial⟩, ⟨.refl _, trivial⟩, trivial⟩, trivial⟩⟩
    · have h1 := of_decide_eq_false h1
      refine HT.skip ?_
      exact ⟨by first | trivial | (unfold key0; rw [if_pos (by omega)]; rfl) | (unfold key0; rw [if_pos (by omega), ap_sha k]; done) | (unfold key0; rw [if_neg (by omega)]; done) | (unfold key0; rw [if_neg (by omega)]; simp; done), ⟨⟨⟨le_bs (by first | trivial | (unfold key0; rw [if_pos (by omega)]; rfl) | (unfold key0; rw [if_pos (by omega), ap_sha k]; done) | (unfold key0; rw [if_neg (by omega)]; done) | (unfold key0; rw [if_neg (by omega)]; simp; done)), trivial⟩, ⟨.refl _, trivial⟩, ⟨.refl _, trivial⟩, trivial⟩, trivial⟩⟩
  · refine HT.seq ?_
    refine HT.region S_rmac_ok ?_
    refine So.q rfl rfl (V.as (v := .p (.v (.slice none 0 0))) rfl ?_)
    refine So.e ?_
    show HT _ _ _ _ _
    refine HT.seq ?_
    refine HT.region S_rmac_ok ?_
    refine So.q rfl rfl (V.as (v := .p (.v (.slice none 0 0))) rfl ?_)
    refine So.e ?_
    show HT _ _ _ _ _
    refine HT.seq ?_
    refine HT.seq ?_
    refine HT.region S_rmac_ok ?_
    refine So.q rfl rfl (V.as (v := .p (.v (.int .i64 (0)))) rfl ?_)
    refine So.e ?_
    show HT _ _ _ _ _
    refine HT.block ?_
    refine R.phan 6 6 5 1 (.bs []) rfl rfl rfl ⟨rfl, rfl⟩ ?_
    refine R.phan 7 7 5 1 (.bs []) rfl rfl rfl ⟨rfl, rfl⟩ ?_
    refine R.loop (σ := Nat) (fun s => [(6, .own 6 (0) (s)), (7, .own 7 (0) (s)), (8, .p (.v (.int .i64 ((s : Int)))))]) (fun s => [(6, ⟨5, 1, s, true, .bs (padN (key0 k) 54 s)⟩), (7, ⟨5, 1, s, true, .bs (padN (key0 k) 92 s)⟩)]) [1, 4, 5] [] (fun s => s ≤ 64) (fun s => 64 - s) (0) (fr0 := [(1, .p (.bs _)), (4, .p (.v (.slice none 0 0))), (5, .p (.bs _))]) (O0 := []) rfl rfl (by first | rfl | omega | (simp; done) | (simp; omega)) ⟨⟨⟨le_own2 (by first | rfl | omega) (by first | rfl | omega), rfl⟩, ⟨le_own2 (by first | rfl | omega) (by first | rfl | omega), rfl⟩, ⟨le_int (by first | rfl | omega), trivial⟩, ⟨.refl _, trivial⟩, ⟨.refl _, trivial⟩, ⟨.refl _, trivial⟩, trivial⟩, ⟨⟨_, rfl, .inl (ob_bs (by first | rfl | ((try dsimp only); first | rfl | omega)) (by first | rfl | ((try dsimp only); first | rfl | omega))), trivial⟩, ⟨_, rfl, .inl (ob_bs (by first | rfl | ((try dsimp only); first | rfl | omega)) (by first | rfl | ((try dsimp only); first | rfl | omega))), trivial⟩, trivial⟩⟩ (fun s hP0 => ?_)
    refine HT.seq ?_
    refine HT.seq ?_
    refine HT.region S_rmac_ok ?_
    refine So.q rfl rfl (V.mv (v := .p (.v (.int .i64 ((_ : Nat) : Int)))) rfl ?_)
    refine So.q rfl rfl (V.bin (a := (.v (.int .i64 ((_ : Nat) : Int)))) (b := (.v (.int .i64 (64)))) (r := .v (.bool _)) rfl rfl rfl trivial ?_)
    refine So.e ?_
    show HT _ _ _ _ _
    refine R.cond rfl rfl (fun h3 => ?_) (fun h3 => ?_)
    · have h3 := of_decide_eq_true h3
      refine HT.skip ?_
      show HT _ _ _ _ _
      refine HT.seq ?_
      refine HT.block ?_
      refine HT.seq ?_
      refine HT.region S_rmac_ok ?_
      refine So.q rfl rfl (V.as (v := .p (.u8 0)) rfl ?_)
      refine So.e ?_
      show HT _ _ _ _ _
      refine R.cut (True) [(9, .p (.u8 ((key0 k).getD s 0)))] [] [1, 4, 5, 6, 7, 8, 18, 19] [6, 7] (fr0 := [(1, .p (.bs _)), (4, .p (.v (.slice none 0 0))), (5, .p (.bs _)), (6, .own 6 0 _), (7, .own 7 0 _), (8, .p (.v (.int .i64 ((_ : Nat) : Int)))), (18, .p (.v (.int .i64 ((_ : Nat) : Int)))), (19, .p (.v (.bool true)))]) (O0 := [(6, ⟨_, _, _, _, .bs _⟩), (7, ⟨_, _, _, _, .bs _⟩)]) rfl rfl ?_ (fun hphi => ?_)
      · refine HT.seq ?_
        refine HT.region S_rmac_ok ?_
        refine So.q rfl rfl (V.mv (v := .p (.v (.int .i64 ((_ : Nat) : Int)))) rfl ?_)
        refine So.q rfl rfl (V.mv (v := .p (.bs _)) rfl ?_)
        refine So.q rfl rfl (V.len ty22 (v := .p (.bs _)) rfl rfl ?_)
        refine So.q rfl rfl (V.bin (a := (.v (.int .i64 ((_ : Nat) : Int)))) (b := (.v (.int .i64 _))) (r := .v (.bool _)) rfl rfl rfl trivial ?_)
        refine So.e ?_
        show HT _ _ _ _ _
        refine R.cond rfl rfl (fun h4 => ?_) (fun h4 => ?_)
        · have h4 := of_decide_eq_true h4
          refine HT.region S_rmac_ok ?_
          refine So.q rfl rfl (V.mv (v := .p (.bs _)) rfl ?_)
          refine So.q rfl rfl (V.mv (v := .p (.v (.int .i64 ((_ : Nat) : Int)))) rfl ?_)
          refine So.q rfl rfl (V.ixBs (mi := s) ty22 ty5 rfl rfl rfl (by omega) (by omega) ?_)
          refine So.q rfl rfl (V.ldRp ty5 rfl rfl (lk rfl) (v := (.u8 _)) rfl ?_)
          refine So.q rfl rfl (V.as (v := .p (.u8 _)) rfl ?_)
          refine So.e ?_
          exact ⟨by first | rfl | trivial | (rw [List.getD_eq_getElem?_getD, List.getElem?_eq_none (by omega)]; rfl), ⟨⟨⟨le_u8 (by first | rfl | trivial | (rw [List.getD_eq_getElem?_getD, List.getElem?_eq_none (by omega)]; rfl)), trivial⟩, ⟨.refl _, trivial⟩, ⟨.refl _, trivial⟩, ⟨.refl _, trivial⟩, ⟨.refl _, rfl⟩, ⟨.refl _, rfl⟩, ⟨.refl _, trivial⟩, ⟨.refl _, trivial⟩, ⟨.refl _, trivial⟩, trivial⟩, ⟨⟨_, rfl, .inl rfl, trivial⟩, ⟨_, rfl, .inl rfl, trivial⟩, trivial⟩⟩⟩
        · have h4 := of_decide_eq_false h4
          refine HT.skip ?_
          exact ⟨by first | rfl | trivial | (rw [List.getD_eq_getElem?_getD, List.getElem?_eq_none (by omega)]; rfl), ⟨⟨⟨le_u8 (by first | rfl | trivial | (rw [List.getD_eq_getElem?_getD, List.getElem?_eq_none (by omega)]; rfl)), trivial⟩, ⟨.refl _, trivial⟩, ⟨.refl _, trivial⟩, ⟨.refl _, trivial⟩, ⟨.refl _, rfl⟩, ⟨.refl _, rfl⟩, ⟨.refl _, trivial⟩, ⟨.refl _, trivial⟩, ⟨.refl _, trivial⟩, trivial⟩, ⟨⟨_, rfl, .inl rfl, trivial⟩, ⟨_, rfl, .inl rfl, trivial⟩, trivial⟩⟩⟩
      · refine HT.seq ?_
        refine HT.region S_rmac_ok ?_
        refine So.q rfl rfl (V.mv (v := .own 6 0 _) rfl ?_)
        refine So.q rfl rfl (V.mv (v := .p (.u8 _)) rfl ?_)
        refine So.q rfl rfl (V.bin (a := (.u8 _)) (b := (.u8 54)) (r := .u8 _) rfl rfl rfl trivial ?_)
        refine So.n (lk rfl) (A.bsl 8 ty22 ty5 rfl (lk rfl) (lk rfl) (fun _ => rfl) rfl rfl trivial ⟨trivial, trivial⟩ rfl (N := 1) rfl (c := .bs [_]) rfl ?_)
        refine So.n (lk rfl) (A.apOwn ty22 ty5 rfl rfl rfl rfl (u := .own 8 0 _) rfl rfl (l' := padN (key0 k) 54 (s + 1)) (by rw [ap_full (by rw [padN_len]; exact Nat.le_refl _)]; exact padN_succ (by first | rfl | omega)) (mn := s + 1) (by rfl) (by first | rfl | omega | (simp; done) | (simp; omega)) rfl rfl rfl ?_)
        refine So.q rfl rfl (V.as (v := .own 6 0 _) rfl ?_)
        refine So.e ?_
        show HT _ _ _ _ _
        refine HT.region S_rmac_ok ?_
        refine So.q rfl rfl (V.mv (v := .own 7 0 _) rfl ?_)
        refine So.q rfl rfl (V.mv (v := .p (.u8 _)) rfl ?_)
        refine So.q rfl rfl (V.bin (a := (.u8 _)) (b := (.u8 92)) (r := .u8 _) rfl rfl rfl trivial ?_)
        refine So.n (lk rfl) (A.bsl 9 ty22 ty5 rfl (lk rfl) (lk rfl) (fun _ => rfl) rfl rfl trivial ⟨trivial, trivial⟩ rfl (N := 1) rfl (c := .bs [_]) rfl ?_)
        refine So.n (lk rfl) (A.apOwn ty22 ty5 rfl rfl rfl rfl (u := .own 9 0 _) rfl rfl (l' := padN (key0 k) 92 (s + 1)) (by rw [ap_full (by rw [padN_len]; exact Nat.le_refl _)]; exact padN_succ (by first | rfl | omega)) (mn := s + 1) (by rfl) (by first | rfl | omega | (simp; done) | (simp; omega)) rfl rfl rfl ?_)
        refine So.q rfl rfl (V.as (v := .own 7 0 _) rfl ?_)
        refine So.e ?_
        show HT _ _ _ _ _
        refine HT.region S_rmac_ok ?_
        refine So.q rfl rfl (V.mv (v := .p (.v (.int .i64 ((_ : Nat) : Int)))) rfl ?_)
        refine So.q rfl rfl (V.addI rfl rfl (by omega) ?_)
        refine So.q rfl rfl (V.as (v := .p (.v (.int .i64 _))) rfl ?_)
        refine So.e ?_
        refine ⟨s + 1, by first | rfl | omega | (simp; done) | (simp; omega), by omega, ⟨⟨⟨le_own2 (by first | rfl | omega) (by first | rfl | omega | (simp; done) | (simp; omega)), rfl⟩, ⟨le_own2 (by first | rfl | omega) (by first | rfl | omega | (simp; done) | (simp; omega)), rfl⟩, ⟨le_int (by first | rfl | omega | (simp; done) | (simp; omega)), trivial⟩, ⟨.refl _, trivial⟩, ⟨.refl _, trivial⟩, ⟨.refl _, trivial⟩, trivial⟩, ⟨⟨_, rfl, .inl (ob_bs (by first | rfl | ((try dsimp only); first | rfl | omega | (simp; done) | (simp; omega))) (by first | rfl | ((try dsimp only); first | rfl | omega | (simp; done) | (simp; omega)))), trivial⟩, ⟨_, rfl, .inl (ob_bs (by first | rfl | ((try dsimp only); first | rfl | omega | (simp; done) | (simp; omega))) (by first | rfl | ((try dsimp only); first | rfl | omega | (simp; done) | (simp; omega)))), trivial⟩, trivial⟩⟩⟩
    · have h3 := of_decide_eq_false h3
      refine HT.exit ?_
      show HT _ _ _ _ _
      refine HT.seq ?_
      replace hP0 : s = 64 := (by omega)
      subst hP0
      refine R.tell [] [(6, ⟨5, 1, 64, true, .bs (padF (key0 k) 54)⟩), (7, ⟨5, 1, 64, true, .bs (padF (key0 k) 92)⟩)] [1, 4, 6, 7] [] (fr0 := [(1, .p (.bs _)), (4, .p (.v (.slice none 0 0))), (6, .own 6 0 _), (7, .own 7 0 _)]) (O0 := []) rfl rfl ⟨⟨⟨.refl _, trivial⟩, ⟨.refl _, trivial⟩, ⟨.refl _, rfl⟩, ⟨.refl _, rfl⟩, trivial⟩, ⟨⟨_, rfl, .inl (ob_bs (by rfl) (by exact padN_64 _ _)), trivial⟩, ⟨_, rfl, .inl (ob_bs (by rfl) (by exact padN_64 _ _)), trivial⟩, trivial⟩⟩ ?_
      show HT _ _ _ _ _
      refine HT.region S_rmac_ok ?_
      refine So.q rfl rfl (V.mv (v := .own 7 0 _) rfl ?_)
      refine So.q rfl rfl (V.mv (v := .own 6 0 _) rfl ?_)
      refine So.q rfl rfl (V.mv (v := .p (.bs _)) rfl ?_)
      refine So.n (lk rfl) (A.apOwn ty22 ty5 rfl rfl rfl rfl (u := .p (.bs _)) rfl rfl (l' := padF (key0 k) 54 ++ t) (by rw [ap_full (by rw [padF_len]; exact Nat.le_refl _)]) (mn := 64 + t.length) (by rfl) (by first | rfl | omega | (simp; done) | (simp; omega)) rfl rfl rfl ?_)
      refine So.n (lk rfl) (A.call0 [.p (.bs _)] 8 rfl rfl rfl rfl ⟨trivial, trivial⟩ trivial (padF (key0 k) 54 ++ t) ⟨le_bs (by rw [List.drop_zero, List.take_of_length_le (by rw [List.length_append]; omega)]), trivial⟩ trivial (by first | omega | (simp; done) | (simp; omega)) (Φ := fun _ => True) (fun _ _ => trivial) (.inr ⟨trivial, by simp [Hp.scal, OC.scal, PV.scal, BV.scal]⟩) (v := .own 10 0 _) rfl (O' := (10, ⟨5, 1, _, true, .bs _⟩) :: _) rfl (fun h5 => ?_))
      refine So.n (lk rfl) (A.apOwn ty22 ty5 rfl rfl rfl rfl (u := .own 10 0 _) rfl rfl (l' := padF (key0 k) 92 ++ sha (padF (key0 k) 54 ++ t)) (by rw [ap_full (by rw [padF_len]; exact Nat.le_refl _)]; first | rfl | (rw [List.drop_zero, List.take_of_length_le (by rw [sha_len]; omega)])) (mn := 96) (by rfl) (by first | rfl | omega | (simp; done) | (simp; omega)) rfl rfl rfl ?_)
      refine So.n (lk rfl) (A.call0 [.p (.bs _)] 11 rfl rfl rfl rfl ⟨trivial, trivial⟩ trivial (padF (key0 k) 92 ++ sha (padF (key0 k) 54 ++ t)) ⟨le_bs (by rw [List.drop_zero, List.take_of_length_le (by rw [List.length_append]; omega)]), trivial⟩ trivial (by first | omega | (simp; done) | (simp; omega)) (Φ := fun _ => True) (fun _ _ => trivial) (.inr ⟨trivial, by simp [Hp.scal, OC.scal, PV.scal, BV.scal]⟩) (v := .own 13 0 _) rfl (O' := (13, ⟨5, 1, _, true, .bs _⟩) :: _) rfl (fun h6 => ?_))
      refine So.q rfl rfl (V.as (v := .own 13 0 _) rfl ?_)
      refine So.e ?_
      show HT _ _ _ _ _
      refine HT.ret ?_
      exact ret_ok (sg [(2, 13)]) h rfl rfl rfl ⟨trivial, trivial⟩ ⟨rfl, trivial⟩ rfl ⟨⟨⟨le_own2 (by first | rfl | omega) (by first | rfl | (show (_ : List UInt8) = _; rw [mac_def])), rfl⟩, trivial⟩, ⟨⟨_, rfl, .inl (ob_bs (by first | rfl | ((try dsimp only); (first | rfl | (show (_ : List UInt8) = _; rw [mac_def])))) (by first | rfl | ((try dsimp only); (first | rfl | (show (_ : List UInt8) = _; rw [mac_def]))))), trivial⟩, trivial⟩⟩

/-! ### sodality/sodalityref03.Extract -/
def rextractSp : Sp := ⟨[], mkE (α := (List UInt8) × (List UInt8)) (fun (k, t) => [.p (.bs (k)), .p (.bs (t))]) (fun (k, t) => []) (fun (k, t) => k.length ≤ 1000000000 ∧ t.length ≤ 1000000000) (fun (k, t) => [.own 2 (0) (32)]) (fun (k, t) => [(2, ⟨5, 1, 32, true, .bs (mac k t)⟩)])⟩
def S_rextract : FuncId → Option Sp := fun f => if f = 41 then some rmacSp else none
theorem S_rextract_ok : ∀ f s, S_rextract f = some s → FOK Tryd.prog gl f s := fun f s h => by
  unfold S_rextract at h
  split at h
  · rename_i e; cases h; subst e; exact rmac_ok
  cases h
theorem S_rextract_det : ∀ f s, S_rextract f = some s → SpDet s.sp := fun f s h => by
  unfold S_rextract at h
  split at h
  · cases h; exact mkE_det _ _ _ _ _
  cases h
set_option maxHeartbeats 1000000 in
set_option maxRecDepth 1000 in
theorem rextract_ok : FOK Tryd.prog gl 26 rextractSp := by
  refine FOK.ofE (tyOf_ok Tryd.prog) (slots := [4]) (nt := 8) Tryd.func26 rfl rfl rfl rfl (by decide) 2 (fun ⟨_, _⟩ => rfl) (by decide) (fun ⟨_, _⟩ => ⟨trivial, trivial, trivial⟩) ?_
  rintro ⟨k, t⟩ kk hlen hpre h
  have hl0 : (k).length ≤ 9223372036854775807 := hlen.1
  have hl1 : (t).length ≤ 9223372036854775807 := hlen.2.1
  replace hpre : k.length ≤ 1000000000 ∧ t.length ≤ 1000000000 := hpre
  show HT (cx Tryd.prog 8 (tyOf Tryd.prog) gl []) _ [(0, .p (.bs (k))), (1, .p (.bs (t)))] [] _
  refine HT.seq ?_
  refine HT.region S_rextract_ok ?_
  refine So.q rfl rfl (V.as (v := .p (.v (.slice none 0 0))) rfl ?_)
  refine So.e ?_
  show HT _ _ _ _ _
  refine HT.seq ?_
  refine HT.region S_rextract_ok ?_
  refine So.q rfl rfl (V.mv (v := .p (.bs _)) rfl ?_)
  refine So.q rfl rfl (V.mv (v := .p (.bs _)) rfl ?_)
  refine So.n (lk rfl) (A.call0 [.p (.bs _), .p (.bs _)] 1 rfl rfl rfl rfl ⟨trivial, trivial, trivial⟩ trivial (_, _) ⟨.refl _, .refl _, trivial⟩ trivial (by first | omega | (simp only [List.drop_zero, List.take_length]; omega) | (simp; done) | (simp; omega)) (Φ := fun _ => True) (fun _ _ => trivial) (.inl rfl) (v := .own 3 0 _) rfl (O' := (3, ⟨5, 1, _, true, .bs _⟩) :: _) rfl (fun h1 => ?_))
  refine So.q rfl rfl (V.as (v := .own 3 0 _) rfl ?_)
  refine So.e ?_
  show HT _ _ _ _ _
  refine HT.ret ?_
  exact ret_ok (sg [(2, 3)]) h rfl rfl rfl ⟨trivial, trivial⟩ ⟨rfl, trivial⟩ rfl ⟨⟨⟨le_own2 (by first | rfl | omega) (by first | rfl | omega | (simp; done) | (simp; omega)), rfl⟩, trivial⟩, ⟨⟨_, rfl, .inl (ob_bs (by first | rfl | ((try dsimp only); (first | rfl | omega | (simp; done) | (simp; omega)))) (by first | rfl | ((try dsimp only); (first | rfl | omega | (simp; done) | (simp; omega))))), trivial⟩, trivial⟩⟩

end Go.Vh

set_option linter.unusedVariables false
set_option linter.unusedSimpArgs false
namespace Go.Vh
open Go Go.Vc Go.Proofs Go.Vw

/-! ### sodality/sodalityref03.Expand -/
def rexpandSp : Sp := ⟨[], mkE (α := (List UInt8) × (List UInt8) × Int) (fun (k, i, n) => [.p (.bs (k)), .p (.bs (i)), .p (.v (.int .i64 (n)))]) (fun (k, i, n) => []) (fun (k, i, n) => k.length ≤ 1000000000 ∧ i.length ≤ 900000000) (fun (k, i, n) => [.own 2 (0) ((expandN k i n).length)]) (fun (k, i, n) => [(2, ⟨5, 1, (expandN k i n).length, true, .bs (expandN k i n)⟩)])⟩
def S_rexpand : FuncId → Option Sp := fun f => if f = 41 then some rmacSp else none
theorem S_rexpand_ok : ∀ f s, S_rexpand f = some s → FOK Tryd.prog gl f s := fun f s h => by
  unfold S_rexpand at h
  split at h
  · rename_i e; cases h; subst e; exact rmac_ok
  cases h
theorem S_rexpand_det : ∀ f s, S_rexpand f = some s → SpDet s.sp := fun f s h => by
  unfold S_rexpand at h
  split at h
  · cases h; exact mkE_det _ _ _ _ _
  cases h
set_option maxHeartbeats 1000000 in
set_option maxRecDepth 20000 in
theorem rexpand_ok : FOK Tryd.prog gl 40 rexpandSp := by
  refine FOK.ofE (tyOf_ok Tryd.prog) (slots := [6]) (nt := 41) Tryd.func40 rfl rfl rfl rfl (by decide) 3 (fun ⟨_, _, _⟩ => rfl) (by decide) (fun ⟨_, _, _⟩ => ⟨trivial, trivial, trivial, trivial⟩) ?_
  rintro ⟨k, i, n⟩ kk hlen hpre h
  have hl0 : (k).length ≤ 9223372036854775807 := hlen.1
  have hl1 : (i).length ≤ 9223372036854775807 := hlen.2.1
  replace hpre : k.length ≤ 1000000000 ∧ i.length ≤ 900000000 := hpre
  show HT (cx Tryd.prog 41 (tyOf Tryd.prog) gl []) _ [(0, .p (.bs (k))), (1, .p (.bs (i))), (2, .p (.v (.int .i64 (n))))] [] _
  refine HT.seq ?_
  refine HT.region S_rexpand_ok ?_
  refine So.q rfl rfl (V.as (v := .p (.v (.slice none 0 0))) rfl ?_)
  refine So.e ?_
  show HT _ _ _ _ _
  refine HT.seq ?_
  refine HT.seq ?_
  refine HT.region S_rexpand_ok ?_
  refine So.q rfl rfl (V.mv (v := .p (.v (.int .i64 _))) rfl ?_)
  refine So.q rfl rfl (V.bin (a := (.v (.int .i64 _))) (b := (.v (.int .i64 (0)))) (r := .v (.bool _)) rfl rfl rfl trivial ?_)
  refine So.q rfl rfl (V.mv (v := .p (.v (.bool _))) rfl ?_)
  refine So.gd rfl rfl (lk rfl) (lk rfl) (fun h1 => ?_) (fun h1 => ?_)
  · have h1 := of_decide_eq_false h1
    refine A.v rfl (V.mv (v := .p (.v (.int .i64 _))) rfl ?_)
    refine So.gy rfl rfl (lk rfl) (lk rfl) ?_
    refine A.v rfl (V.bin (a := (.v (.int .i64 _))) (b := (.v (.int .i64 (8160)))) (r := .v (.bool _)) rfl rfl rfl trivial ?_)
    refine So.q rfl rfl (V.pkFalse (u := .p (.v (.bool _))) rfl rfl ?_)
    refine So.e ?_
    show HT _ _ _ _ _
    refine R.cond rfl rfl (fun h2 => ?_) (fun h2 => ?_)
    · have h2 := of_decide_eq_true h2
      refine HT.seq ?_
      refine HT.region S_rexpand_ok ?_
      refine So.q rfl rfl (V.as (v := .p (.v (.slice none 0 0))) rfl ?_)
      refine So.e ?_
      show HT _ _ _ _ _
      refine R.phan 6 1 5 1 (.bs []) rfl rfl rfl ⟨rfl, rfl⟩ ?_
      refine HT.ret ?_
      exact ret_ok (sg [(2, 1)]) h rfl rfl rfl ⟨trivial, trivial⟩ ⟨rfl, trivial⟩ rfl ⟨⟨⟨le_own2 (by first | rfl | omega) (by first | (show (_ : Nat) = _; first | (rw [expandN_no (by omega)]; rfl) | rfl) | (show (_ : List UInt8) = _; first | (rw [expandN_no (by omega)]; done) | rfl) | rfl), rfl⟩, trivial⟩, ⟨⟨_, rfl, .inl (ob_bs (by first | rfl | ((try dsimp only); (first | (show (_ : Nat) = _; first | (rw [expandN_no (by omega)]; rfl) | rfl) | (show (_ : List UInt8) = _; first | (rw [expandN_no (by omega)]; done) | rfl) | rfl))) (by first | rfl | ((try dsimp only); (first | (show (_ : Nat) = _; first | (rw [expandN_no (by omega)]; rfl) | rfl) | (show (_ : List UInt8) = _; first | (rw [expandN_no (by omega)]; done) | rfl) | rfl)))), trivial⟩, trivial⟩⟩
    · have h2 := of_decide_eq_false h2
      refine HT.skip ?_
      show HT _ _ _ _ _
      refine HT.seq ?_
      refine HT.region S_rexpand_ok ?_
      refine So.q rfl rfl (V.as (v := .p (.v (.slice none 0 0))) rfl ?_)
      refine So.e ?_
      show HT _ _ _ _ _
      refine HT.seq ?_
      refine HT.region S_rexpand_ok ?_
      refine So.q rfl rfl (V.as (v := .p (.v (.slice none 0 0))) rfl ?_)
      refine So.e ?_
      show HT _ _ _ _ _
      refine HT.seq ?_
      refine HT.seq ?_
      refine HT.region S_rexpand_ok ?_
      refine So.q rfl rfl (V.as (v := .p (.v (.int .i64 (1)))) rfl ?_)
      refine So.e ?_
      show HT _ _ _ _ _
      refine HT.block ?_
      refine R.phan 7 7 5 1 (.bs []) rfl rfl rfl ⟨rfl, rfl⟩ ?_
      refine R.loop (σ := Nat) (fun s => [(7, .own 7 (0) (32 * s)), (8, .p (.bs (tN k i s))), (9, .p (.v (.int .i64 ((s : Int) + 1))))]) (fun s => [(7, ⟨5, 1, 32 * s, true, .bs (okm k i s)⟩)]) [0, 1, 2, 6] [] (fun s => 32 * (s : Int) < n + 32) (fun s => n.toNat + 32 - 32 * s) (0) (fr0 := [(0, .p (.bs _)), (1, .p (.bs _)), (2, .p (.v (.int .i64 _))), (6, .p (.v (.slice none 0 0)))]) (O0 := []) rfl rfl (by first | rfl | omega | (simp; done) | (simp; omega)) ⟨⟨⟨le_own2 (by first | rfl | omega) (by first | rfl | omega), rfl⟩, ⟨le_nil (by first | rfl | omega), trivial⟩, ⟨le_int (by first | rfl | omega), trivial⟩, ⟨.refl _, trivial⟩, ⟨.refl _, trivial⟩, ⟨.refl _, trivial⟩, ⟨.refl _, trivial⟩, trivial⟩, ⟨⟨_, rfl, .inl (ob_bs (by first | rfl | ((try dsimp only); first | rfl | omega)) (by first | rfl | ((try dsimp only); first | rfl | omega))), trivial⟩, trivial⟩⟩ (fun s hP0 => ?_)
      refine HT.seq ?_
      refine HT.seq ?_
      refine HT.region S_rexpand_ok ?_
      refine So.q rfl rfl (V.mv (v := .own 7 0 _) rfl ?_)
      refine So.q rfl rfl (V.len ty22 (v := .own 7 0 _) rfl rfl ?_)
      refine So.q rfl rfl (V.mv (v := .p (.v (.int .i64 _))) rfl ?_)
      refine So.q rfl rfl (V.bin (a := (.v (.int .i64 _))) (b := (.v (.int .i64 _))) (r := .v (.bool _)) rfl rfl rfl trivial ?_)
      refine So.e ?_
      show HT _ _ _ _ _
      refine R.cond rfl rfl (fun h3 => ?_) (fun h3 => ?_)
      · have h3 := of_decide_eq_true h3
        refine HT.skip ?_
        show HT _ _ _ _ _
        refine HT.seq ?_
        refine HT.block ?_
        refine HT.seq ?_
        refine HT.region S_rexpand_ok ?_
        have hcl := cat3_len (tN k i s) i (UInt8.ofInt ((s : Int) + 1))
        have htl0 := tN_le k i s
        have htl := tN_len k i s
        refine So.q rfl rfl (V.mv (v := .p (.bs _)) rfl ?_)
        refine So.n (lk rfl) (A.bsl 8 ty22 ty5 rfl (lk rfl) (lk rfl) (fun _ => rfl) rfl rfl trivial trivial rfl (N := 0) rfl (c := .bs []) rfl ?_)
        refine So.q rfl rfl (V.mv (v := .p (.bs _)) rfl ?_)
        refine So.n (lk rfl) (A.apOwn ty22 ty5 rfl rfl rfl rfl (u := .p (.bs _)) rfl rfl (l' := tN k i s) (by simp) (mn := (tN k i s).length) (by simp) (by first | rfl | omega | (simp; done) | (simp; omega)) rfl rfl rfl ?_)
        refine So.q rfl rfl (V.mv (v := .p (.bs _)) rfl ?_)
        refine So.n (lk rfl) (A.apOwn ty22 ty5 rfl rfl rfl rfl (u := .p (.bs _)) rfl rfl (l' := tN k i s ++ i) (by simp) (mn := (tN k i s).length + i.length) (by simp) (by first | rfl | omega | (simp; done) | (simp; omega)) rfl rfl rfl ?_)
        refine So.q rfl rfl (V.mv (v := .p (.v (.int .i64 _))) rfl ?_)
        refine So.q rfl rfl (V.cvN ty5 ty3 (a := (.v (.int .i64 _))) (r := (.u8 _)) rfl rfl ?_)
        refine So.n (lk rfl) (A.bsl 9 ty22 ty5 rfl (lk rfl) (lk rfl) (fun _ => rfl) rfl rfl trivial ⟨trivial, trivial⟩ rfl (N := 1) rfl (c := .bs [_]) rfl ?_)
        refine So.n (lk rfl) (A.apOwn ty22 ty5 rfl rfl rfl rfl (u := .own 9 0 _) rfl rfl (l' := (cat [tN k i s, i, [UInt8.ofInt ((s : Int) + 1)]])) (by rw [ap_full (by simp)]; simp [cat]) (mn := (cat [tN k i s, i, [UInt8.ofInt ((s : Int) + 1)]]).length) (by rw [hcl]) (by first | rfl | omega | (simp; done) | (simp; omega)) rfl rfl rfl ?_)
        refine So.n (lk rfl) (A.call0F S_rexpand_ok [.p (.bs _), .p (.bs _)] 10 rfl rfl rfl rfl ⟨trivial, trivial, trivial⟩ trivial (k, (cat [tN k i s, i, [UInt8.ofInt ((s : Int) + 1)]])) ⟨.refl _, le_bs (take_full _), trivial⟩ trivial (by first | omega | (simp only [List.drop_zero, List.take_length]; omega) | (simp; done) | (simp; omega)) (Φ := fun _ => True) (fun _ _ => trivial) (.inr ⟨trivial, by simp [Hp.scal, OC.scal, PV.scal, BV.scal]⟩) (t := 12) (off := 0) rfl (O' := (12, ⟨5, 1, _, true, .bs _⟩) :: _) rfl rfl rfl (y := .p (.bs _)) rfl rfl (fun h4 => ?_))
        refine So.q rfl rfl (V.as (v := .p (.bs _)) rfl ?_)
        refine So.e ?_
        show HT _ _ _ _ _
        refine R.tell [(8, .p (.bs (tN k i (s + 1))))] [] [0, 1, 2, 6, 7, 9, 16, 17, 18, 19, 22, 24, 26, 28, 29, 30, 31, 32] [7, 8, 9] (fr0 := [(0, .p (.bs _)), (1, .p (.bs _)), (2, .p (.v (.int .i64 _))), (6, .p (.v (.slice none 0 0))), (7, .own 7 0 _), (9, .p (.v (.int .i64 _))), (16, .own 7 0 _), (17, .p (.v (.int .i64 _))), (18, .p (.v (.int .i64 _))), (19, .p (.v (.bool true))), (22, .p (.bs _)), (24, .p (.bs _)), (26, .p (.bs _)), (28, .p (.v (.int .i64 _))), (29, .p (.u8 _)), (30, .own 9 0 _), (31, .own 8 0 _), (32, .p (.bs _))]) (O0 := [(7, ⟨_, _, _, _, .bs _⟩), (8, ⟨_, _, _, _, .bs _⟩), (9, ⟨_, _, _, _, .bs _⟩)]) rfl rfl ⟨⟨⟨le_bs (by first | rfl | (rw [List.drop_zero, List.take_of_length_le (by rw [mac_len]; omega)]; rfl)), trivial⟩, ⟨.refl _, trivial⟩, ⟨.refl _, trivial⟩, ⟨.refl _, trivial⟩, ⟨.refl _, trivial⟩, ⟨.refl _, rfl⟩, ⟨.refl _, trivial⟩, ⟨.refl _, rfl⟩, ⟨.refl _, trivial⟩, ⟨.refl _, trivial⟩, ⟨.refl _, trivial⟩, ⟨.refl _, trivial⟩, ⟨.refl _, trivial⟩, ⟨.refl _, trivial⟩, ⟨.refl _, trivial⟩, ⟨.refl _, trivial⟩, ⟨.refl _, rfl⟩, ⟨.refl _, rfl⟩, ⟨.refl _, trivial⟩, trivial⟩, ⟨⟨_, rfl, .inl rfl, trivial⟩, ⟨_, rfl, .inl rfl, trivial⟩, ⟨_, rfl, .inl rfl, trivial⟩, trivial⟩⟩ ?_
        show HT _ _ _ _ _
        refine HT.region S_rexpand_ok ?_
        refine So.q rfl rfl (V.mv (v := .own 7 0 _) rfl ?_)
        refine So.q rfl rfl (V.mv (v := .p (.bs _)) rfl ?_)
        refine So.n (lk rfl) (A.apOwn ty22 ty5 rfl rfl rfl rfl (u := .p (.bs _)) rfl rfl (l' := okm k i (s + 1)) (by rw [ap_full (by rw [okm_len]; exact Nat.le_refl _)]; rfl) (mn := 32 * (s + 1)) (by first | omega | (rw [tN_len]; omega)) (by first | rfl | omega | (simp; done) | (simp; omega)) rfl rfl rfl ?_)
        refine So.q rfl rfl (V.as (v := .own 7 0 _) rfl ?_)
        refine So.e ?_
        show HT _ _ _ _ _
        refine HT.region S_rexpand_ok ?_
        refine So.q rfl rfl (V.mv (v := .p (.v (.int .i64 _))) rfl ?_)
        refine So.q rfl rfl (V.addI rfl rfl (by omega) ?_)
        refine So.q rfl rfl (V.as (v := .p (.v (.int .i64 _))) rfl ?_)
        refine So.e ?_
        refine ⟨s + 1, by first | rfl | omega | (simp; done) | (simp; omega), by omega, ⟨⟨⟨le_own2 (by first | rfl | omega) (by first | rfl | omega | (simp; done) | (simp; omega)), rfl⟩, ⟨le_bs (by first | rfl | omega | (simp; done) | (simp; omega)), trivial⟩, ⟨le_int (by first | rfl | omega | (simp; done) | (simp; omega)), trivial⟩, ⟨.refl _, trivial⟩, ⟨.refl _, trivial⟩, ⟨.refl _, trivial⟩, ⟨.refl _, trivial⟩, trivial⟩, ⟨⟨_, rfl, .inl (ob_bs (by first | rfl | ((try dsimp only); first | rfl | omega | (simp; done) | (simp; omega))) (by first | rfl | ((try dsimp only); first | rfl | omega | (simp; done) | (simp; omega)))), trivial⟩, trivial⟩⟩⟩
      · have h3 := of_decide_eq_false h3
        refine HT.exit ?_
        show HT _ _ _ _ _
        refine HT.seq ?_
        refine HT.region S_rexpand_ok ?_
        have hol := okm_len k i s
        have hen := expandN_len (k := k) (i := i) (n := n) (by omega) (by omega)
        refine So.n (lk rfl) (A.bsl 8 ty22 ty5 rfl (lk rfl) (lk rfl) (fun _ => rfl) rfl rfl trivial trivial rfl (N := 0) rfl (c := .bs []) rfl ?_)
        refine So.q rfl rfl (V.mv (v := .own 7 0 _) rfl ?_)
        refine So.q rfl rfl (V.mv (v := .p (.v (.int .i64 _))) rfl ?_)
        refine So.q rfl rfl (V.cutOwnH ty22 ty5 rfl rfl rfl rfl (by omega) (.inl rfl) rfl ?_)
        refine So.n (lk rfl) (A.apOwn ty22 ty5 rfl rfl rfl rfl (u := .own 7 0 _) rfl rfl (l' := expandN k i n) (by rw [List.take_zero, List.nil_append, List.drop_zero]; exact okm_get (by omega) (by omega) (by omega) (by omega)) (mn := (expandN k i n).length) (by first | rfl | omega | (rw [hen]; simp; done) | (rw [hen]; simp; omega)) (by first | rfl | omega | (simp; done) | (simp; omega)) rfl rfl rfl ?_)
        refine So.q rfl rfl (V.as (v := .own 8 0 _) rfl ?_)
        refine So.e ?_
        show HT _ _ _ _ _
        refine HT.ret ?_
        exact ret_ok (sg [(2, 8)]) h rfl rfl rfl ⟨trivial, trivial⟩ ⟨rfl, trivial⟩ rfl ⟨⟨⟨le_own2 (by first | rfl | omega) (by first | (show (_ : Nat) = _; first | (rw [expandN_no (by omega)]; rfl) | rfl) | (show (_ : List UInt8) = _; first | (rw [expandN_no (by omega)]; done) | rfl) | rfl), rfl⟩, trivial⟩, ⟨⟨_, rfl, .inl (ob_bs (by first | rfl | ((try dsimp only); (first | (show (_ : Nat) = _; first | (rw [expandN_no (by omega)]; rfl) | rfl) | (show (_ : List UInt8) = _; first | (rw [expandN_no (by omega)]; done) | rfl) | rfl))) (by first | rfl | ((try dsimp only); (first | (show (_ : Nat) = _; first | (rw [expandN_no (by omega)]; rfl) | rfl) | (show (_ : List UInt8) = _; first | (rw [expandN_no (by omega)]; done) | rfl) | rfl)))), trivial⟩, trivial⟩⟩
  · have h1 := of_decide_eq_true h1
    refine So.gn (b := true) rfl rfl rfl (lk rfl) (lk rfl) ?_
    refine So.q rfl rfl (V.pkTrue (u := .p (.v (.bool true))) rfl rfl ?_)
    refine So.e ?_
    show HT _ _ _ _ _
    refine R.condT rfl ?_
    refine HT.seq ?_
    refine HT.region S_rexpand_ok ?_
    refine So.q rfl rfl (V.as (v := .p (.v (.slice none 0 0))) rfl ?_)
    refine So.e ?_
    show HT _ _ _ _ _
    refine R.phan 6 1 5 1 (.bs []) rfl rfl rfl ⟨rfl, rfl⟩ ?_
    refine HT.ret ?_
    exact ret_ok (sg [(2, 1)]) h rfl rfl rfl ⟨trivial, trivial⟩ ⟨rfl, trivial⟩ rfl ⟨⟨⟨le_own2 (by first | rfl | omega) (by first | (show (_ : Nat) = _; first | (rw [expandN_no (by omega)]; rfl) | rfl) | (show (_ : List UInt8) = _; first | (rw [expandN_no (by omega)]; done) | rfl) | rfl), rfl⟩, trivial⟩, ⟨⟨_, rfl, .inl (ob_bs (by first | rfl | ((try dsimp only); (first | (show (_ : Nat) = _; first | (rw [expandN_no (by omega)]; rfl) | rfl) | (show (_ : List UInt8) = _; first | (rw [expandN_no (by omega)]; done) | rfl) | rfl))) (by first | rfl | ((try dsimp only); (first | (show (_ : Nat) = _; first | (rw [expandN_no (by omega)]; rfl) | rfl) | (show (_ : List UInt8) = _; first | (rw [expandN_no (by omega)]; done) | rfl) | rfl)))), trivial⟩, trivial⟩⟩

end Go.Vh

set_option linter.unusedVariables false
set_option linter.unusedSimpArgs false
namespace Go.Vh
open Go Go.Vc Go.Proofs Go.Vw

/-! ### sodality/sodalityref03.Label -/
def rlabelSp : Sp := ⟨[], mkE (α := (List UInt8) × (List UInt8) × (List UInt8) × Int) (fun (k, m, c, n) => [.p (.bs (k)), .p (.str (m)), .p (.bs (c)), .p (.v (.int .i64 (n)))]) (fun (k, m, c, n) => []) (fun (k, m, c, n) => k.length ≤ 1000000000) (fun (k, m, c, n) => [.own 2 (0) ((labelF k m c n).length)]) (fun (k, m, c, n) => [(2, ⟨5, 1, (labelF k m c n).length, true, .bs (labelF k m c n)⟩)])⟩
def S_rlabel : FuncId → Option Sp := fun f => if f = 39 then some rinfoSp else if f = 40 then some rexpandSp else none
theorem S_rlabel_ok : ∀ f s, S_rlabel f = some s → FOK Tryd.prog gl f s := fun f s h => by
  unfold S_rlabel at h
  split at h
  · rename_i e; cases h; subst e; exact rinfo_ok
  split at h
  · rename_i e; cases h; subst e; exact rexpand_ok
  cases h
theorem S_rlabel_det : ∀ f s, S_rlabel f = some s → SpDet s.sp := fun f s h => by
  unfold S_rlabel at h
  split at h
  · cases h; exact mkE_det _ _ _ _ _
  split at h
  · cases h; exact mkE_det _ _ _ _ _
  cases h
set_option maxHeartbeats 1000000 in
set_option maxRecDepth 20000 in
theorem rlabel_ok : FOK Tryd.prog gl 25 rlabelSp := by
  refine FOK.ofE (tyOf_ok Tryd.prog) (slots := [8]) (nt := 21) Tryd.func25 rfl rfl rfl rfl (by decide) 4 (fun ⟨_, _, _, _⟩ => rfl) (by decide) (fun ⟨_, _, _, _⟩ => ⟨trivial, trivial, trivial, trivial, trivial⟩) ?_
  rintro ⟨k, m, c, n⟩ kk hlen hpre h
  have hl0 : (k).length ≤ 9223372036854775807 := hlen.1
  have hl2 : (c).length ≤ 9223372036854775807 := hlen.2.2.1
  replace hpre : k.length ≤ 1000000000 := hpre
  show HT (cx Tryd.prog 21 (tyOf Tryd.prog) gl []) _ [(0, .p (.bs (k))), (1, .p (.str (m))), (2, .p (.bs (c))), (3, .p (.v (.int .i64 (n))))] [] _
  have hil := infoF_len m c n
  refine HT.seq ?_
  refine HT.region S_rlabel_ok ?_
  refine So.q rfl rfl (V.as (v := .p (.v (.slice none 0 0))) rfl ?_)
  refine So.e ?_
  show HT _ _ _ _ _
  refine HT.seq ?_
  refine HT.region S_rlabel_ok ?_
  refine So.q rfl rfl (V.mv (v := .p (.str _)) rfl ?_)
  refine So.q rfl rfl (V.mv (v := .p (.bs _)) rfl ?_)
  refine So.q rfl rfl (V.mv (v := .p (.v (.int .i64 _))) rfl ?_)
  refine So.n (lk rfl) (A.call0 [.p (.str _), .p (.bs _), .p (.v (.int .i64 _))] 1 rfl rfl rfl rfl ⟨trivial, trivial, trivial, trivial⟩ trivial (_, _, _) ⟨.refl _, .refl _, .refl _, trivial⟩ trivial (by trivial) (Φ := fun _ => True) (fun _ _ => trivial) (.inl rfl) (v := .own 3 0 _) rfl (O' := (3, ⟨5, 1, _, true, .bs _⟩) :: _) rfl (fun h1 => ?_))
  refine So.q rfl rfl (V.as (v := .own 3 0 _) rfl ?_)
  refine So.e ?_
  show HT _ _ _ _ _
  refine HT.seq ?_
  refine HT.seq ?_
  refine HT.region S_rlabel_ok ?_
  refine So.q rfl rfl (V.mv (v := .own 3 0 _) rfl ?_)
  refine So.q rfl rfl (V.len ty22 (v := .own 3 0 _) rfl rfl ?_)
  refine So.q rfl rfl (V.bin (a := (.v (.int .i64 _))) (b := (.v (.int .i64 (0)))) (r := .v (.bool _)) rfl rfl rfl trivial ?_)
  refine So.e ?_
  show HT _ _ _ _ _
  refine R.cond rfl rfl (fun h2 => ?_) (fun h2 => ?_)
  · have h2 := of_decide_eq_true h2
    refine HT.seq ?_
    refine HT.region S_rlabel_ok ?_
    refine So.q rfl rfl (V.as (v := .p (.v (.slice none 0 0))) rfl ?_)
    refine So.e ?_
    show HT _ _ _ _ _
    refine R.phan 8 4 5 1 (.bs []) rfl rfl rfl ⟨rfl, rfl⟩ ?_
    refine HT.ret ?_
    exact ret_ok (sg [(2, 4)]) h rfl rfl rfl ⟨trivial, trivial⟩ ⟨rfl, trivial⟩ rfl ⟨⟨⟨le_own2 (by first | rfl | omega) (by first | (show (_ : Nat) = _; first | (rw [infoF_nil (by omega)]; rfl) | (rw [infoF_some (by omega)])) | (show (_ : List UInt8) = _; first | (rw [infoF_nil (by omega)]; done) | (rw [infoF_some (by omega)])) | rfl), rfl⟩, trivial⟩, ⟨⟨_, rfl, .inl (ob_bs (by first | rfl | ((try dsimp only); (first | (show (_ : Nat) = _; first | (rw [infoF_nil (by omega)]; rfl) | (rw [infoF_some (by omega)])) | (show (_ : List UInt8) = _; first | (rw [infoF_nil (by omega)]; done) | (rw [infoF_some (by omega)])) | rfl))) (by first | rfl | ((try dsimp only); (first | (show (_ : Nat) = _; first | (rw [infoF_nil (by omega)]; rfl) | (rw [infoF_some (by omega)])) | (show (_ : List UInt8) = _; first | (rw [infoF_nil (by omega)]; done) | (rw [infoF_some (by omega)])) | rfl)))), trivial⟩, trivial⟩⟩
  · have h2 := of_decide_eq_false h2
    refine HT.skip ?_
    show HT _ _ _ _ _
    refine HT.seq ?_
    refine HT.region S_rlabel_ok ?_
    refine So.q rfl rfl (V.mv (v := .p (.bs _)) rfl ?_)
    refine So.q rfl rfl (V.mv (v := .own 3 0 _) rfl ?_)
    refine So.q rfl rfl (V.mv (v := .p (.v (.int .i64 _))) rfl ?_)
    refine So.n (lk rfl) (A.call0 [.p (.bs _), .p (.bs _), .p (.v (.int .i64 _))] 4 rfl rfl rfl rfl ⟨trivial, trivial, trivial, trivial⟩ trivial (k, infoF m c n, n) ⟨.refl _, le_bs (take_full _), .refl _, trivial⟩ trivial (by first | omega | (simp only [List.drop_zero, List.take_length]; omega) | (simp; done) | (simp; omega)) (Φ := fun _ => True) (fun _ _ => trivial) (.inr ⟨trivial, by simp [Hp.scal, OC.scal, PV.scal, BV.scal]⟩) (v := .own 6 0 _) rfl (O' := (6, ⟨5, 1, _, true, .bs _⟩) :: _) rfl (fun h3 => ?_))
    refine So.q rfl rfl (V.as (v := .own 6 0 _) rfl ?_)
    refine So.e ?_
    show HT _ _ _ _ _
    refine HT.ret ?_
    exact ret_ok (sg [(2, 6)]) h rfl rfl rfl ⟨trivial, trivial⟩ ⟨rfl, trivial⟩ rfl ⟨⟨⟨le_own2 (by first | rfl | omega) (by first | (show (_ : Nat) = _; first | (rw [infoF_nil (by omega)]; rfl) | (rw [infoF_some (by omega)])) | (show (_ : List UInt8) = _; first | (rw [infoF_nil (by omega)]; done) | (rw [infoF_some (by omega)])) | rfl), rfl⟩, trivial⟩, ⟨⟨_, rfl, .inl (ob_bs (by first | rfl | ((try dsimp only); (first | (show (_ : Nat) = _; first | (rw [infoF_nil (by omega)]; rfl) | (rw [infoF_some (by omega)])) | (show (_ : List UInt8) = _; first | (rw [infoF_nil (by omega)]; done) | (rw [infoF_some (by omega)])) | rfl))) (by first | rfl | ((try dsimp only); (first | (show (_ : Nat) = _; first | (rw [infoF_nil (by omega)]; rfl) | (rw [infoF_some (by omega)])) | (show (_ : List UInt8) = _; first | (rw [infoF_nil (by omega)]; done) | (rw [infoF_some (by omega)])) | rfl)))), trivial⟩, trivial⟩⟩

end Go.Vh

set_option linter.unusedVariables false
set_option linter.unusedSimpArgs false
namespace Go.Vh
open Go Go.Vc Go.Proofs Go.Vw

/-! ### sodality/sodalityref16.Export -/
def rexportSp : Sp := ⟨[], mkE (α := (List (List UInt8)) × (List UInt8) × (List UInt8) × Int) (fun (e, m, c, n) => [.agg 7 (fun j => .bs ((e).getD j [])), .p (.str (m)), .p (.bs (c)), .p (.v (.int .i64 (n)))]) (fun (e, m, c, n) => []) (fun (e, m, c, n) => c.length ≤ 1000000000 ∧ (e.getD 3 []).length ≤ 1000000000) (fun (e, m, c, n) => [.own 2 (0) ((rexpF (e.getD 3 []) m c n).length)]) (fun (e, m, c, n) => [(2, ⟨5, 1, (rexpF (e.getD 3 []) m c n).length, true, .bs (rexpF (e.getD 3 []) m c n)⟩)])⟩
def S_rexport : FuncId → Option Sp := fun f => if f = 27 then some rshortSp else if f = 25 then some rlabelSp else if f = 31 then some rsumSp else none
theorem S_rexport_ok : ∀ f s, S_rexport f = some s → FOK Tryd.prog gl f s := fun f s h => by
  unfold S_rexport at h
  split at h
  · rename_i e; cases h; subst e; exact rshort_ok
  split at h
  · rename_i e; cases h; subst e; exact rlabel_ok
  split at h
  · rename_i e; cases h; subst e; exact rsum_ok
  cases h
theorem S_rexport_det : ∀ f s, S_rexport f = some s → SpDet s.sp := fun f s h => by
  unfold S_rexport at h
  split at h
  · cases h; exact mkE_det _ _ _ _ _
  split at h
  · cases h; exact mkE_det _ _ _ _ _
  split at h
  · cases h; exact mkE_det _ _ _ _ _
  cases h
set_option maxHeartbeats 1000000 in
set_option maxRecDepth 20000 in
theorem rexport_ok : FOK Tryd.prog gl 20 rexportSp := by
  refine FOK.ofE (tyOf_ok Tryd.prog) (slots := [8]) (nt := 24) Tryd.func20 rfl rfl rfl rfl (by decide) 4 (fun ⟨_, _, _, _⟩ => rfl) (by decide) (fun ⟨_, _, _, _⟩ => ⟨trivial, trivial, trivial, trivial, trivial⟩) ?_
  rintro ⟨e, m, c, n⟩ kk hlen hpre h
  have hl2 : (c).length ≤ 9223372036854775807 := hlen.2.2.1
  replace hpre : c.length ≤ 1000000000 ∧ (e.getD 3 []).length ≤ 1000000000 := hpre
  show HT (cx Tryd.prog 24 (tyOf Tryd.prog) gl []) _ [(0, .agg 7 (fun j => .bs ((e).getD j []))), (1, .p (.str (m))), (2, .p (.bs (c))), (3, .p (.v (.int .i64 (n))))] [] _
  have hsc := shortF_len c
  have hse := shortF_len (e.getD 3 [])
  have hll : (labelF (shortF (e.getD 3 [])) m [] 32).length ≤ 40 := by by_cases hm : 40 < m.length; (rw [key_no hm]; omega); (rw [key_len (by omega)]; omega)
  refine HT.seq ?_
  refine HT.region S_rexport_ok ?_
  refine So.n (lk rfl) (A.boxAg 1 1 (n := 7) rfl (by intro j hj; first | rfl | trivial | (split <;> first | rfl | trivial | (split <;> first | rfl | trivial))) rfl trivial ?_)
  refine So.q rfl rfl (V.as (v := .p (.v (.slice none 0 0))) rfl ?_)
  refine So.e ?_
  show HT _ _ _ _ _
  refine HT.seq ?_
  refine HT.region S_rexport_ok ?_
  refine So.q rfl rfl (V.faPtr ty28 rfl ty22 (lk rfl) rfl rfl (by first | exact lk rfl | first | rfl | omega | (simp; done) | (simp; omega)) ?_)
  refine So.q rfl rfl (V.ldPtr ty22 rfl rfl rfl (by first | rfl | omega | (simp; done) | (simp; omega)) (v := .p (.bs _)) rfl ?_)
  refine So.n (lk rfl) (A.call0 [.p (.bs _)] 2 rfl rfl rfl rfl ⟨trivial, trivial⟩ trivial (e.getD 3 []) ⟨.refl _, trivial⟩ trivial (by first | omega | (simp only [List.drop_zero, List.take_length]; omega) | (simp; done) | (simp; omega)) (Φ := fun _ => True) (fun _ _ => trivial) (.inl rfl) (v := .p (.bs _)) rfl (O' := _) rfl (fun h1 => ?_))
  refine So.q rfl rfl (V.mv (v := .p (.str _)) rfl ?_)
  refine So.n (lk rfl) (A.call0 [.p (.bs _), .p (.str _), .p (.v (.slice none 0 0)), .p (.v (.int .i64 _))] 2 rfl rfl rfl rfl ⟨trivial, trivial, trivial, trivial, trivial⟩ trivial (shortF (e.getD 3 []), m, [], 32) ⟨.refl _, .refl _, le_nil rfl, .refl _, trivial⟩ trivial (by first | omega | (simp; done) | (simp; omega)) (Φ := fun _ => True) (fun _ _ => trivial) (.inl rfl) (v := .own 4 0 _) rfl (O' := (4, ⟨5, 1, _, true, .bs _⟩) :: _) rfl (fun h2 => ?_))
  refine So.q rfl rfl (V.as (v := .own 4 0 _) rfl ?_)
  refine So.e ?_
  show HT _ _ _ _ _
  refine HT.seq ?_
  refine HT.seq ?_
  refine HT.region S_rexport_ok ?_
  refine So.q rfl rfl (V.mv (v := .own 4 0 _) rfl ?_)
  refine So.q rfl rfl (V.len ty22 (v := .own 4 0 _) rfl rfl ?_)
  refine So.q rfl rfl (V.bin (a := (.v (.int .i64 _))) (b := (.v (.int .i64 (0)))) (r := .v (.bool _)) rfl rfl rfl trivial ?_)
  refine So.e ?_
  show HT _ _ _ _ _
  refine R.cond rfl rfl (fun h3 => ?_) (fun h3 => ?_)
  · have h3 := of_decide_eq_true h3
    refine HT.seq ?_
    refine HT.region S_rexport_ok ?_
    refine So.q rfl rfl (V.as (v := .p (.v (.slice none 0 0))) rfl ?_)
    refine So.e ?_
    show HT _ _ _ _ _
    refine R.phan 8 5 5 1 (.bs []) rfl rfl rfl ⟨rfl, rfl⟩ ?_
    refine HT.ret ?_
    exact ret_ok (sg [(2, 5)]) h rfl rfl rfl ⟨trivial, trivial⟩ ⟨rfl, trivial⟩ rfl ⟨⟨⟨le_own2 (by first | rfl | omega) (by first | (show (_ : Nat) = _; first | (rw [rexp_nil (by omega)]; rfl) | (rw [rexp_ok (by omega)]; rfl)) | (show (_ : List UInt8) = _; first | (rw [rexp_nil (by omega)]; done) | (rw [rexp_ok (by omega)]; rfl)) | rfl), rfl⟩, trivial⟩, ⟨⟨_, rfl, .inl (ob_bs (by first | rfl | ((try dsimp only); (first | (show (_ : Nat) = _; first | (rw [rexp_nil (by omega)]; rfl) | (rw [rexp_ok (by omega)]; rfl)) | (show (_ : List UInt8) = _; first | (rw [rexp_nil (by omega)]; done) | (rw [rexp_ok (by omega)]; rfl)) | rfl))) (by first | rfl | ((try dsimp only); (first | (show (_ : Nat) = _; first | (rw [rexp_nil (by omega)]; rfl) | (rw [rexp_ok (by omega)]; rfl)) | (show (_ : List UInt8) = _; first | (rw [rexp_nil (by omega)]; done) | (rw [rexp_ok (by omega)]; rfl)) | rfl)))), trivial⟩, trivial⟩⟩
  · have h3 := of_decide_eq_false h3
    refine HT.skip ?_
    show HT _ _ _ _ _
    refine HT.seq ?_
    refine HT.region S_rexport_ok ?_
    refine So.q rfl rfl (V.mv (v := .own 4 0 _) rfl ?_)
    refine So.q rfl rfl (V.mv (v := .p (.bs _)) rfl ?_)
    refine So.n (lk rfl) (A.call0 [.p (.bs _)] 5 rfl rfl rfl rfl ⟨trivial, trivial⟩ trivial _ ⟨.refl _, trivial⟩ trivial (by first | omega | (simp only [List.drop_zero, List.take_length]; omega) | (simp; done) | (simp; omega)) (Φ := fun _ => True) (fun _ _ => trivial) (.inl rfl) (v := .p (.bs _)) rfl (O' := _) rfl (fun h4 => ?_))
    refine So.n (lk rfl) (A.call0 [.p (.bs _)] 5 rfl rfl rfl rfl ⟨trivial, trivial⟩ trivial (shortF c) ⟨.refl _, trivial⟩ trivial (by first | omega | (simp; done) | (simp; omega)) (Φ := fun _ => True) (fun _ _ => trivial) (.inl rfl) (v := .own 7 0 _) rfl (O' := (7, ⟨5, 1, _, true, .bs _⟩) :: _) rfl (fun h5 => ?_))
    refine So.q rfl rfl (V.mv (v := .p (.v (.int .i64 _))) rfl ?_)
    refine So.n (lk rfl) (A.call0 [.p (.bs _), .p (.str _), .p (.bs _), .p (.v (.int .i64 _))] 8 rfl rfl rfl rfl ⟨trivial, trivial, trivial, trivial, trivial⟩ trivial (labelF (shortF (e.getD 3 [])) m [] 32, nExported, sha (shortF c), n) ⟨le_bs (take_full _), .refl _, le_bs (sha_tr _), .refl _, trivial⟩ trivial (by first | omega | (simp; done) | (simp; omega)) (Φ := fun _ => True) (fun _ _ => trivial) (.inr ⟨trivial, by simp [Hp.scal, OC.scal, PV.scal, BV.scal]⟩) (v := .own 10 0 _) rfl (O' := (10, ⟨5, 1, _, true, .bs _⟩) :: _) rfl (fun h6 => ?_))
    refine So.q rfl rfl (V.as (v := .own 10 0 _) rfl ?_)
    refine So.e ?_
    show HT _ _ _ _ _
    refine HT.ret ?_
    exact ret_ok (sg [(2, 10)]) h rfl rfl rfl ⟨trivial, trivial⟩ ⟨rfl, trivial⟩ rfl ⟨⟨⟨le_own2 (by first | rfl | omega) (by first | (show (_ : Nat) = _; first | (rw [rexp_nil (by omega)]; rfl) | (rw [rexp_ok (by omega)]; rfl)) | (show (_ : List UInt8) = _; first | (rw [rexp_nil (by omega)]; done) | (rw [rexp_ok (by omega)]; rfl)) | rfl), rfl⟩, trivial⟩, ⟨⟨_, rfl, .inl (ob_bs (by first | rfl | ((try dsimp only); (first | (show (_ : Nat) = _; first | (rw [rexp_nil (by omega)]; rfl) | (rw [rexp_ok (by omega)]; rfl)) | (show (_ : List UInt8) = _; first | (rw [rexp_nil (by omega)]; done) | (rw [rexp_ok (by omega)]; rfl)) | rfl))) (by first | rfl | ((try dsimp only); (first | (show (_ : Nat) = _; first | (rw [rexp_nil (by omega)]; rfl) | (rw [rexp_ok (by omega)]; rfl)) | (show (_ : List UInt8) = _; first | (rw [rexp_nil (by omega)]; done) | (rw [rexp_ok (by omega)]; rfl)) | rfl)))), trivial⟩, trivial⟩⟩

end Go.Vh

set_option linter.unusedVariables false
set_option linter.unusedSimpArgs false
namespace Go.Vh
open Go Go.Vc Go.Proofs Go.Vw

/-! ### lawSums1 -/
def lawSums1Sp : Sp := ⟨[], mkE (α := (List UInt8) × (List UInt8) × (List (List UInt8)) × (List UInt8) × Int) (fun (a, b, e, m, n) => [.p (.bs (a)), .p (.bs (b)), .agg 7 (fun j => .bs ((e).getD j [])), .p (.str (m)), .p (.v (.int .i64 (n)))]) (fun (a, b, e, m, n) => []) (fun (a, b, e, m, n) => m.length ≤ 40) (fun (a, b, e, m, n) => [.p (.v (.bool true))]) (fun (a, b, e, m, n) => [])⟩
def S_lawSums1 : FuncId → Option Sp := fun f => if f = 8 then some headSp else if f = 9 then some greatSp else if f = 15 then some confirmedSp else if f = 16 then some rconfirmedSp else if f = 17 then some interimSp else if f = 18 then some rinterimSp else if f = 19 then some export1Sp else if f = 20 then some rexportSp else none
theorem S_lawSums1_ok : ∀ f s, S_lawSums1 f = some s → FOK Tryd.prog gl f s := fun f s h => by
  unfold S_lawSums1 at h
  split at h
  · rename_i e; cases h; subst e; exact head_ok
  split at h
  · rename_i e; cases h; subst e; exact great_ok
  split at h
  · rename_i e; cases h; subst e; exact confirmed_ok
  split at h
  · rename_i e; cases h; subst e; exact rconfirmed_ok
  split at h
  · rename_i e; cases h; subst e; exact interim_ok
  split at h
  · rename_i e; cases h; subst e; exact rinterim_ok
  split at h
  · rename_i e; cases h; subst e; exact export1_ok
  split at h
  · rename_i e; cases h; subst e; exact rexport_ok
  cases h
theorem S_lawSums1_det : ∀ f s, S_lawSums1 f = some s → SpDet s.sp := fun f s h => by
  unfold S_lawSums1 at h
  split at h
  · cases h; exact mkE_det _ _ _ _ _
  split at h
  · cases h; exact mkE_det _ _ _ _ _
  split at h
  · cases h; exact mkE_det _ _ _ _ _
  split at h
  · cases h; exact mkE_det _ _ _ _ _
  split at h
  · cases h; exact mkE_det _ _ _ _ _
  split at h
  · cases h; exact mkE_det _ _ _ _ _
  split at h
  · cases h; exact mkE_det _ _ _ _ _
  split at h
  · cases h; exact mkE_det _ _ _ _ _
  cases h
set_option maxHeartbeats 1000000 in
set_option maxRecDepth 20000 in
theorem lawSums1_ok : FOK Tryd.prog gl 4 lawSums1Sp := by
  refine FOK.ofE (tyOf_ok Tryd.prog) (slots := [10]) (nt := 76) Tryd.func4 rfl rfl rfl rfl (by decide) 5 (fun ⟨_, _, _, _, _⟩ => rfl) (by decide) (fun ⟨_, _, _, _, _⟩ => ⟨trivial, trivial, trivial, trivial, trivial, trivial⟩) ?_
  rintro ⟨a, b, e, m, n⟩ kk hlen hpre h
  have hl0 : (a).length ≤ 9223372036854775807 := hlen.1
  have hl1 : (b).length ≤ 9223372036854775807 := hlen.2.1
  replace hpre : m.length ≤ 40 := hpre
  show HT (cx Tryd.prog 76 (tyOf Tryd.prog) gl []) _ [(0, .p (.bs (a))), (1, .p (.bs (b))), (2, .agg 7 (fun j => .bs ((e).getD j []))), (3, .p (.str (m))), (4, .p (.v (.int .i64 (n))))] [] _
  refine HT.seq ?_
  refine HT.region S_lawSums1_ok ?_
  refine So.n (lk rfl) (A.boxAg 1 1 (n := 7) rfl (by intro j hj; first | rfl | trivial | (split <;> first | rfl | trivial | (split <;> first | rfl | trivial))) rfl trivial ?_)
  refine So.q rfl rfl (V.as (v := .p (.v (.bool false))) rfl ?_)
  refine So.e ?_
  show HT _ _ _ _ _
  refine HT.seq ?_
  refine HT.region S_lawSums1_ok ?_
  refine So.n (lk rfl) (A.call0 [] 2 rfl rfl rfl rfl trivial trivial () trivial trivial (by trivial) (Φ := fun _ => True) (fun _ _ => trivial) (.inl rfl) (v := .p (.v (.bool true))) rfl (O' := _) rfl (fun h1 => ?_))
  refine So.q rfl rfl (V.as (v := .p (.v (.bool true))) rfl ?_)
  refine So.e ?_
  show HT _ _ _ _ _
  refine HT.seq ?_
  refine HT.seq ?_
  refine HT.region S_lawSums1_ok ?_
  refine So.q rfl rfl (V.mv (v := .p (.bs _)) rfl ?_)
  refine So.n (lk rfl) (A.call0 [.p (.bs _)] 2 rfl rfl rfl rfl ⟨trivial, trivial⟩ trivial _ ⟨.refl _, trivial⟩ trivial (by trivial) (Φ := fun _ => True) (fun _ _ => trivial) (.inl rfl) (v := .p (.v (.bool _))) rfl (O' := _) rfl (fun h2 => ?_))
  refine So.q rfl rfl (V.mv (v := .p (.v (.bool _))) rfl ?_)
  refine So.gd rfl rfl (lk rfl) (lk rfl) (fun h3 => ?_) (fun h3 => ?_)
  · have h3 := of_decide_eq_false h3
    refine A.v rfl (V.mv (v := .p (.bs _)) rfl ?_)
    refine So.gy rfl rfl (lk rfl) (lk rfl) ?_
    refine A.call0 [.p (.bs _)] 2 rfl rfl rfl rfl ⟨trivial, trivial⟩ trivial _ ⟨.refl _, trivial⟩ trivial (by trivial) (Φ := fun _ => True) (fun _ _ => trivial) (.inl rfl) (v := .p (.v (.bool _))) rfl (O' := _) rfl (fun h4 => ?_)
    refine So.q rfl rfl (V.pkFalse (u := .p (.v (.bool _))) rfl rfl ?_)
    refine So.q rfl rfl (V.mv (v := .p (.v (.bool _))) rfl ?_)
    refine So.gd rfl rfl (lk rfl) (lk rfl) (fun h5 => ?_) (fun h5 => ?_)
    · have h5 := of_decide_eq_false h5
      refine A.v rfl (V.faPtr ty28 rfl ty22 (lk rfl) rfl rfl (by first | exact lk rfl | first | rfl | omega | (simp; done) | (simp; omega)) ?_)
      refine So.gy rfl rfl (lk rfl) (lk rfl) ?_
      refine A.v rfl (V.ldPtr ty22 rfl rfl rfl (by first | rfl | omega | (simp; done) | (simp; omega)) (v := .p (.bs _)) rfl ?_)
      refine So.gy rfl rfl (lk rfl) (lk rfl) ?_
      refine A.call0 [.p (.bs _)] 2 rfl rfl rfl rfl ⟨trivial, trivial⟩ trivial (e.getD 3 []) ⟨.refl _, trivial⟩ trivial (by trivial) (Φ := fun _ => True) (fun _ _ => trivial) (.inl rfl) (v := .p (.v (.bool _))) rfl (O' := _) rfl (fun h6 => ?_)
      refine So.q rfl rfl (V.pkFalse (u := .p (.v (.bool _))) rfl rfl ?_)
      refine So.q rfl rfl (V.mv (v := .p (.v (.bool _))) rfl ?_)
      refine So.gd rfl rfl (lk rfl) (lk rfl) (fun h7 => ?_) (fun h7 => ?_)
      · have h7 := of_decide_eq_false h7
        refine A.v rfl (V.mv (v := .p (.str _)) rfl ?_)
        refine So.gy rfl rfl (lk rfl) (lk rfl) ?_
        refine A.v rfl (V.lenStr ty9 rfl ?_)
        refine So.gy rfl rfl (lk rfl) (lk rfl) ?_
        refine A.v rfl (V.bin (a := (.v (.int .i64 _))) (b := (.v (.int .i64 (1000)))) (r := .v (.bool _)) rfl rfl rfl trivial ?_)
        refine So.q rfl rfl (V.pkFalse (u := .p (.v (.bool _))) rfl rfl ?_)
        refine So.q rfl rfl (V.mv (v := .p (.v (.bool _))) rfl ?_)
        refine So.gd rfl rfl (lk rfl) (lk rfl) (fun h8 => ?_) (fun h8 => ?_)
        · have h8 := of_decide_eq_false h8
          refine A.v rfl (V.mv (v := .p (.v (.int .i64 _))) rfl ?_)
          refine So.gy rfl rfl (lk rfl) (lk rfl) ?_
          refine A.v rfl (V.bin (a := (.v (.int .i64 _))) (b := (.v (.int .i64 (300)))) (r := .v (.bool _)) rfl rfl rfl trivial ?_)
          refine So.gy rfl rfl (lk rfl) (lk rfl) ?_
          refine A.v rfl (V.mv (v := .p (.v (.bool _))) rfl ?_)
          refine So.gd rfl rfl (lk rfl) (lk rfl) (fun h9 => ?_) (fun h9 => ?_)
          · have h9 := of_decide_eq_true h9
            refine A.v rfl (V.mv (v := .p (.v (.int .i64 _))) rfl ?_)
            refine So.gy rfl rfl (lk rfl) (lk rfl) ?_
            refine A.v rfl (V.bin (a := (.v (.int .i64 _))) (b := (.v (.int .i64 (8160)))) (r := .v (.bool _)) rfl rfl rfl trivial ?_)
            refine So.gy rfl rfl (lk rfl) (lk rfl) ?_
            refine A.v rfl (V.pkTrue (u := .p (.v (.bool _))) rfl rfl ?_)
            refine So.q rfl rfl (V.pkFalse (u := .p (.v (.bool _))) rfl rfl ?_)
            refine So.e ?_
            show HT _ _ _ _ _
            refine R.cond rfl rfl (fun h10 => ?_) (fun h10 => ?_)
            · have h10 := of_decide_eq_true h10
              refine HT.seq ?_
              refine HT.region S_lawSums1_ok ?_
              refine So.q rfl rfl (V.mv (v := .p (.v (.bool true))) rfl ?_)
              refine So.q rfl rfl (V.as (v := .p (.v (.bool true))) rfl ?_)
              refine So.e ?_
              show HT _ _ _ _ _
              refine HT.ret ?_
              exact ret_ok (sg []) h rfl rfl rfl trivial ⟨trivial, trivial⟩ rfl ⟨⟨⟨le_bool (by first | with_reducible rfl | exact decide_eq_true (by first | with_reducible rfl | (simp only [take_full]; exact (rexp_yes (by omega)).symm))), trivial⟩, trivial⟩, trivial⟩
            · have h10 := of_decide_eq_false h10
              refine HT.skip ?_
              show HT _ _ _ _ _
              refine HT.seq ?_
              refine HT.drawn S_lawSums1_ok S_lawSums1_det mixed (by kernel_rfl) ?_
              refine Sd.n (lk rfl) (V.mv (v := .p (.v (.bool true))) rfl ?_)
              refine Sd.n (lk rfl) (V.mv (v := .p (.v (.bool true))) rfl ?_)
              refine Sd.gy rfl rfl (lk rfl) (lk rfl) ?_
              refine V.mv (v := .p (.bs _)) rfl ?_
              refine Sd.gy rfl rfl (lk rfl) (lk rfl) ?_
              refine V.mv (v := .p (.bs _)) rfl ?_
              refine Sd.gy rfl rfl (lk rfl) (lk rfl) ?_
              refine V.call [.p (.bs _), .p (.bs _)] 2 rfl rfl rfl rfl ⟨trivial, trivial, trivial⟩ trivial (_, _) ⟨.refl _, .refl _, trivial⟩ trivial (by first | omega | (simp only [List.drop_zero, List.take_length]; omega) | (simp; done) | (simp; omega)) (Φ := fun _ => True) (fun _ _ => trivial) (.inl ⟨trivial, trivial, trivial⟩) (v := .p (.bs _)) rfl (fun h11 => ?_)
              refine Sd.gy rfl rfl (lk rfl) (lk rfl) ?_
              refine V.cvBs ty9 rfl rfl ?_
              refine Sd.gy rfl rfl (lk rfl) (lk rfl) ?_
              refine V.mv (v := .p (.bs _)) rfl ?_
              refine Sd.gy rfl rfl (lk rfl) (lk rfl) ?_
              refine V.mv (v := .p (.bs _)) rfl ?_
              refine Sd.gy rfl rfl (lk rfl) (lk rfl) ?_
              refine V.call [.p (.bs _), .p (.bs _)] 2 rfl rfl rfl rfl ⟨trivial, trivial, trivial⟩ trivial (_, _) ⟨.refl _, .refl _, trivial⟩ trivial (by first | omega | (simp only [List.drop_zero, List.take_length]; omega) | (simp; done) | (simp; omega)) (Φ := fun _ => True) (fun _ _ => trivial) (.inl ⟨trivial, trivial, trivial⟩) (v := .p (.bs _)) rfl (fun h12 => ?_)
              refine Sd.gy rfl rfl (lk rfl) (lk rfl) ?_
              refine V.cvBs ty9 rfl rfl ?_
              refine Sd.gy rfl rfl (lk rfl) (lk rfl) ?_
              refine V.bin (a := (.str _)) (b := (.str _)) (r := .v (.bool _)) rfl rfl rfl trivial ?_
              refine Sd.n (lk rfl) (V.pkTrue (u := .p (.v (.bool _))) rfl rfl ?_)
              refine Sd.n (lk rfl) (V.mv (v := .p (.v (.bool _))) rfl ?_)
              refine Sd.gd rfl rfl (lk rfl) (lk rfl) (fun h13 => ?_) (fun h13 => ?_)
              · have h13 := of_decide_eq_true h13
                refine V.mv (v := .p (.bs _)) rfl ?_
                refine Sd.gy rfl rfl (lk rfl) (lk rfl) ?_
                refine V.mv (v := .p (.bs _)) rfl ?_
                refine Sd.gy rfl rfl (lk rfl) (lk rfl) ?_
                refine V.call [.p (.bs _), .p (.bs _)] 2 rfl rfl rfl rfl ⟨trivial, trivial, trivial⟩ trivial (_, _) ⟨.refl _, .refl _, trivial⟩ trivial (by first | omega | (simp only [List.drop_zero, List.take_length]; omega) | (simp; done) | (simp; omega)) (Φ := fun _ => True) (fun _ _ => trivial) (.inl ⟨trivial, trivial, trivial⟩) (v := .p (.bs _)) rfl (fun h14 => ?_)
                refine Sd.gy rfl rfl (lk rfl) (lk rfl) ?_
                refine V.cvBs ty9 rfl rfl ?_
                refine Sd.gy rfl rfl (lk rfl) (lk rfl) ?_
                refine V.mv (v := .p (.bs _)) rfl ?_
                refine Sd.gy rfl rfl (lk rfl) (lk rfl) ?_
                refine V.mv (v := .p (.bs _)) rfl ?_
                refine Sd.gy rfl rfl (lk rfl) (lk rfl) ?_
                refine V.call [.p (.bs _), .p (.bs _)] 2 rfl rfl rfl rfl ⟨trivial, trivial, trivial⟩ trivial (_, _) ⟨.refl _, .refl _, trivial⟩ trivial (by first | omega | (simp only [List.drop_zero, List.take_length]; omega) | (simp; done) | (simp; omega)) (Φ := fun _ => True) (fun _ _ => trivial) (.inl ⟨trivial, trivial, trivial⟩) (v := .p (.bs _)) rfl (fun h15 => ?_)
                refine Sd.gy rfl rfl (lk rfl) (lk rfl) ?_
                refine V.cvBs ty9 rfl rfl ?_
                refine Sd.gy rfl rfl (lk rfl) (lk rfl) ?_
                refine V.bin (a := (.str _)) (b := (.str _)) (r := .v (.bool _)) rfl rfl rfl trivial ?_
                refine Sd.n (lk rfl) (V.pkTrue (u := .p (.v (.bool _))) rfl rfl ?_)
                refine Sd.n (lk rfl) (V.mv (v := .p (.v (.bool _))) rfl ?_)
                refine Sd.gd rfl rfl (lk rfl) (lk rfl) (fun h16 => ?_) (fun h16 => ?_)
                · have h16 := of_decide_eq_true h16
                  refine V.ldPtrA ty28 rfl rfl rfl rfl (by first | rfl | omega | (simp; done) | (simp; omega)) ?_
                  refine Sd.gy rfl rfl (lk rfl) (lk rfl) ?_
                  refine V.mv (v := .p (.str _)) rfl ?_
                  refine Sd.gy rfl rfl (lk rfl) (lk rfl) ?_
                  refine V.mv (v := .p (.bs _)) rfl ?_
                  refine Sd.gy rfl rfl (lk rfl) (lk rfl) ?_
                  refine V.mv (v := .p (.v (.int .i64 _))) rfl ?_
                  refine Sd.gy rfl rfl (lk rfl) (lk rfl) ?_
                  refine V.call [.agg 7 _, .p (.str _), .p (.bs _), .p (.v (.int .i64 _))] 2 rfl rfl rfl rfl ⟨trivial, trivial, trivial, trivial, trivial⟩ trivial (e, m, a, n) ⟨le_agg (fun j _ => by simp only [Nat.zero_add]), .refl _, .refl _, .refl _, trivial⟩ trivial (by first | omega | (simp only [List.drop_zero, List.take_length]; omega) | (simp; done) | (simp; omega)) (Φ := fun _ => True) (fun _ _ => trivial) (.inl ⟨trivial, trivial, trivial, trivial, trivial⟩) (v := .p (.bs _)) rfl (fun h17 => ?_)
                  refine Sd.gy rfl rfl (lk rfl) (lk rfl) ?_
                  refine V.cvBs ty9 rfl rfl ?_
                  refine Sd.gy rfl rfl (lk rfl) (lk rfl) ?_
                  refine V.ldPtrA ty28 rfl rfl rfl rfl (by first | rfl | omega | (simp; done) | (simp; omega)) ?_
                  refine Sd.gy rfl rfl (lk rfl) (lk rfl) ?_
                  refine V.mv (v := .p (.str _)) rfl ?_
                  refine Sd.gy rfl rfl (lk rfl) (lk rfl) ?_
                  refine V.mv (v := .p (.bs _)) rfl ?_
                  refine Sd.gy rfl rfl (lk rfl) (lk rfl) ?_
                  refine V.mv (v := .p (.v (.int .i64 _))) rfl ?_
                  refine Sd.gy rfl rfl (lk rfl) (lk rfl) ?_
                  refine V.call [.agg 7 _, .p (.str _), .p (.bs _), .p (.v (.int .i64 _))] 2 rfl rfl rfl rfl ⟨trivial, trivial, trivial, trivial, trivial⟩ trivial (e, m, a, n) ⟨le_agg (fun j _ => by simp only [Nat.zero_add]), .refl _, .refl _, .refl _, trivial⟩ trivial (by first | omega | (simp only [List.drop_zero, List.take_length]; omega) | (simp; done) | (simp; omega)) (Φ := fun _ => True) (fun _ _ => trivial) (.inl ⟨trivial, trivial, trivial, trivial, trivial⟩) (v := .p (.bs _)) rfl (fun h18 => ?_)
                  refine Sd.gy rfl rfl (lk rfl) (lk rfl) ?_
                  refine V.cvBs ty9 rfl rfl ?_
                  refine Sd.gy rfl rfl (lk rfl) (lk rfl) ?_
                  refine V.bin (a := (.str _)) (b := (.str _)) (r := .v (.bool _)) rfl rfl rfl trivial ?_
                  refine Sd.n (lk rfl) (V.pkTrue (u := .p (.v (.bool _))) rfl rfl ?_)
                  refine Sd.n (lk rfl) (V.as (v := .p (.v (.bool _))) rfl ?_)
                  refine Sd.e ?_
                  show HT _ _ _ _ _
                  refine HT.ret ?_
                  exact ret_ok (sg []) h rfl rfl rfl trivial ⟨trivial, trivial⟩ rfl ⟨⟨⟨le_bool (by first | with_reducible rfl | exact decide_eq_true (by first | with_reducible rfl | (simp only [take_full]; exact (rexp_yes (by omega)).symm))), trivial⟩, trivial⟩, trivial⟩
                · have h16 := of_decide_eq_false h16
                  first | exact absurd (by first | with_reducible rfl | (simp only [take_full]; done) | (simp only [take_full]; exact (rexp_yes (by omega)).symm)) h16 | exact absurd h16 (by first | with_reducible rfl | (simp only [take_full]; done) | (simp only [take_full]; exact (rexp_yes (by omega)).symm))
              · have h13 := of_decide_eq_false h13
                first | exact absurd (by first | with_reducible rfl | (simp only [take_full]; done) | (simp only [take_full]; exact (rexp_yes (by omega)).symm)) h13 | exact absurd h13 (by first | with_reducible rfl | (simp only [take_full]; done) | (simp only [take_full]; exact (rexp_yes (by omega)).symm))
          · have h9 := of_decide_eq_false h9
            refine So.gn (b := false) rfl rfl rfl (lk rfl) (lk rfl) ?_
            refine So.gy rfl rfl (lk rfl) (lk rfl) ?_
            refine A.v rfl (V.pkFalse (u := .p (.v (.bool false))) rfl rfl ?_)
            refine So.q rfl rfl (V.pkFalse (u := .p (.v (.bool false))) rfl rfl ?_)
            refine So.e ?_
            show HT _ _ _ _ _
            refine R.condF rfl ?_
            refine HT.skip ?_
            show HT _ _ _ _ _
            refine HT.seq ?_
            refine HT.drawn S_lawSums1_ok S_lawSums1_det mixed (by kernel_rfl) ?_
            refine Sd.n (lk rfl) (V.mv (v := .p (.v (.bool true))) rfl ?_)
            refine Sd.n (lk rfl) (V.mv (v := .p (.v (.bool true))) rfl ?_)
            refine Sd.gy rfl rfl (lk rfl) (lk rfl) ?_
            refine V.mv (v := .p (.bs _)) rfl ?_
            refine Sd.gy rfl rfl (lk rfl) (lk rfl) ?_
            refine V.mv (v := .p (.bs _)) rfl ?_
            refine Sd.gy rfl rfl (lk rfl) (lk rfl) ?_
            refine V.call [.p (.bs _), .p (.bs _)] 2 rfl rfl rfl rfl ⟨trivial, trivial, trivial⟩ trivial (_, _) ⟨.refl _, .refl _, trivial⟩ trivial (by first | omega | (simp only [List.drop_zero, List.take_length]; omega) | (simp; done) | (simp; omega)) (Φ := fun _ => True) (fun _ _ => trivial) (.inl ⟨trivial, trivial, trivial⟩) (v := .p (.bs _)) rfl (fun h19 => ?_)
            refine Sd.gy rfl rfl (lk rfl) (lk rfl) ?_
            refine V.cvBs ty9 rfl rfl ?_
            refine Sd.gy rfl rfl (lk rfl) (lk rfl) ?_
            refine V.mv (v := .p (.bs _)) rfl ?_
            refine Sd.gy rfl rfl (lk rfl) (lk rfl) ?_
            refine V.mv (v := .p (.bs _)) rfl ?_
            refine Sd.gy rfl rfl (lk rfl) (lk rfl) ?_
            refine V.call [.p (.bs _), .p (.bs _)] 2 rfl rfl rfl rfl ⟨trivial, trivial, trivial⟩ trivial (_, _) ⟨.refl _, .refl _, trivial⟩ trivial (by first | omega | (simp only [List.drop_zero, List.take_length]; omega) | (simp; done) | (simp; omega)) (Φ := fun _ => True) (fun _ _ => trivial) (.inl ⟨trivial, trivial, trivial⟩) (v := .p (.bs _)) rfl (fun h20 => ?_)
            refine Sd.gy rfl rfl (lk rfl) (lk rfl) ?_
            refine V.cvBs ty9 rfl rfl ?_
            refine Sd.gy rfl rfl (lk rfl) (lk rfl) ?_
            refine V.bin (a := (.str _)) (b := (.str _)) (r := .v (.bool _)) rfl rfl rfl trivial ?_
            refine Sd.n (lk rfl) (V.pkTrue (u := .p (.v (.bool _))) rfl rfl ?_)
            refine Sd.n (lk rfl) (V.mv (v := .p (.v (.bool _))) rfl ?_)
            refine Sd.gd rfl rfl (lk rfl) (lk rfl) (fun h21 => ?_) (fun h21 => ?_)
            · have h21 := of_decide_eq_true h21
              refine V.mv (v := .p (.bs _)) rfl ?_
              refine Sd.gy rfl rfl (lk rfl) (lk rfl) ?_
              refine V.mv (v := .p (.bs _)) rfl ?_
              refine Sd.gy rfl rfl (lk rfl) (lk rfl) ?_
              refine V.call [.p (.bs _), .p (.bs _)] 2 rfl rfl rfl rfl ⟨trivial, trivial, trivial⟩ trivial (_, _) ⟨.refl _, .refl _, trivial⟩ trivial (by first | omega | (simp only [List.drop_zero, List.take_length]; omega) | (simp; done) | (simp; omega)) (Φ := fun _ => True) (fun _ _ => trivial) (.inl ⟨trivial, trivial, trivial⟩) (v := .p (.bs _)) rfl (fun h22 => ?_)
              refine Sd.gy rfl rfl (lk rfl) (lk rfl) ?_
              refine V.cvBs ty9 rfl rfl ?_
              refine Sd.gy rfl rfl (lk rfl) (lk rfl) ?_
              refine V.mv (v := .p (.bs _)) rfl ?_
              refine Sd.gy rfl rfl (lk rfl) (lk rfl) ?_
              refine V.mv (v := .p (.bs _)) rfl ?_
              refine Sd.gy rfl rfl (lk rfl) (lk rfl) ?_
              refine V.call [.p (.bs _), .p (.bs _)] 2 rfl rfl rfl rfl ⟨trivial, trivial, trivial⟩ trivial (_, _) ⟨.refl _, .refl _, trivial⟩ trivial (by first | omega | (simp only [List.drop_zero, List.take_length]; omega) | (simp; done) | (simp; omega)) (Φ := fun _ => True) (fun _ _ => trivial) (.inl ⟨trivial, trivial, trivial⟩) (v := .p (.bs _)) rfl (fun h23 => ?_)
              refine Sd.gy rfl rfl (lk rfl) (lk rfl) ?_
              refine V.cvBs ty9 rfl rfl ?_
              refine Sd.gy rfl rfl (lk rfl) (lk rfl) ?_
              refine V.bin (a := (.str _)) (b := (.str _)) (r := .v (.bool _)) rfl rfl rfl trivial ?_
              refine Sd.n (lk rfl) (V.pkTrue (u := .p (.v (.bool _))) rfl rfl ?_)
              refine Sd.n (lk rfl) (V.mv (v := .p (.v (.bool _))) rfl ?_)
              refine Sd.gd rfl rfl (lk rfl) (lk rfl) (fun h24 => ?_) (fun h24 => ?_)
              · have h24 := of_decide_eq_true h24
                refine V.ldPtrA ty28 rfl rfl rfl rfl (by first | rfl | omega | (simp; done) | (simp; omega)) ?_
                refine Sd.gy rfl rfl (lk rfl) (lk rfl) ?_
                refine V.mv (v := .p (.str _)) rfl ?_
                refine Sd.gy rfl rfl (lk rfl) (lk rfl) ?_
                refine V.mv (v := .p (.bs _)) rfl ?_
                refine Sd.gy rfl rfl (lk rfl) (lk rfl) ?_
                refine V.mv (v := .p (.v (.int .i64 _))) rfl ?_
                refine Sd.gy rfl rfl (lk rfl) (lk rfl) ?_
                refine V.call [.agg 7 _, .p (.str _), .p (.bs _), .p (.v (.int .i64 _))] 2 rfl rfl rfl rfl ⟨trivial, trivial, trivial, trivial, trivial⟩ trivial (e, m, a, n) ⟨le_agg (fun j _ => by simp only [Nat.zero_add]), .refl _, .refl _, .refl _, trivial⟩ trivial (by first | omega | (simp only [List.drop_zero, List.take_length]; omega) | (simp; done) | (simp; omega)) (Φ := fun _ => True) (fun _ _ => trivial) (.inl ⟨trivial, trivial, trivial, trivial, trivial⟩) (v := .p (.bs _)) rfl (fun h25 => ?_)
                refine Sd.gy rfl rfl (lk rfl) (lk rfl) ?_
                refine V.cvBs ty9 rfl rfl ?_
                refine Sd.gy rfl rfl (lk rfl) (lk rfl) ?_
                refine V.ldPtrA ty28 rfl rfl rfl rfl (by first | rfl | omega | (simp; done) | (simp; omega)) ?_
                refine Sd.gy rfl rfl (lk rfl) (lk rfl) ?_
                refine V.mv (v := .p (.str _)) rfl ?_
                refine Sd.gy rfl rfl (lk rfl) (lk rfl) ?_
                refine V.mv (v := .p (.bs _)) rfl ?_
                refine Sd.gy rfl rfl (lk rfl) (lk rfl) ?_
                refine V.mv (v := .p (.v (.int .i64 _))) rfl ?_
                refine Sd.gy rfl rfl (lk rfl) (lk rfl) ?_
                refine V.call [.agg 7 _, .p (.str _), .p (.bs _), .p (.v (.int .i64 _))] 2 rfl rfl rfl rfl ⟨trivial, trivial, trivial, trivial, trivial⟩ trivial (e, m, a, n) ⟨le_agg (fun j _ => by simp only [Nat.zero_add]), .refl _, .refl _, .refl _, trivial⟩ trivial (by first | omega | (simp only [List.drop_zero, List.take_length]; omega) | (simp; done) | (simp; omega)) (Φ := fun _ => True) (fun _ _ => trivial) (.inl ⟨trivial, trivial, trivial, trivial, trivial⟩) (v := .p (.bs _)) rfl (fun h26 => ?_)
                refine Sd.gy rfl rfl (lk rfl) (lk rfl) ?_
                refine V.cvBs ty9 rfl rfl ?_
                refine Sd.gy rfl rfl (lk rfl) (lk rfl) ?_
                refine V.bin (a := (.str _)) (b := (.str _)) (r := .v (.bool _)) rfl rfl rfl trivial ?_
                refine Sd.n (lk rfl) (V.pkTrue (u := .p (.v (.bool _))) rfl rfl ?_)
                refine Sd.n (lk rfl) (V.as (v := .p (.v (.bool _))) rfl ?_)
                refine Sd.e ?_
                show HT _ _ _ _ _
                refine HT.ret ?_
                exact ret_ok (sg []) h rfl rfl rfl trivial ⟨trivial, trivial⟩ rfl ⟨⟨⟨le_bool (by first | with_reducible rfl | exact decide_eq_true (by first | with_reducible rfl | (simp only [take_full]; exact (rexp_yes (by omega)).symm))), trivial⟩, trivial⟩, trivial⟩
              · have h24 := of_decide_eq_false h24
                first | exact absurd (by first | with_reducible rfl | (simp only [take_full]; done) | (simp only [take_full]; exact (rexp_yes (by omega)).symm)) h24 | exact absurd h24 (by first | with_reducible rfl | (simp only [take_full]; done) | (simp only [take_full]; exact (rexp_yes (by omega)).symm))
            · have h21 := of_decide_eq_false h21
              first | exact absurd (by first | with_reducible rfl | (simp only [take_full]; done) | (simp only [take_full]; exact (rexp_yes (by omega)).symm)) h21 | exact absurd h21 (by first | with_reducible rfl | (simp only [take_full]; done) | (simp only [take_full]; exact (rexp_yes (by omega)).symm))
        · have h8 := of_decide_eq_true h8
          refine So.gn (b := true) rfl rfl rfl (lk rfl) (lk rfl) ?_
          refine So.gn (b := true) rfl rfl rfl (lk rfl) (lk rfl) ?_
          refine So.gu rfl rfl (lk rfl) ?_
          refine So.gu rfl rfl (lk rfl) ?_
          refine So.gn (b := true) rfl rfl rfl (lk rfl) (lk rfl) ?_
          refine So.q rfl rfl (V.pkTrue (u := .p (.v (.bool true))) rfl rfl ?_)
          refine So.e ?_
          show HT _ _ _ _ _
          refine R.condT rfl ?_
          refine HT.seq ?_
          refine HT.region S_lawSums1_ok ?_
          refine So.q rfl rfl (V.mv (v := .p (.v (.bool true))) rfl ?_)
          refine So.q rfl rfl (V.as (v := .p (.v (.bool true))) rfl ?_)
          refine So.e ?_
          show HT _ _ _ _ _
          refine HT.ret ?_
          exact ret_ok (sg []) h rfl rfl rfl trivial ⟨trivial, trivial⟩ rfl ⟨⟨⟨le_bool (by first | with_reducible rfl | exact decide_eq_true (by first | with_reducible rfl | (simp only [take_full]; exact (rexp_yes (by omega)).symm))), trivial⟩, trivial⟩, trivial⟩
      · have h7 := of_decide_eq_true h7
        refine So.gn (b := true) rfl rfl rfl (lk rfl) (lk rfl) ?_
        refine So.gn (b := true) rfl rfl rfl (lk rfl) (lk rfl) ?_
        refine So.q rfl rfl (V.pkTrue (u := .p (.v (.bool true))) rfl rfl ?_)
        refine So.q rfl rfl (V.mv (v := .p (.v (.bool true))) rfl ?_)
        refine So.gn (b := true) rfl rfl rfl (lk rfl) (lk rfl) ?_
        refine So.gn (b := true) rfl rfl rfl (lk rfl) (lk rfl) ?_
        refine So.gn (b := true) rfl rfl rfl (lk rfl) (lk rfl) ?_
        refine So.gu rfl rfl (lk rfl) ?_
        refine So.gu rfl rfl (lk rfl) ?_
        refine So.gn (b := true) rfl rfl rfl (lk rfl) (lk rfl) ?_
        refine So.q rfl rfl (V.pkTrue (u := .p (.v (.bool true))) rfl rfl ?_)
        refine So.e ?_
        show HT _ _ _ _ _
        refine R.condT rfl ?_
        refine HT.seq ?_
        refine HT.region S_lawSums1_ok ?_
        refine So.q rfl rfl (V.mv (v := .p (.v (.bool true))) rfl ?_)
        refine So.q rfl rfl (V.as (v := .p (.v (.bool true))) rfl ?_)
        refine So.e ?_
        show HT _ _ _ _ _
        refine HT.ret ?_
        exact ret_ok (sg []) h rfl rfl rfl trivial ⟨trivial, trivial⟩ rfl ⟨⟨⟨le_bool (by first | with_reducible rfl | exact decide_eq_true (by first | with_reducible rfl | (simp only [take_full]; exact (rexp_yes (by omega)).symm))), trivial⟩, trivial⟩, trivial⟩
    · have h5 := of_decide_eq_true h5
      refine So.gn (b := true) rfl rfl rfl (lk rfl) (lk rfl) ?_
      refine So.gn (b := true) rfl rfl rfl (lk rfl) (lk rfl) ?_
      refine So.q rfl rfl (V.pkTrue (u := .p (.v (.bool true))) rfl rfl ?_)
      refine So.q rfl rfl (V.mv (v := .p (.v (.bool true))) rfl ?_)
      refine So.gn (b := true) rfl rfl rfl (lk rfl) (lk rfl) ?_
      refine So.gn (b := true) rfl rfl rfl (lk rfl) (lk rfl) ?_
      refine So.gn (b := true) rfl rfl rfl (lk rfl) (lk rfl) ?_
      refine So.q rfl rfl (V.pkTrue (u := .p (.v (.bool true))) rfl rfl ?_)
      refine So.q rfl rfl (V.mv (v := .p (.v (.bool true))) rfl ?_)
      refine So.gn (b := true) rfl rfl rfl (lk rfl) (lk rfl) ?_
      refine So.gn (b := true) rfl rfl rfl (lk rfl) (lk rfl) ?_
      refine So.gn (b := true) rfl rfl rfl (lk rfl) (lk rfl) ?_
      refine So.gu rfl rfl (lk rfl) ?_
      refine So.gu rfl rfl (lk rfl) ?_
      refine So.gn (b := true) rfl rfl rfl (lk rfl) (lk rfl) ?_
      refine So.q rfl rfl (V.pkTrue (u := .p (.v (.bool true))) rfl rfl ?_)
      refine So.e ?_
      show HT _ _ _ _ _
      refine R.condT rfl ?_
      refine HT.seq ?_
      refine HT.region S_lawSums1_ok ?_
      refine So.q rfl rfl (V.mv (v := .p (.v (.bool true))) rfl ?_)
      refine So.q rfl rfl (V.as (v := .p (.v (.bool true))) rfl ?_)
      refine So.e ?_
      show HT _ _ _ _ _
      refine HT.ret ?_
      exact ret_ok (sg []) h rfl rfl rfl trivial ⟨trivial, trivial⟩ rfl ⟨⟨⟨le_bool (by first | with_reducible rfl | exact decide_eq_true (by first | with_reducible rfl | (simp only [take_full]; exact (rexp_yes (by omega)).symm))), trivial⟩, trivial⟩, trivial⟩
  · have h3 := of_decide_eq_true h3
    refine So.gn (b := true) rfl rfl rfl (lk rfl) (lk rfl) ?_
    refine So.q rfl rfl (V.pkTrue (u := .p (.v (.bool true))) rfl rfl ?_)
    refine So.q rfl rfl (V.mv (v := .p (.v (.bool true))) rfl ?_)
    refine So.gn (b := true) rfl rfl rfl (lk rfl) (lk rfl) ?_
    refine So.gn (b := true) rfl rfl rfl (lk rfl) (lk rfl) ?_
    refine So.gn (b := true) rfl rfl rfl (lk rfl) (lk rfl) ?_
    refine So.q rfl rfl (V.pkTrue (u := .p (.v (.bool true))) rfl rfl ?_)
    refine So.q rfl rfl (V.mv (v := .p (.v (.bool true))) rfl ?_)
    refine So.gn (b := true) rfl rfl rfl (lk rfl) (lk rfl) ?_
    refine So.gn (b := true) rfl rfl rfl (lk rfl) (lk rfl) ?_
    refine So.gn (b := true) rfl rfl rfl (lk rfl) (lk rfl) ?_
    refine So.q rfl rfl (V.pkTrue (u := .p (.v (.bool true))) rfl rfl ?_)
    refine So.q rfl rfl (V.mv (v := .p (.v (.bool true))) rfl ?_)
    refine So.gn (b := true) rfl rfl rfl (lk rfl) (lk rfl) ?_
    refine So.gn (b := true) rfl rfl rfl (lk rfl) (lk rfl) ?_
    refine So.gn (b := true) rfl rfl rfl (lk rfl) (lk rfl) ?_
    refine So.gu rfl rfl (lk rfl) ?_
    refine So.gu rfl rfl (lk rfl) ?_
    refine So.gn (b := true) rfl rfl rfl (lk rfl) (lk rfl) ?_
    refine So.q rfl rfl (V.pkTrue (u := .p (.v (.bool true))) rfl rfl ?_)
    refine So.e ?_
    show HT _ _ _ _ _
    refine R.condT rfl ?_
    refine HT.seq ?_
    refine HT.region S_lawSums1_ok ?_
    refine So.q rfl rfl (V.mv (v := .p (.v (.bool true))) rfl ?_)
    refine So.q rfl rfl (V.as (v := .p (.v (.bool true))) rfl ?_)
    refine So.e ?_
    show HT _ _ _ _ _
    refine HT.ret ?_
    exact ret_ok (sg []) h rfl rfl rfl trivial ⟨trivial, trivial⟩ rfl ⟨⟨⟨le_bool (by first | with_reducible rfl | exact decide_eq_true (by first | with_reducible rfl | (simp only [take_full]; exact (rexp_yes (by omega)).symm))), trivial⟩, trivial⟩, trivial⟩

end Go.Vh

set_option linter.unusedVariables false
set_option linter.unusedSimpArgs false
namespace Go.Vh
open Go Go.Vc Go.Proofs Go.Vw

/-! ### hlabel0 -/
def hlabel0Sp : Sp := ⟨[], mkE (α := (List UInt8) × (List UInt8) × (List UInt8) × Int) (fun (k, m, c, n) => [.p (.bs (k)), .p (.str (m)), .p (.bs (c)), .p (.v (.int .i64 (n)))]) (fun (k, m, c, n) => []) (fun (k, m, c, n) => 40 < m.length) (fun (k, m, c, n) => [.p (.v (.slice none 0 0))]) (fun (k, m, c, n) => [])⟩
def S_hlabel0 : FuncId → Option Sp := fun _ => none
theorem S_hlabel0_ok : ∀ f s, S_hlabel0 f = some s → FOK Tryd.prog gl f s := fun f s h => by cases h
theorem S_hlabel0_det : ∀ f s, S_hlabel0 f = some s → SpDet s.sp := fun f s h => by cases h
set_option maxHeartbeats 1000000 in
set_option maxRecDepth 20000 in
theorem hlabel0_ok : FOK Tryd.prog gl 21 hlabel0Sp := by
  refine FOK.ofE (tyOf_ok Tryd.prog) (slots := [8]) (nt := 42) Tryd.func21 rfl rfl rfl rfl (by decide) 4 (fun ⟨_, _, _, _⟩ => rfl) (by decide) (fun ⟨_, _, _, _⟩ => ⟨trivial, trivial, trivial, trivial, trivial⟩) ?_
  rintro ⟨k, m, c, n⟩ kk hlen hpre h
  have hl0 : (k).length ≤ 9223372036854775807 := hlen.1
  have hl2 : (c).length ≤ 9223372036854775807 := hlen.2.2.1
  replace hpre : 40 < m.length := hpre
  show HT (cx Tryd.prog 42 (tyOf Tryd.prog) gl []) _ [(0, .p (.bs (k))), (1, .p (.str (m))), (2, .p (.bs (c))), (3, .p (.v (.int .i64 (n))))] [] _
  have hl1 := longF_len (lbl ++ m)
  have hl2 := longF_len c
  have hl3 : (lbl ++ m).length = 8 + m.length := by rw [List.length_append]; rfl
  have hl4 := congrArg List.length (infoG_cat m c n)
  have hl5 : (infoG m c n).length = 2 + (longF (lbl ++ m)).length + (longF c).length := by unfold infoG; simp; omega
  refine HT.seq ?_
  refine HT.region S_hlabel0_ok ?_
  refine So.q rfl rfl (V.as (v := .p (.v (.slice none 0 0))) rfl ?_)
  refine So.e ?_
  show HT _ _ _ _ _
  refine HT.seq ?_
  refine HT.seq ?_
  refine HT.region S_hlabel0_ok ?_
  refine So.q rfl rfl (V.mv (v := .p (.v (.int .i64 _))) rfl ?_)
  refine So.q rfl rfl (V.bin (a := (.v (.int .i64 _))) (b := (.v (.int .i64 (0)))) (r := .v (.bool _)) rfl rfl rfl trivial ?_)
  refine So.q rfl rfl (V.mv (v := .p (.v (.bool _))) rfl ?_)
  refine So.gd rfl rfl (lk rfl) (lk rfl) (fun h1 => ?_) (fun h1 => ?_)
  · have h1 := of_decide_eq_false h1
    refine A.v rfl (V.mv (v := .p (.v (.int .i64 _))) rfl ?_)
    refine So.gy rfl rfl (lk rfl) (lk rfl) ?_
    refine A.v rfl (V.bin (a := (.v (.int .i64 _))) (b := (.v (.int .i64 (8160)))) (r := .v (.bool _)) rfl rfl rfl trivial ?_)
    refine So.q rfl rfl (V.pkFalse (u := .p (.v (.bool _))) rfl rfl ?_)
    refine So.q rfl rfl (V.mv (v := .p (.v (.bool _))) rfl ?_)
    refine So.gd rfl rfl (lk rfl) (lk rfl) (fun h2 => ?_) (fun h2 => ?_)
    · have h2 := of_decide_eq_false h2
      refine A.v rfl (V.mv (v := .p (.str _)) rfl ?_)
      refine So.gy rfl rfl (lk rfl) (lk rfl) ?_
      refine A.v rfl (V.lenStr ty9 rfl ?_)
      refine So.gy rfl rfl (lk rfl) (lk rfl) ?_
      refine A.v rfl (V.bin (a := (.v (.int .i64 _))) (b := (.v (.int .i64 (40)))) (r := .v (.bool _)) rfl rfl rfl trivial ?_)
      refine So.q rfl rfl (V.pkFalse (u := .p (.v (.bool _))) rfl rfl ?_)
      refine So.q rfl rfl (V.mv (v := .p (.v (.bool _))) rfl ?_)
      refine So.gd rfl rfl (lk rfl) (lk rfl) (fun h3 => ?_) (fun h3 => ?_)
      · have h3 := of_decide_eq_false h3
        refine A.v rfl (V.mv (v := .p (.bs _)) rfl ?_)
        refine So.gy rfl rfl (lk rfl) (lk rfl) ?_
        refine A.v rfl (V.len ty22 (v := .p (.bs _)) rfl rfl ?_)
        refine So.gy rfl rfl (lk rfl) (lk rfl) ?_
        refine A.v rfl (V.bin (a := (.v (.int .i64 _))) (b := (.v (.int .i64 (16000)))) (r := .v (.bool _)) rfl rfl rfl trivial ?_)
        refine So.q rfl rfl (V.pkFalse (u := .p (.v (.bool _))) rfl rfl ?_)
        refine So.e ?_
        show HT _ _ _ _ _
        refine R.cond rfl rfl (fun h4 => ?_) (fun h4 => ?_)
        · have h4 := of_decide_eq_true h4
          refine HT.seq ?_
          refine HT.region S_hlabel0_ok ?_
          refine So.q rfl rfl (V.as (v := .p (.v (.slice none 0 0))) rfl ?_)
          refine So.e ?_
          show HT _ _ _ _ _
          refine HT.ret ?_
          exact ret_ok (sg []) h rfl rfl rfl trivial ⟨trivial, trivial⟩ rfl ⟨⟨⟨.refl _, trivial⟩, trivial⟩, trivial⟩
        · have h4 := of_decide_eq_false h4
          refine HT.skip ?_
          show HT _ _ _ _ _
          refine HT.seq ?_
          exfalso; omega
      · have h3 := of_decide_eq_true h3
        refine So.gn (b := true) rfl rfl rfl (lk rfl) (lk rfl) ?_
        refine So.gn (b := true) rfl rfl rfl (lk rfl) (lk rfl) ?_
        refine So.q rfl rfl (V.pkTrue (u := .p (.v (.bool true))) rfl rfl ?_)
        refine So.e ?_
        show HT _ _ _ _ _
        refine R.condT rfl ?_
        refine HT.seq ?_
        refine HT.region S_hlabel0_ok ?_
        refine So.q rfl rfl (V.as (v := .p (.v (.slice none 0 0))) rfl ?_)
        refine So.e ?_
        show HT _ _ _ _ _
        refine HT.ret ?_
        exact ret_ok (sg []) h rfl rfl rfl trivial ⟨trivial, trivial⟩ rfl ⟨⟨⟨.refl _, trivial⟩, trivial⟩, trivial⟩
    · have h2 := of_decide_eq_true h2
      refine So.gn (b := true) rfl rfl rfl (lk rfl) (lk rfl) ?_
      refine So.gn (b := true) rfl rfl rfl (lk rfl) (lk rfl) ?_
      refine So.q rfl rfl (V.pkTrue (u := .p (.v (.bool true))) rfl rfl ?_)
      refine So.q rfl rfl (V.mv (v := .p (.v (.bool true))) rfl ?_)
      refine So.gn (b := true) rfl rfl rfl (lk rfl) (lk rfl) ?_
      refine So.gn (b := true) rfl rfl rfl (lk rfl) (lk rfl) ?_
      refine So.gn (b := true) rfl rfl rfl (lk rfl) (lk rfl) ?_
      refine So.q rfl rfl (V.pkTrue (u := .p (.v (.bool true))) rfl rfl ?_)
      refine So.e ?_
      show HT _ _ _ _ _
      refine R.condT rfl ?_
      refine HT.seq ?_
      refine HT.region S_hlabel0_ok ?_
      refine So.q rfl rfl (V.as (v := .p (.v (.slice none 0 0))) rfl ?_)
      refine So.e ?_
      show HT _ _ _ _ _
      refine HT.ret ?_
      exact ret_ok (sg []) h rfl rfl rfl trivial ⟨trivial, trivial⟩ rfl ⟨⟨⟨.refl _, trivial⟩, trivial⟩, trivial⟩
  · have h1 := of_decide_eq_true h1
    refine So.gn (b := true) rfl rfl rfl (lk rfl) (lk rfl) ?_
    refine So.q rfl rfl (V.pkTrue (u := .p (.v (.bool true))) rfl rfl ?_)
    refine So.q rfl rfl (V.mv (v := .p (.v (.bool true))) rfl ?_)
    refine So.gn (b := true) rfl rfl rfl (lk rfl) (lk rfl) ?_
    refine So.gn (b := true) rfl rfl rfl (lk rfl) (lk rfl) ?_
    refine So.gn (b := true) rfl rfl rfl (lk rfl) (lk rfl) ?_
    refine So.q rfl rfl (V.pkTrue (u := .p (.v (.bool true))) rfl rfl ?_)
    refine So.q rfl rfl (V.mv (v := .p (.v (.bool true))) rfl ?_)
    refine So.gn (b := true) rfl rfl rfl (lk rfl) (lk rfl) ?_
    refine So.gn (b := true) rfl rfl rfl (lk rfl) (lk rfl) ?_
    refine So.gn (b := true) rfl rfl rfl (lk rfl) (lk rfl) ?_
    refine So.q rfl rfl (V.pkTrue (u := .p (.v (.bool true))) rfl rfl ?_)
    refine So.e ?_
    show HT _ _ _ _ _
    refine R.condT rfl ?_
    refine HT.seq ?_
    refine HT.region S_hlabel0_ok ?_
    refine So.q rfl rfl (V.as (v := .p (.v (.slice none 0 0))) rfl ?_)
    refine So.e ?_
    show HT _ _ _ _ _
    refine HT.ret ?_
    exact ret_ok (sg []) h rfl rfl rfl trivial ⟨trivial, trivial⟩ rfl ⟨⟨⟨.refl _, trivial⟩, trivial⟩, trivial⟩

end Go.Vh

set_option linter.unusedVariables false
set_option linter.unusedSimpArgs false
namespace Go.Vh
open Go Go.Vc Go.Proofs Go.Vw

/-! ### export0 -/
def export0Sp : Sp := ⟨[], mkE (α := (List (List UInt8)) × (List UInt8) × (List UInt8) × Int) (fun (e, m, c, n) => [.agg 7 (fun j => .bs ((e).getD j [])), .p (.str (m)), .p (.bs (c)), .p (.v (.int .i64 (n)))]) (fun (e, m, c, n) => []) (fun (e, m, c, n) => 40 < m.length ∧ (e.getD 3 []).length ≤ 1000000000) (fun (e, m, c, n) => [.p (.v (.slice none 0 0))]) (fun (e, m, c, n) => [])⟩
def S_export0 : FuncId → Option Sp := fun f => if f = 24 then some shortSp else if f = 21 then some hlabel0Sp else none
theorem S_export0_ok : ∀ f s, S_export0 f = some s → FOK Tryd.prog gl f s := fun f s h => by
  unfold S_export0 at h
  split at h
  · rename_i e; cases h; subst e; exact short_ok
  split at h
  · rename_i e; cases h; subst e; exact hlabel0_ok
  cases h
theorem S_export0_det : ∀ f s, S_export0 f = some s → SpDet s.sp := fun f s h => by
  unfold S_export0 at h
  split at h
  · cases h; exact mkE_det _ _ _ _ _
  split at h
  · cases h; exact mkE_det _ _ _ _ _
  cases h
set_option maxHeartbeats 1000000 in
set_option maxRecDepth 20000 in
theorem export0_ok : FOK Tryd.prog gl 19 export0Sp := by
  refine FOK.ofE (tyOf_ok Tryd.prog) (slots := [8]) (nt := 23) Tryd.func19 rfl rfl rfl rfl (by decide) 4 (fun ⟨_, _, _, _⟩ => rfl) (by decide) (fun ⟨_, _, _, _⟩ => ⟨trivial, trivial, trivial, trivial, trivial⟩) ?_
  rintro ⟨e, m, c, n⟩ kk hlen hpre h
  have hl2 : (c).length ≤ 9223372036854775807 := hlen.2.2.1
  replace hpre : 40 < m.length ∧ (e.getD 3 []).length ≤ 1000000000 := hpre
  show HT (cx Tryd.prog 23 (tyOf Tryd.prog) gl []) _ [(0, .agg 7 (fun j => .bs ((e).getD j []))), (1, .p (.str (m))), (2, .p (.bs (c))), (3, .p (.v (.int .i64 (n))))] [] _
  have hse := shortF_len (e.getD 3 [])
  refine HT.seq ?_
  refine HT.region S_export0_ok ?_
  refine So.n (lk rfl) (A.boxAg 1 1 (n := 7) rfl (by intro j hj; first | rfl | trivial | (split <;> first | rfl | trivial | (split <;> first | rfl | trivial))) rfl trivial ?_)
  refine So.q rfl rfl (V.as (v := .p (.v (.slice none 0 0))) rfl ?_)
  refine So.e ?_
  show HT _ _ _ _ _
  refine HT.seq ?_
  refine HT.region S_export0_ok ?_
  refine So.q rfl rfl (V.faPtr ty28 rfl ty22 (lk rfl) rfl rfl (by first | exact lk rfl | first | rfl | omega | (simp; done) | (simp; omega)) ?_)
  refine So.q rfl rfl (V.ldPtr ty22 rfl rfl rfl (by first | rfl | omega | (simp; done) | (simp; omega)) (v := .p (.bs _)) rfl ?_)
  refine So.n (lk rfl) (A.call0 [.p (.bs _)] 2 rfl rfl rfl rfl ⟨trivial, trivial⟩ trivial (e.getD 3 []) ⟨.refl _, trivial⟩ trivial (by first | omega | (simp only [List.drop_zero, List.take_length]; omega) | (simp; done) | (simp; omega)) (Φ := fun _ => True) (fun _ _ => trivial) (.inl rfl) (v := .p (.bs _)) rfl (O' := _) rfl (fun h1 => ?_))
  refine So.q rfl rfl (V.mv (v := .p (.str _)) rfl ?_)
  refine So.n (lk rfl) (A.call0 [.p (.bs _), .p (.str _), .p (.v (.slice none 0 0)), .p (.v (.int .i64 _))] 2 rfl rfl rfl rfl ⟨trivial, trivial, trivial, trivial, trivial⟩ trivial (shortF (e.getD 3 []), m, [], 32) ⟨.refl _, .refl _, le_nil rfl, .refl _, trivial⟩ trivial (by first | omega | (simp only [List.drop_zero, List.take_length]; omega) | (simp; done) | (simp; omega)) (Φ := fun _ => True) (fun _ _ => trivial) (.inl rfl) (v := .p (.v (.slice none 0 0))) rfl (O' := _) rfl (fun h2 => ?_))
  refine So.q rfl rfl (V.as (v := .p (.v (.slice none 0 0))) rfl ?_)
  refine So.e ?_
  show HT _ _ _ _ _
  refine HT.seq ?_
  refine HT.seq ?_
  refine HT.region S_export0_ok ?_
  refine So.q rfl rfl (V.mv (v := .p (.v (.slice none 0 0))) rfl ?_)
  refine So.q rfl rfl (V.eqNil ty22 rfl rfl (fun _ _ e => by cases e; rfl) rfl trivial ?_)
  refine So.e ?_
  show HT _ _ _ _ _
  refine R.condT rfl ?_
  refine HT.seq ?_
  refine HT.region S_export0_ok ?_
  refine So.q rfl rfl (V.as (v := .p (.v (.slice none 0 0))) rfl ?_)
  refine So.e ?_
  show HT _ _ _ _ _
  refine HT.ret ?_
  exact ret_ok (sg []) h rfl rfl rfl trivial ⟨trivial, trivial⟩ rfl ⟨⟨⟨.refl _, trivial⟩, trivial⟩, trivial⟩

end Go.Vh

set_option linter.unusedVariables false
set_option linter.unusedSimpArgs false
namespace Go.Vh
open Go Go.Vc Go.Proofs Go.Vw

/-! ### lawSums0 -/
def lawSums0Sp : Sp := ⟨[], mkE (α := (List UInt8) × (List UInt8) × (List (List UInt8)) × (List UInt8) × Int) (fun (a, b, e, m, n) => [.p (.bs (a)), .p (.bs (b)), .agg 7 (fun j => .bs ((e).getD j [])), .p (.str (m)), .p (.v (.int .i64 (n)))]) (fun (a, b, e, m, n) => []) (fun (a, b, e, m, n) => 40 < m.length) (fun (a, b, e, m, n) => [.p (.v (.bool true))]) (fun (a, b, e, m, n) => [])⟩
def S_lawSums0 : FuncId → Option Sp := fun f => if f = 8 then some headSp else if f = 9 then some greatSp else if f = 15 then some confirmedSp else if f = 16 then some rconfirmedSp else if f = 17 then some interimSp else if f = 18 then some rinterimSp else if f = 19 then some export0Sp else if f = 20 then some rexportSp else none
theorem S_lawSums0_ok : ∀ f s, S_lawSums0 f = some s → FOK Tryd.prog gl f s := fun f s h => by
  unfold S_lawSums0 at h
  split at h
  · rename_i e; cases h; subst e; exact head_ok
  split at h
  · rename_i e; cases h; subst e; exact great_ok
  split at h
  · rename_i e; cases h; subst e; exact confirmed_ok
  split at h
  · rename_i e; cases h; subst e; exact rconfirmed_ok
  split at h
  · rename_i e; cases h; subst e; exact interim_ok
  split at h
  · rename_i e; cases h; subst e; exact rinterim_ok
  split at h
  · rename_i e; cases h; subst e; exact export0_ok
  split at h
  · rename_i e; cases h; subst e; exact rexport_ok
  cases h
theorem S_lawSums0_det : ∀ f s, S_lawSums0 f = some s → SpDet s.sp := fun f s h => by
  unfold S_lawSums0 at h
  split at h
  · cases h; exact mkE_det _ _ _ _ _
  split at h
  · cases h; exact mkE_det _ _ _ _ _
  split at h
  · cases h; exact mkE_det _ _ _ _ _
  split at h
  · cases h; exact mkE_det _ _ _ _ _
  split at h
  · cases h; exact mkE_det _ _ _ _ _
  split at h
  · cases h; exact mkE_det _ _ _ _ _
  split at h
  · cases h; exact mkE_det _ _ _ _ _
  split at h
  · cases h; exact mkE_det _ _ _ _ _
  cases h
set_option maxHeartbeats 1000000 in
set_option maxRecDepth 20000 in
theorem lawSums0_ok : FOK Tryd.prog gl 4 lawSums0Sp := by
  refine FOK.ofE (tyOf_ok Tryd.prog) (slots := [10]) (nt := 76) Tryd.func4 rfl rfl rfl rfl (by decide) 5 (fun ⟨_, _, _, _, _⟩ => rfl) (by decide) (fun ⟨_, _, _, _, _⟩ => ⟨trivial, trivial, trivial, trivial, trivial, trivial⟩) ?_
  rintro ⟨a, b, e, m, n⟩ kk hlen hpre h
  have hl0 : (a).length ≤ 9223372036854775807 := hlen.1
  have hl1 : (b).length ≤ 9223372036854775807 := hlen.2.1
  replace hpre : 40 < m.length := hpre
  show HT (cx Tryd.prog 76 (tyOf Tryd.prog) gl []) _ [(0, .p (.bs (a))), (1, .p (.bs (b))), (2, .agg 7 (fun j => .bs ((e).getD j []))), (3, .p (.str (m))), (4, .p (.v (.int .i64 (n))))] [] _
  refine HT.seq ?_
  refine HT.region S_lawSums0_ok ?_
  refine So.n (lk rfl) (A.boxAg 1 1 (n := 7) rfl (by intro j hj; first | rfl | trivial | (split <;> first | rfl | trivial | (split <;> first | rfl | trivial))) rfl trivial ?_)
  refine So.q rfl rfl (V.as (v := .p (.v (.bool false))) rfl ?_)
  refine So.e ?_
  show HT _ _ _ _ _
  refine HT.seq ?_
  refine HT.region S_lawSums0_ok ?_
  refine So.n (lk rfl) (A.call0 [] 2 rfl rfl rfl rfl trivial trivial () trivial trivial (by trivial) (Φ := fun _ => True) (fun _ _ => trivial) (.inl rfl) (v := .p (.v (.bool true))) rfl (O' := _) rfl (fun h1 => ?_))
  refine So.q rfl rfl (V.as (v := .p (.v (.bool true))) rfl ?_)
  refine So.e ?_
  show HT _ _ _ _ _
  refine HT.seq ?_
  refine HT.seq ?_
  refine HT.region S_lawSums0_ok ?_
  refine So.q rfl rfl (V.mv (v := .p (.bs _)) rfl ?_)
  refine So.n (lk rfl) (A.call0 [.p (.bs _)] 2 rfl rfl rfl rfl ⟨trivial, trivial⟩ trivial _ ⟨.refl _, trivial⟩ trivial (by trivial) (Φ := fun _ => True) (fun _ _ => trivial) (.inl rfl) (v := .p (.v (.bool _))) rfl (O' := _) rfl (fun h2 => ?_))
  refine So.q rfl rfl (V.mv (v := .p (.v (.bool _))) rfl ?_)
  refine So.gd rfl rfl (lk rfl) (lk rfl) (fun h3 => ?_) (fun h3 => ?_)
  · have h3 := of_decide_eq_false h3
    refine A.v rfl (V.mv (v := .p (.bs _)) rfl ?_)
    refine So.gy rfl rfl (lk rfl) (lk rfl) ?_
    refine A.call0 [.p (.bs _)] 2 rfl rfl rfl rfl ⟨trivial, trivial⟩ trivial _ ⟨.refl _, trivial⟩ trivial (by trivial) (Φ := fun _ => True) (fun _ _ => trivial) (.inl rfl) (v := .p (.v (.bool _))) rfl (O' := _) rfl (fun h4 => ?_)
    refine So.q rfl rfl (V.pkFalse (u := .p (.v (.bool _))) rfl rfl ?_)
    refine So.q rfl rfl (V.mv (v := .p (.v (.bool _))) rfl ?_)
    refine So.gd rfl rfl (lk rfl) (lk rfl) (fun h5 => ?_) (fun h5 => ?_)
    · have h5 := of_decide_eq_false h5
      refine A.v rfl (V.faPtr ty28 rfl ty22 (lk rfl) rfl rfl (by first | exact lk rfl | first | rfl | omega | (simp; done) | (simp; omega)) ?_)
      refine So.gy rfl rfl (lk rfl) (lk rfl) ?_
      refine A.v rfl (V.ldPtr ty22 rfl rfl rfl (by first | rfl | omega | (simp; done) | (simp; omega)) (v := .p (.bs _)) rfl ?_)
      refine So.gy rfl rfl (lk rfl) (lk rfl) ?_
      refine A.call0 [.p (.bs _)] 2 rfl rfl rfl rfl ⟨trivial, trivial⟩ trivial (e.getD 3 []) ⟨.refl _, trivial⟩ trivial (by trivial) (Φ := fun _ => True) (fun _ _ => trivial) (.inl rfl) (v := .p (.v (.bool _))) rfl (O' := _) rfl (fun h6 => ?_)
      refine So.q rfl rfl (V.pkFalse (u := .p (.v (.bool _))) rfl rfl ?_)
      refine So.q rfl rfl (V.mv (v := .p (.v (.bool _))) rfl ?_)
      refine So.gd rfl rfl (lk rfl) (lk rfl) (fun h7 => ?_) (fun h7 => ?_)
      · have h7 := of_decide_eq_false h7
        refine A.v rfl (V.mv (v := .p (.str _)) rfl ?_)
        refine So.gy rfl rfl (lk rfl) (lk rfl) ?_
        refine A.v rfl (V.lenStr ty9 rfl ?_)
        refine So.gy rfl rfl (lk rfl) (lk rfl) ?_
        refine A.v rfl (V.bin (a := (.v (.int .i64 _))) (b := (.v (.int .i64 (1000)))) (r := .v (.bool _)) rfl rfl rfl trivial ?_)
        refine So.q rfl rfl (V.pkFalse (u := .p (.v (.bool _))) rfl rfl ?_)
        refine So.q rfl rfl (V.mv (v := .p (.v (.bool _))) rfl ?_)
        refine So.gd rfl rfl (lk rfl) (lk rfl) (fun h8 => ?_) (fun h8 => ?_)
        · have h8 := of_decide_eq_false h8
          refine A.v rfl (V.mv (v := .p (.v (.int .i64 _))) rfl ?_)
          refine So.gy rfl rfl (lk rfl) (lk rfl) ?_
          refine A.v rfl (V.bin (a := (.v (.int .i64 _))) (b := (.v (.int .i64 (300)))) (r := .v (.bool _)) rfl rfl rfl trivial ?_)
          refine So.gy rfl rfl (lk rfl) (lk rfl) ?_
          refine A.v rfl (V.mv (v := .p (.v (.bool _))) rfl ?_)
          refine So.gd rfl rfl (lk rfl) (lk rfl) (fun h9 => ?_) (fun h9 => ?_)
          · have h9 := of_decide_eq_true h9
            refine A.v rfl (V.mv (v := .p (.v (.int .i64 _))) rfl ?_)
            refine So.gy rfl rfl (lk rfl) (lk rfl) ?_
            refine A.v rfl (V.bin (a := (.v (.int .i64 _))) (b := (.v (.int .i64 (8160)))) (r := .v (.bool _)) rfl rfl rfl trivial ?_)
            refine So.gy rfl rfl (lk rfl) (lk rfl) ?_
            refine A.v rfl (V.pkTrue (u := .p (.v (.bool _))) rfl rfl ?_)
            refine So.q rfl rfl (V.pkFalse (u := .p (.v (.bool _))) rfl rfl ?_)
            refine So.e ?_
            show HT _ _ _ _ _
            refine R.cond rfl rfl (fun h10 => ?_) (fun h10 => ?_)
            · have h10 := of_decide_eq_true h10
              refine HT.seq ?_
              refine HT.region S_lawSums0_ok ?_
              refine So.q rfl rfl (V.mv (v := .p (.v (.bool true))) rfl ?_)
              refine So.q rfl rfl (V.as (v := .p (.v (.bool true))) rfl ?_)
              refine So.e ?_
              show HT _ _ _ _ _
              refine HT.ret ?_
              exact ret_ok (sg []) h rfl rfl rfl trivial ⟨trivial, trivial⟩ rfl ⟨⟨⟨le_bool (by first | with_reducible rfl | exact decide_eq_true (by first | with_reducible rfl | (rw [rexp_no (by omega)]; rfl))), trivial⟩, trivial⟩, trivial⟩
            · have h10 := of_decide_eq_false h10
              refine HT.skip ?_
              show HT _ _ _ _ _
              refine HT.seq ?_
              refine HT.drawn S_lawSums0_ok S_lawSums0_det mixed (by kernel_rfl) ?_
              refine Sd.n (lk rfl) (V.mv (v := .p (.v (.bool true))) rfl ?_)
              refine Sd.n (lk rfl) (V.mv (v := .p (.v (.bool true))) rfl ?_)
              refine Sd.gy rfl rfl (lk rfl) (lk rfl) ?_
              refine V.mv (v := .p (.bs _)) rfl ?_
              refine Sd.gy rfl rfl (lk rfl) (lk rfl) ?_
              refine V.mv (v := .p (.bs _)) rfl ?_
              refine Sd.gy rfl rfl (lk rfl) (lk rfl) ?_
              refine V.call [.p (.bs _), .p (.bs _)] 2 rfl rfl rfl rfl ⟨trivial, trivial, trivial⟩ trivial (_, _) ⟨.refl _, .refl _, trivial⟩ trivial (by first | omega | (simp only [List.drop_zero, List.take_length]; omega) | (simp; done) | (simp; omega)) (Φ := fun _ => True) (fun _ _ => trivial) (.inl ⟨trivial, trivial, trivial⟩) (v := .p (.bs _)) rfl (fun h11 => ?_)
              refine Sd.gy rfl rfl (lk rfl) (lk rfl) ?_
              refine V.cvBs ty9 rfl rfl ?_
              refine Sd.gy rfl rfl (lk rfl) (lk rfl) ?_
              refine V.mv (v := .p (.bs _)) rfl ?_
              refine Sd.gy rfl rfl (lk rfl) (lk rfl) ?_
              refine V.mv (v := .p (.bs _)) rfl ?_
              refine Sd.gy rfl rfl (lk rfl) (lk rfl) ?_
              refine V.call [.p (.bs _), .p (.bs _)] 2 rfl rfl rfl rfl ⟨trivial, trivial, trivial⟩ trivial (_, _) ⟨.refl _, .refl _, trivial⟩ trivial (by first | omega | (simp only [List.drop_zero, List.take_length]; omega) | (simp; done) | (simp; omega)) (Φ := fun _ => True) (fun _ _ => trivial) (.inl ⟨trivial, trivial, trivial⟩) (v := .p (.bs _)) rfl (fun h12 => ?_)
              refine Sd.gy rfl rfl (lk rfl) (lk rfl) ?_
              refine V.cvBs ty9 rfl rfl ?_
              refine Sd.gy rfl rfl (lk rfl) (lk rfl) ?_
              refine V.bin (a := (.str _)) (b := (.str _)) (r := .v (.bool _)) rfl rfl rfl trivial ?_
              refine Sd.n (lk rfl) (V.pkTrue (u := .p (.v (.bool _))) rfl rfl ?_)
              refine Sd.n (lk rfl) (V.mv (v := .p (.v (.bool _))) rfl ?_)
              refine Sd.gd rfl rfl (lk rfl) (lk rfl) (fun h13 => ?_) (fun h13 => ?_)
              · have h13 := of_decide_eq_true h13
                refine V.mv (v := .p (.bs _)) rfl ?_
                refine Sd.gy rfl rfl (lk rfl) (lk rfl) ?_
                refine V.mv (v := .p (.bs _)) rfl ?_
                refine Sd.gy rfl rfl (lk rfl) (lk rfl) ?_
                refine V.call [.p (.bs _), .p (.bs _)] 2 rfl rfl rfl rfl ⟨trivial, trivial, trivial⟩ trivial (_, _) ⟨.refl _, .refl _, trivial⟩ trivial (by first | omega | (simp only [List.drop_zero, List.take_length]; omega) | (simp; done) | (simp; omega)) (Φ := fun _ => True) (fun _ _ => trivial) (.inl ⟨trivial, trivial, trivial⟩) (v := .p (.bs _)) rfl (fun h14 => ?_)
                refine Sd.gy rfl rfl (lk rfl) (lk rfl) ?_
                refine V.cvBs ty9 rfl rfl ?_
                refine Sd.gy rfl rfl (lk rfl) (lk rfl) ?_
                refine V.mv (v := .p (.bs _)) rfl ?_
                refine Sd.gy rfl rfl (lk rfl) (lk rfl) ?_
                refine V.mv (v := .p (.bs _)) rfl ?_
                refine Sd.gy rfl rfl (lk rfl) (lk rfl) ?_
                refine V.call [.p (.bs _), .p (.bs _)] 2 rfl rfl rfl rfl ⟨trivial, trivial, trivial⟩ trivial (_, _) ⟨.refl _, .refl _, trivial⟩ trivial (by first | omega | (simp only [List.drop_zero, List.take_length]; omega) | (simp; done) | (simp; omega)) (Φ := fun _ => True) (fun _ _ => trivial) (.inl ⟨trivial, trivial, trivial⟩) (v := .p (.bs _)) rfl (fun h15 => ?_)
                refine Sd.gy rfl rfl (lk rfl) (lk rfl) ?_
                refine V.cvBs ty9 rfl rfl ?_
                refine Sd.gy rfl rfl (lk rfl) (lk rfl) ?_
                refine V.bin (a := (.str _)) (b := (.str _)) (r := .v (.bool _)) rfl rfl rfl trivial ?_
                refine Sd.n (lk rfl) (V.pkTrue (u := .p (.v (.bool _))) rfl rfl ?_)
                refine Sd.n (lk rfl) (V.mv (v := .p (.v (.bool _))) rfl ?_)
                refine Sd.gd rfl rfl (lk rfl) (lk rfl) (fun h16 => ?_) (fun h16 => ?_)
                · have h16 := of_decide_eq_true h16
                  refine V.ldPtrA ty28 rfl rfl rfl rfl (by first | rfl | omega | (simp; done) | (simp; omega)) ?_
                  refine Sd.gy rfl rfl (lk rfl) (lk rfl) ?_
                  refine V.mv (v := .p (.str _)) rfl ?_
                  refine Sd.gy rfl rfl (lk rfl) (lk rfl) ?_
                  refine V.mv (v := .p (.bs _)) rfl ?_
                  refine Sd.gy rfl rfl (lk rfl) (lk rfl) ?_
                  refine V.mv (v := .p (.v (.int .i64 _))) rfl ?_
                  refine Sd.gy rfl rfl (lk rfl) (lk rfl) ?_
                  refine V.call [.agg 7 _, .p (.str _), .p (.bs _), .p (.v (.int .i64 _))] 2 rfl rfl rfl rfl ⟨trivial, trivial, trivial, trivial, trivial⟩ trivial (e, m, a, n) ⟨le_agg (fun j _ => by simp only [Nat.zero_add]), .refl _, .refl _, .refl _, trivial⟩ trivial (by first | omega | (simp only [List.drop_zero, List.take_length]; omega) | (simp; done) | (simp; omega)) (Φ := fun _ => True) (fun _ _ => trivial) (.inl ⟨trivial, trivial, trivial, trivial, trivial⟩) (v := .p (.v (.slice none 0 0))) rfl (fun h17 => ?_)
                  refine Sd.gy rfl rfl (lk rfl) (lk rfl) ?_
                  refine V.cvNil ty9 rfl rfl ?_
                  refine Sd.gy rfl rfl (lk rfl) (lk rfl) ?_
                  refine V.ldPtrA ty28 rfl rfl rfl rfl (by first | rfl | omega | (simp; done) | (simp; omega)) ?_
                  refine Sd.gy rfl rfl (lk rfl) (lk rfl) ?_
                  refine V.mv (v := .p (.str _)) rfl ?_
                  refine Sd.gy rfl rfl (lk rfl) (lk rfl) ?_
                  refine V.mv (v := .p (.bs _)) rfl ?_
                  refine Sd.gy rfl rfl (lk rfl) (lk rfl) ?_
                  refine V.mv (v := .p (.v (.int .i64 _))) rfl ?_
                  refine Sd.gy rfl rfl (lk rfl) (lk rfl) ?_
                  refine V.call [.agg 7 _, .p (.str _), .p (.bs _), .p (.v (.int .i64 _))] 2 rfl rfl rfl rfl ⟨trivial, trivial, trivial, trivial, trivial⟩ trivial (e, m, a, n) ⟨le_agg (fun j _ => by simp only [Nat.zero_add]), .refl _, .refl _, .refl _, trivial⟩ trivial (by first | omega | (simp only [List.drop_zero, List.take_length]; omega) | (simp; done) | (simp; omega)) (Φ := fun _ => True) (fun _ _ => trivial) (.inl ⟨trivial, trivial, trivial, trivial, trivial⟩) (v := .p (.bs _)) rfl (fun h18 => ?_)
                  refine Sd.gy rfl rfl (lk rfl) (lk rfl) ?_
                  refine V.cvBs ty9 rfl rfl ?_
                  refine Sd.gy rfl rfl (lk rfl) (lk rfl) ?_
                  refine V.bin (a := (.str _)) (b := (.str _)) (r := .v (.bool _)) rfl rfl rfl trivial ?_
                  refine Sd.n (lk rfl) (V.pkTrue (u := .p (.v (.bool _))) rfl rfl ?_)
                  refine Sd.n (lk rfl) (V.as (v := .p (.v (.bool _))) rfl ?_)
                  refine Sd.e ?_
                  show HT _ _ _ _ _
                  refine HT.ret ?_
                  exact ret_ok (sg []) h rfl rfl rfl trivial ⟨trivial, trivial⟩ rfl ⟨⟨⟨le_bool (by first | with_reducible rfl | exact decide_eq_true (by first | with_reducible rfl | (rw [rexp_no (by omega)]; rfl))), trivial⟩, trivial⟩, trivial⟩
                · have h16 := of_decide_eq_false h16
                  first | exact absurd (by first | with_reducible rfl | (simp only [take_full]; done) | (rw [rexp_no (by omega)]; rfl)) h16 | exact absurd h16 (by first | with_reducible rfl | (simp only [take_full]; done) | (rw [rexp_no (by omega)]; rfl))
              · have h13 := of_decide_eq_false h13
                first | exact absurd (by first | with_reducible rfl | (simp only [take_full]; done) | (rw [rexp_no (by omega)]; rfl)) h13 | exact absurd h13 (by first | with_reducible rfl | (simp only [take_full]; done) | (rw [rexp_no (by omega)]; rfl))
          · have h9 := of_decide_eq_false h9
            refine So.gn (b := false) rfl rfl rfl (lk rfl) (lk rfl) ?_
            refine So.gy rfl rfl (lk rfl) (lk rfl) ?_
            refine A.v rfl (V.pkFalse (u := .p (.v (.bool false))) rfl rfl ?_)
            refine So.q rfl rfl (V.pkFalse (u := .p (.v (.bool false))) rfl rfl ?_)
            refine So.e ?_
            show HT _ _ _ _ _
            refine R.condF rfl ?_
            refine HT.skip ?_
            show HT _ _ _ _ _
            refine HT.seq ?_
            refine HT.drawn S_lawSums0_ok S_lawSums0_det mixed (by kernel_rfl) ?_
            refine Sd.n (lk rfl) (V.mv (v := .p (.v (.bool true))) rfl ?_)
            refine Sd.n (lk rfl) (V.mv (v := .p (.v (.bool true))) rfl ?_)
            refine Sd.gy rfl rfl (lk rfl) (lk rfl) ?_
            refine V.mv (v := .p (.bs _)) rfl ?_
            refine Sd.gy rfl rfl (lk rfl) (lk rfl) ?_
            refine V.mv (v := .p (.bs _)) rfl ?_
            refine Sd.gy rfl rfl (lk rfl) (lk rfl) ?_
            refine V.call [.p (.bs _), .p (.bs _)] 2 rfl rfl rfl rfl ⟨trivial, trivial, trivial⟩ trivial (_, _) ⟨.refl _, .refl _, trivial⟩ trivial (by first | omega | (simp only [List.drop_zero, List.take_length]; omega) | (simp; done) | (simp; omega)) (Φ := fun _ => True) (fun _ _ => trivial) (.inl ⟨trivial, trivial, trivial⟩) (v := .p (.bs _)) rfl (fun h19 => ?_)
            refine Sd.gy rfl rfl (lk rfl) (lk rfl) ?_
            refine V.cvBs ty9 rfl rfl ?_
            refine Sd.gy rfl rfl (lk rfl) (lk rfl) ?_
            refine V.mv (v := .p (.bs _)) rfl ?_
            refine Sd.gy rfl rfl (lk rfl) (lk rfl) ?_
            refine V.mv (v := .p (.bs _)) rfl ?_
            refine Sd.gy rfl rfl (lk rfl) (lk rfl) ?_
            refine V.call [.p (.bs _), .p (.bs _)] 2 rfl rfl rfl rfl ⟨trivial, trivial, trivial⟩ trivial (_, _) ⟨.refl _, .refl _, trivial⟩ trivial (by first | omega | (simp only [List.drop_zero, List.take_length]; omega) | (simp; done) | (simp; omega)) (Φ := fun _ => True) (fun _ _ => trivial) (.inl ⟨trivial, trivial, trivial⟩) (v := .p (.bs _)) rfl (fun h20 => ?_)
            refine Sd.gy rfl rfl (lk rfl) (lk rfl) ?_
            refine V.cvBs ty9 rfl rfl ?_
            refine Sd.gy rfl rfl (lk rfl) (lk rfl) ?_
            refine V.bin (a := (.str _)) (b := (.str _)) (r := .v (.bool _)) rfl rfl rfl trivial ?_
            refine Sd.n (lk rfl) (V.pkTrue (u := .p (.v (.bool _))) rfl rfl ?_)
            refine Sd.n (lk rfl) (V.mv (v := .p (.v (.bool _))) rfl ?_)
            refine Sd.gd rfl rfl (lk rfl) (lk rfl) (fun h21 => ?_) (fun h21 => ?_)
            · have h21 := of_decide_eq_true h21
              refine V.mv (v := .p (.bs _)) rfl ?_
              refine Sd.gy rfl rfl (lk rfl) (lk rfl) ?_
              refine V.mv (v := .p (.bs _)) rfl ?_
              refine Sd.gy rfl rfl (lk rfl) (lk rfl) ?_
              refine V.call [.p (.bs _), .p (.bs _)] 2 rfl rfl rfl rfl ⟨trivial, trivial, trivial⟩ trivial (_, _) ⟨.refl _, .refl _, trivial⟩ trivial (by first | omega | (simp only [List.drop_zero, List.take_length]; omega) | (simp; done) | (simp; omega)) (Φ := fun _ => True) (fun _ _ => trivial) (.inl ⟨trivial, trivial, trivial⟩) (v := .p (.bs _)) rfl (fun h22 => ?_)
              refine Sd.gy rfl rfl (lk rfl) (lk rfl) ?_
              refine V.cvBs ty9 rfl rfl ?_
              refine Sd.gy rfl rfl (lk rfl) (lk rfl) ?_
              refine V.mv (v := .p (.bs _)) rfl ?_
              refine Sd.gy rfl rfl (lk rfl) (lk rfl) ?_
              refine V.mv (v := .p (.bs _)) rfl ?_
              refine Sd.gy rfl rfl (lk rfl) (lk rfl) ?_
              refine V.call [.p (.bs _), .p (.bs _)] 2 rfl rfl rfl rfl ⟨trivial, trivial, trivial⟩ trivial (_, _) ⟨.refl _, .refl _, trivial⟩ trivial (by first | omega | (simp only [List.drop_zero, List.take_length]; omega) | (simp; done) | (simp; omega)) (Φ := fun _ => True) (fun _ _ => trivial) (.inl ⟨trivial, trivial, trivial⟩) (v := .p (.bs _)) rfl (fun h23 => ?_)
              refine Sd.gy rfl rfl (lk rfl) (lk rfl) ?_
              refine V.cvBs ty9 rfl rfl ?_
              refine Sd.gy rfl rfl (lk rfl) (lk rfl) ?_
              refine V.bin (a := (.str _)) (b := (.str _)) (r := .v (.bool _)) rfl rfl rfl trivial ?_
              refine Sd.n (lk rfl) (V.pkTrue (u := .p (.v (.bool _))) rfl rfl ?_)
              refine Sd.n (lk rfl) (V.mv (v := .p (.v (.bool _))) rfl ?_)
              refine Sd.gd rfl rfl (lk rfl) (lk rfl) (fun h24 => ?_) (fun h24 => ?_)
              · have h24 := of_decide_eq_true h24
                refine V.ldPtrA ty28 rfl rfl rfl rfl (by first | rfl | omega | (simp; done) | (simp; omega)) ?_
                refine Sd.gy rfl rfl (lk rfl) (lk rfl) ?_
                refine V.mv (v := .p (.str _)) rfl ?_
                refine Sd.gy rfl rfl (lk rfl) (lk rfl) ?_
                refine V.mv (v := .p (.bs _)) rfl ?_
                refine Sd.gy rfl rfl (lk rfl) (lk rfl) ?_
                refine V.mv (v := .p (.v (.int .i64 _))) rfl ?_
                refine Sd.gy rfl rfl (lk rfl) (lk rfl) ?_
                refine V.call [.agg 7 _, .p (.str _), .p (.bs _), .p (.v (.int .i64 _))] 2 rfl rfl rfl rfl ⟨trivial, trivial, trivial, trivial, trivial⟩ trivial (e, m, a, n) ⟨le_agg (fun j _ => by simp only [Nat.zero_add]), .refl _, .refl _, .refl _, trivial⟩ trivial (by first | omega | (simp only [List.drop_zero, List.take_length]; omega) | (simp; done) | (simp; omega)) (Φ := fun _ => True) (fun _ _ => trivial) (.inl ⟨trivial, trivial, trivial, trivial, trivial⟩) (v := .p (.v (.slice none 0 0))) rfl (fun h25 => ?_)
                refine Sd.gy rfl rfl (lk rfl) (lk rfl) ?_
                refine V.cvNil ty9 rfl rfl ?_
                refine Sd.gy rfl rfl (lk rfl) (lk rfl) ?_
                refine V.ldPtrA ty28 rfl rfl rfl rfl (by first | rfl | omega | (simp; done) | (simp; omega)) ?_
                refine Sd.gy rfl rfl (lk rfl) (lk rfl) ?_
                refine V.mv (v := .p (.str _)) rfl ?_
                refine Sd.gy rfl rfl (lk rfl) (lk rfl) ?_
                refine V.mv (v := .p (.bs _)) rfl ?_
                refine Sd.gy rfl rfl (lk rfl) (lk rfl) ?_
                refine V.mv (v := .p (.v (.int .i64 _))) rfl ?_
                refine Sd.gy rfl rfl (lk rfl) (lk rfl) ?_
                refine V.call [.agg 7 _, .p (.str _), .p (.bs _), .p (.v (.int .i64 _))] 2 rfl rfl rfl rfl ⟨trivial, trivial, trivial, trivial, trivial⟩ trivial (e, m, a, n) ⟨le_agg (fun j _ => by simp only [Nat.zero_add]), .refl _, .refl _, .refl _, trivial⟩ trivial (by first | omega | (simp only [List.drop_zero, List.take_length]; omega) | (simp; done) | (simp; omega)) (Φ := fun _ => True) (fun _ _ => trivial) (.inl ⟨trivial, trivial, trivial, trivial, trivial⟩) (v := .p (.bs _)) rfl (fun h26 => ?_)
                refine Sd.gy rfl rfl (lk rfl) (lk rfl) ?_
                refine V.cvBs ty9 rfl rfl ?_
                refine Sd.gy rfl rfl (lk rfl) (lk rfl) ?_
                refine V.bin (a := (.str _)) (b := (.str _)) (r := .v (.bool _)) rfl rfl rfl trivial ?_
                refine Sd.n (lk rfl) (V.pkTrue (u := .p (.v (.bool _))) rfl rfl ?_)
                refine Sd.n (lk rfl) (V.as (v := .p (.v (.bool _))) rfl ?_)
                refine Sd.e ?_
                show HT _ _ _ _ _
                refine HT.ret ?_
                exact ret_ok (sg []) h rfl rfl rfl trivial ⟨trivial, trivial⟩ rfl ⟨⟨⟨le_bool (by first | with_reducible rfl | exact decide_eq_true (by first | with_reducible rfl | (rw [rexp_no (by omega)]; rfl))), trivial⟩, trivial⟩, trivial⟩
              · have h24 := of_decide_eq_false h24
                first | exact absurd (by first | with_reducible rfl | (simp only [take_full]; done) | (rw [rexp_no (by omega)]; rfl)) h24 | exact absurd h24 (by first | with_reducible rfl | (simp only [take_full]; done) | (rw [rexp_no (by omega)]; rfl))
            · have h21 := of_decide_eq_false h21
              first | exact absurd (by first | with_reducible rfl | (simp only [take_full]; done) | (rw [rexp_no (by omega)]; rfl)) h21 | exact absurd h21 (by first | with_reducible rfl | (simp only [take_full]; done) | (rw [rexp_no (by omega)]; rfl))
        · have h8 := of_decide_eq_true h8
          refine So.gn (b := true) rfl rfl rfl (lk rfl) (lk rfl) ?_
          refine So.gn (b := true) rfl rfl rfl (lk rfl) (lk rfl) ?_
          refine So.gu rfl rfl (lk rfl) ?_
          refine So.gu rfl rfl (lk rfl) ?_
          refine So.gn (b := true) rfl rfl rfl (lk rfl) (lk rfl) ?_
          refine So.q rfl rfl (V.pkTrue (u := .p (.v (.bool true))) rfl rfl ?_)
          refine So.e ?_
          show HT _ _ _ _ _
          refine R.condT rfl ?_
          refine HT.seq ?_
          refine HT.region S_lawSums0_ok ?_
          refine So.q rfl rfl (V.mv (v := .p (.v (.bool true))) rfl ?_)
          refine So.q rfl rfl (V.as (v := .p (.v (.bool true))) rfl ?_)
          refine So.e ?_
          show HT _ _ _ _ _
          refine HT.ret ?_
          exact ret_ok (sg []) h rfl rfl rfl trivial ⟨trivial, trivial⟩ rfl ⟨⟨⟨le_bool (by first | with_reducible rfl | exact decide_eq_true (by first | with_reducible rfl | (rw [rexp_no (by omega)]; rfl))), trivial⟩, trivial⟩, trivial⟩
      · have h7 := of_decide_eq_true h7
        refine So.gn (b := true) rfl rfl rfl (lk rfl) (lk rfl) ?_
        refine So.gn (b := true) rfl rfl rfl (lk rfl) (lk rfl) ?_
        refine So.q rfl rfl (V.pkTrue (u := .p (.v (.bool true))) rfl rfl ?_)
        refine So.q rfl rfl (V.mv (v := .p (.v (.bool true))) rfl ?_)
        refine So.gn (b := true) rfl rfl rfl (lk rfl) (lk rfl) ?_
        refine So.gn (b := true) rfl rfl rfl (lk rfl) (lk rfl) ?_
        refine So.gn (b := true) rfl rfl rfl (lk rfl) (lk rfl) ?_
        refine So.gu rfl rfl (lk rfl) ?_
        refine So.gu rfl rfl (lk rfl) ?_
        refine So.gn (b := true) rfl rfl rfl (lk rfl) (lk rfl) ?_
        refine So.q rfl rfl (V.pkTrue (u := .p (.v (.bool true))) rfl rfl ?_)
        refine So.e ?_
        show HT _ _ _ _ _
        refine R.condT rfl ?_
        refine HT.seq ?_
        refine HT.region S_lawSums0_ok ?_
        refine So.q rfl rfl (V.mv (v := .p (.v (.bool true))) rfl ?_)
        refine So.q rfl rfl (V.as (v := .p (.v (.bool true))) rfl ?_)
        refine So.e ?_
        show HT _ _ _ _ _
        refine HT.ret ?_
        exact ret_ok (sg []) h rfl rfl rfl trivial ⟨trivial, trivial⟩ rfl ⟨⟨⟨le_bool (by first | with_reducible rfl | exact decide_eq_true (by first | with_reducible rfl | (rw [rexp_no (by omega)]; rfl))), trivial⟩, trivial⟩, trivial⟩
    · have h5 := of_decide_eq_true h5
      refine So.gn (b := true) rfl rfl rfl (lk rfl) (lk rfl) ?_
      refine So.gn (b := true) rfl rfl rfl (lk rfl) (lk rfl) ?_
      refine So.q rfl rfl (V.pkTrue (u := .p (.v (.bool true))) rfl rfl ?_)
      refine So.q rfl rfl (V.mv (v := .p (.v (.bool true))) rfl ?_)
      refine So.gn (b := true) rfl rfl rfl (lk rfl) (lk rfl) ?_
      refine So.gn (b := true) rfl rfl rfl (lk rfl) (lk rfl) ?_
      refine So.gn (b := true) rfl rfl rfl (lk rfl) (lk rfl) ?_
      refine So.q rfl rfl (V.pkTrue (u := .p (.v (.bool true))) rfl rfl ?_)
      refine So.q rfl rfl (V.mv (v := .p (.v (.bool true))) rfl ?_)
      refine So.gn (b := true) rfl rfl rfl (lk rfl) (lk rfl) ?_
      refine So.gn (b := true) rfl rfl rfl (lk rfl) (lk rfl) ?_
      refine So.gn (b := true) rfl rfl rfl (lk rfl) (lk rfl) ?_
      refine So.gu rfl rfl (lk rfl) ?_
      refine So.gu rfl rfl (lk rfl) ?_
      refine So.gn (b := true) rfl rfl rfl (lk rfl) (lk rfl) ?_
      refine So.q rfl rfl (V.pkTrue (u := .p (.v (.bool true))) rfl rfl ?_)
      refine So.e ?_
      show HT _ _ _ _ _
      refine R.condT rfl ?_
      refine HT.seq ?_
      refine HT.region S_lawSums0_ok ?_
      refine So.q rfl rfl (V.mv (v := .p (.v (.bool true))) rfl ?_)
      refine So.q rfl rfl (V.as (v := .p (.v (.bool true))) rfl ?_)
      refine So.e ?_
      show HT _ _ _ _ _
      refine HT.ret ?_
      exact ret_ok (sg []) h rfl rfl rfl trivial ⟨trivial, trivial⟩ rfl ⟨⟨⟨le_bool (by first | with_reducible rfl | exact decide_eq_true (by first | with_reducible rfl | (rw [rexp_no (by omega)]; rfl))), trivial⟩, trivial⟩, trivial⟩
  · have h3 := of_decide_eq_true h3
    refine So.gn (b := true) rfl rfl rfl (lk rfl) (lk rfl) ?_
    refine So.q rfl rfl (V.pkTrue (u := .p (.v (.bool true))) rfl rfl ?_)
    refine So.q rfl rfl (V.mv (v := .p (.v (.bool true))) rfl ?_)
    refine So.gn (b := true) rfl rfl rfl (lk rfl) (lk rfl) ?_
    refine So.gn (b := true) rfl rfl rfl (lk rfl) (lk rfl) ?_
    refine So.gn (b := true) rfl rfl rfl (lk rfl) (lk rfl) ?_
    refine So.q rfl rfl (V.pkTrue (u := .p (.v (.bool true))) rfl rfl ?_)
    refine So.q rfl rfl (V.mv (v := .p (.v (.bool true))) rfl ?_)
    refine So.gn (b := true) rfl rfl rfl (lk rfl) (lk rfl) ?_
    refine So.gn (b := true) rfl rfl rfl (lk rfl) (lk rfl) ?_
    refine So.gn (b := true) rfl rfl rfl (lk rfl) (lk rfl) ?_
    refine So.q rfl rfl (V.pkTrue (u := .p (.v (.bool true))) rfl rfl ?_)
    refine So.q rfl rfl (V.mv (v := .p (.v (.bool true))) rfl ?_)
    refine So.gn (b := true) rfl rfl rfl (lk rfl) (lk rfl) ?_
    refine So.gn (b := true) rfl rfl rfl (lk rfl) (lk rfl) ?_
    refine So.gn (b := true) rfl rfl rfl (lk rfl) (lk rfl) ?_
    refine So.gu rfl rfl (lk rfl) ?_
    refine So.gu rfl rfl (lk rfl) ?_
    refine So.gn (b := true) rfl rfl rfl (lk rfl) (lk rfl) ?_
    refine So.q rfl rfl (V.pkTrue (u := .p (.v (.bool true))) rfl rfl ?_)
    refine So.e ?_
    show HT _ _ _ _ _
    refine R.condT rfl ?_
    refine HT.seq ?_
    refine HT.region S_lawSums0_ok ?_
    refine So.q rfl rfl (V.mv (v := .p (.v (.bool true))) rfl ?_)
    refine So.q rfl rfl (V.as (v := .p (.v (.bool true))) rfl ?_)
    refine So.e ?_
    show HT _ _ _ _ _
    refine HT.ret ?_
    exact ret_ok (sg []) h rfl rfl rfl trivial ⟨trivial, trivial⟩ rfl ⟨⟨⟨le_bool (by first | with_reducible rfl | exact decide_eq_true (by first | with_reducible rfl | (rw [rexp_no (by omega)]; rfl))), trivial⟩, trivial⟩, trivial⟩

end Go.Vh
