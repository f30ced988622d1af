/- What is proved: each function of the seat's program does what its contract says, wherever it is called; no condition. -/
import Derived.Test.YtnmdiehdchfelaaDoorWalk0
import Derived.Test.YtnmdiehdchfelaaDoorPure0
set_option linter.unusedVariables false
set_option linter.unusedSimpArgs false
set_option linter.unusedVariables false
set_option linter.unusedSimpArgs false
namespace Go.Vh
open Go Go.Vc Go.Proofs

/-! ### sodality/hkdf.Label -/
def hlabelSp : Sp := ⟨[], mkE (α := (List UInt8) × (List UInt8) × (List UInt8) × Int) (fun (k, m, c, n) => [.p (.bs (k)), .p (.str (m)), .p (.bs (c)), .p (.v (.int .i64 (n)))]) (fun (k, m, c, n) => []) (fun (k, m, c, n) => k.length ≤ 1000000000) (fun (k, m, c, n) => [.own 2 (0) ((labelF k m c n).length)]) (fun (k, m, c, n) => [(2, ⟨5, 1, (labelF k m c n).length, true, .bs (labelF k m c n)⟩)])⟩
def S_hlabel : FuncId → Option Sp := fun f => if f = 24 then some longSp else if f = 23 then some concatSp else if f = 12 then some hexpandSp else none
theorem S_hlabel_ok : ∀ f s, S_hlabel f = some s → FOK Tryd.prog gl f s := fun f s h => by
  unfold S_hlabel at h
  split at h
  · rename_i e; cases h; subst e; exact long_ok
  split at h
  · rename_i e; cases h; subst e; exact concat_ok
  split at h
  · rename_i e; cases h; subst e; exact hexpand_ok
  cases h
theorem S_hlabel_det : ∀ f s, S_hlabel f = some s → SpDet s.sp := fun f s h => by
  unfold S_hlabel at h
  split at h
  · cases h; exact mkE_det _ _ _ _ _
  split at h
  · cases h; exact mkE_det _ _ _ _ _
  split at h
  · cases h; exact mkE_det _ _ _ _ _
  cases h
set_option maxHeartbeats 1000000 in
set_option maxRecDepth 20000 in
theorem hlabel_ok : FOK Tryd.prog gl 14 hlabelSp := by
  refine FOK.ofE (tyOf_ok Tryd.prog) (slots := [8]) (nt := 42) Tryd.func14 rfl rfl rfl rfl (by decide) 4 (fun ⟨_, _, _, _⟩ => rfl) (by decide) (fun ⟨_, _, _, _⟩ => ⟨trivial, trivial, trivial, trivial, trivial⟩) ?_
  rintro ⟨k, m, c, n⟩ kk hlen hpre h
  have hl0 : (k).length ≤ 9223372036854775807 := hlen.1
  have hl2 : (c).length ≤ 9223372036854775807 := hlen.2.2.1
  replace hpre : k.length ≤ 1000000000 := hpre
  show HT (cx Tryd.prog 42 (tyOf Tryd.prog) gl []) _ [(0, .p (.bs (k))), (1, .p (.str (m))), (2, .p (.bs (c))), (3, .p (.v (.int .i64 (n))))] [] _
  have hl1 := longF_len (lbl ++ m)
  have hl2 := longF_len c
  have hl3 : (lbl ++ m).length = 8 + m.length := by rw [List.length_append]; rfl
  have hl4 := congrArg List.length (infoG_cat m c n)
  have hl5 : (infoG m c n).length = 2 + (longF (lbl ++ m)).length + (longF c).length := by unfold infoG; simp; omega
  refine HT.seq ?_
  refine HT.region S_hlabel_ok ?_
  refine So.n (Nat.le_of_ble_eq_true rfl) (A.v rfl (V.as (v := .p (.v (.slice none 0 0))) rfl ?_))
  refine So.e ?_
  show HT _ _ _ _ _
  refine HT.seq ?_
  refine HT.seq ?_
  refine HT.region S_hlabel_ok ?_
  refine So.n (Nat.le_of_ble_eq_true rfl) (A.v rfl (V.mv (v := .p (.v (.int .i64 _))) rfl ?_))
  refine So.n (Nat.le_of_ble_eq_true rfl) (A.v rfl (V.bin (a := (.v (.int .i64 _))) (b := (.v (.int .i64 (0)))) (r := .v (.bool _)) rfl rfl rfl trivial ?_))
  refine So.n (Nat.le_of_ble_eq_true rfl) (A.v rfl (V.mv (v := .p (.v (.bool _))) rfl ?_))
  refine So.gd rfl rfl (Nat.le_of_ble_eq_true rfl) (Nat.le_of_ble_eq_true rfl) (fun h1 => ?_) (fun h1 => ?_)
  · have h1 := of_decide_eq_false h1
    refine A.v rfl (V.mv (v := .p (.v (.int .i64 _))) rfl ?_)
    refine So.gy rfl rfl (Nat.le_of_ble_eq_true rfl) (Nat.le_of_ble_eq_true rfl) ?_
    refine A.v rfl (V.bin (a := (.v (.int .i64 _))) (b := (.v (.int .i64 (8160)))) (r := .v (.bool _)) rfl rfl rfl trivial ?_)
    refine So.n (Nat.le_of_ble_eq_true rfl) (A.v rfl (V.pkFalse (u := .p (.v (.bool _))) rfl rfl ?_))
    refine So.n (Nat.le_of_ble_eq_true rfl) (A.v rfl (V.mv (v := .p (.v (.bool _))) rfl ?_))
    refine So.gd rfl rfl (Nat.le_of_ble_eq_true rfl) (Nat.le_of_ble_eq_true rfl) (fun h2 => ?_) (fun h2 => ?_)
    · have h2 := of_decide_eq_false h2
      refine A.v rfl (V.mv (v := .p (.str _)) rfl ?_)
      refine So.gy rfl rfl (Nat.le_of_ble_eq_true rfl) (Nat.le_of_ble_eq_true rfl) ?_
      refine A.v rfl (V.lenStr ty9 rfl ?_)
      refine So.gy rfl rfl (Nat.le_of_ble_eq_true rfl) (Nat.le_of_ble_eq_true rfl) ?_
      refine A.v rfl (V.bin (a := (.v (.int .i64 _))) (b := (.v (.int .i64 (40)))) (r := .v (.bool _)) rfl rfl rfl trivial ?_)
      refine So.n (Nat.le_of_ble_eq_true rfl) (A.v rfl (V.pkFalse (u := .p (.v (.bool _))) rfl rfl ?_))
      refine So.n (Nat.le_of_ble_eq_true rfl) (A.v rfl (V.mv (v := .p (.v (.bool _))) rfl ?_))
      refine So.gd rfl rfl (Nat.le_of_ble_eq_true rfl) (Nat.le_of_ble_eq_true rfl) (fun h3 => ?_) (fun h3 => ?_)
      · have h3 := of_decide_eq_false h3
        refine A.v rfl (V.mv (v := .p (.bs _)) rfl ?_)
        refine So.gy rfl rfl (Nat.le_of_ble_eq_true rfl) (Nat.le_of_ble_eq_true rfl) ?_
        refine A.v rfl (V.len ty22 (v := .p (.bs _)) rfl rfl ?_)
        refine So.gy rfl rfl (Nat.le_of_ble_eq_true rfl) (Nat.le_of_ble_eq_true rfl) ?_
        refine A.v rfl (V.bin (a := (.v (.int .i64 _))) (b := (.v (.int .i64 (16000)))) (r := .v (.bool _)) rfl rfl rfl trivial ?_)
        refine So.n (Nat.le_of_ble_eq_true rfl) (A.v rfl (V.pkFalse (u := .p (.v (.bool _))) rfl rfl ?_))
        refine So.e ?_
        show HT _ _ _ _ _
        refine R.cond rfl rfl (fun h4 => ?_) (fun h4 => ?_)
        · have h4 := of_decide_eq_true h4
          refine HT.seq ?_
          refine HT.region S_hlabel_ok ?_
          refine So.n (Nat.le_of_ble_eq_true rfl) (A.v rfl (V.as (v := .p (.v (.slice none 0 0))) rfl ?_))
          refine So.e ?_
          show HT _ _ _ _ _
          refine R.phan 8 1 5 1 (.bs []) rfl rfl rfl ⟨rfl, rfl⟩ ?_
          refine HT.ret ?_
          exact ret_ok (sg [(2, 1)]) h rfl rfl rfl ⟨trivial, trivial⟩ ⟨rfl, trivial⟩ rfl ⟨⟨⟨le_own2 (by first | rfl | omega) (by first | (show (_ : Nat) = _; first | (rw [labelF_no (by omega)]; rfl) | (rw [labelF_yes (by omega)])) | (show (_ : List UInt8) = _; first | (rw [labelF_no (by omega)]; done) | (rw [labelF_yes (by omega)])) | rfl), rfl⟩, trivial⟩, ⟨⟨_, rfl, .inl (ob_bs (by first | rfl | ((try dsimp only); (first | (show (_ : Nat) = _; first | (rw [labelF_no (by omega)]; rfl) | (rw [labelF_yes (by omega)])) | (show (_ : List UInt8) = _; first | (rw [labelF_no (by omega)]; done) | (rw [labelF_yes (by omega)])) | rfl))) (by first | rfl | ((try dsimp only); (first | (show (_ : Nat) = _; first | (rw [labelF_no (by omega)]; rfl) | (rw [labelF_yes (by omega)])) | (show (_ : List UInt8) = _; first | (rw [labelF_no (by omega)]; done) | (rw [labelF_yes (by omega)])) | rfl)))), trivial⟩, trivial⟩⟩
        · have h4 := of_decide_eq_false h4
          refine HT.skip ?_
          show HT _ _ _ _ _
          refine HT.seq ?_
          refine HT.region S_hlabel_ok ?_
          refine So.n (Nat.le_of_ble_eq_true rfl) (A.v rfl (V.mv (v := .p (.bs _)) rfl ?_))
          refine So.n (Nat.le_of_ble_eq_true rfl) (A.v rfl (V.mv (v := .p (.v (.int .i64 _))) rfl ?_))
          refine So.n (Nat.le_of_ble_eq_true rfl) (A.v rfl (V.shrI (n := 8) (M := 256) rfl rfl rfl (by decide) ?_))
          refine So.n (Nat.le_of_ble_eq_true rfl) (A.v rfl (V.cvN ty5 ty3 (a := (.v (.int .i64 _))) (r := (.u8 _)) rfl rfl ?_))
          refine So.n (Nat.le_of_ble_eq_true rfl) (A.v rfl (V.mv (v := .p (.v (.int .i64 _))) rfl ?_))
          refine So.n (Nat.le_of_ble_eq_true rfl) (A.v rfl (V.cvN ty5 ty3 (a := (.v (.int .i64 _))) (r := (.u8 _)) rfl rfl ?_))
          refine So.n (Nat.le_of_ble_eq_true rfl) (A.bsl 1 ty22 ty5 rfl (Nat.le_of_ble_eq_true rfl) (Nat.le_of_ble_eq_true rfl) (fun _ => rfl) rfl rfl trivial ⟨trivial, trivial, trivial⟩ rfl (N := 2) rfl (c := .bs [_, _]) rfl ?_)
          refine So.n (Nat.le_of_ble_eq_true rfl) (A.v rfl (V.mv (v := .p (.str _)) rfl ?_))
          refine So.n (Nat.le_of_ble_eq_true rfl) (A.v rfl (V.bin (a := (.str [71, 75, 65, 32, 49, 46, 48, 32])) (b := (.str _)) (r := .str _) rfl rfl rfl (by first | rfl | omega | (simp; done) | (simp; omega) | (simp [maxLen]; omega)) ?_))
          refine So.n (Nat.le_of_ble_eq_true rfl) (A.cvS 2 ty22 ty5 ty9 rfl rfl (by first | rfl | omega | (simp; done) | (simp; omega) | (simp [maxLen]; omega)) rfl trivial ?_)
          refine So.n (Nat.le_of_ble_eq_true rfl) (A.call0 [.p (.bs _)] 3 rfl rfl rfl rfl ⟨trivial, trivial⟩ trivial (lbl ++ m) ⟨le_bs (by rw [take_full]; rfl), trivial⟩ trivial (by first | omega | (simp; done) | (simp; omega)) (Φ := fun _ => True) (fun _ _ => trivial) (.inr ⟨trivial, by simp [Hp.scal, OC.scal, PV.scal, BV.scal]⟩) (v := .own 5 0 _) rfl (O' := (5, ⟨5, 1, _, true, .bs _⟩) :: _) rfl (fun h5 => ?_))
          refine So.n (Nat.le_of_ble_eq_true rfl) (A.v rfl (V.mv (v := .p (.bs _)) rfl ?_))
          refine So.n (Nat.le_of_ble_eq_true rfl) (A.call0 [.p (.bs _)] 6 rfl rfl rfl rfl ⟨trivial, trivial⟩ trivial _ ⟨.refl _, trivial⟩ trivial (by first | omega | (simp; done) | (simp; omega)) (Φ := fun _ => True) (fun _ _ => trivial) (.inl rfl) (v := .own 8 0 _) rfl (O' := (8, ⟨5, 1, _, true, .bs _⟩) :: _) rfl (fun h6 => ?_))
          refine So.n (Nat.le_of_ble_eq_true rfl) (A.bsl 3 ty45 ty22 rfl (Nat.le_of_ble_eq_true rfl) (Nat.le_of_ble_eq_true rfl) (fun _ => rfl) rfl rfl trivial ⟨trivial, trivial, trivial, trivial⟩ rfl (N := 3) rfl (c := .rows _) rfl ?_)
          refine So.n (Nat.le_of_ble_eq_true rfl) (A.call0 [.p (.sl _ _ _)] 4 rfl rfl rfl rfl ⟨trivial, trivial⟩ trivial [[UInt8.ofInt (n / 256), UInt8.ofInt n], longF (lbl ++ m), longF c] ⟨le_sl rfl (by intro j hj; match j, hj with | 0, _ => rfl | 1, _ => exact congrArg PV.bs (take_full _) | 2, _ => exact congrArg PV.bs (take_full _)), trivial⟩ trivial (by first | omega | (simp; done) | (simp; omega)) (Φ := fun _ => True) (fun _ _ => trivial) (.inr ⟨trivial, by simp [Hp.scal, OC.scal, PV.scal, BV.scal]⟩) (v := .own 6 0 _) rfl (O' := (6, ⟨5, 1, _, true, .bs _⟩) :: _) rfl (fun h7 => ?_))
          refine So.n (Nat.le_of_ble_eq_true rfl) (A.v rfl (V.mv (v := .p (.v (.int .i64 _))) rfl ?_))
          refine So.n (Nat.le_of_ble_eq_true rfl) (A.call0 [.p (.bs _), .p (.bs _), .p (.v (.int .i64 _))] 7 rfl rfl rfl rfl ⟨trivial, trivial, trivial, trivial⟩ trivial (k, infoG m c n, n) ⟨.refl _, le_bs (by rw [take_full]; exact infoG_cat m c n), .refl _, trivial⟩ trivial (by first | omega | (simp; done) | (simp; omega)) (Φ := fun _ => True) (fun _ _ => trivial) (.inr ⟨trivial, by simp [Hp.scal, OC.scal, PV.scal, BV.scal]⟩) (v := .own 9 0 _) rfl (O' := (9, ⟨5, 1, _, true, .bs _⟩) :: _) rfl (fun h8 => ?_))
          refine So.n (Nat.le_of_ble_eq_true rfl) (A.v rfl (V.as (v := .own 9 0 _) rfl ?_))
          refine So.e ?_
          show HT _ _ _ _ _
          refine HT.ret ?_
          exact ret_ok (sg [(2, 9)]) h rfl rfl rfl ⟨trivial, trivial⟩ ⟨rfl, trivial⟩ rfl ⟨⟨⟨le_own2 (by first | rfl | omega) (by first | (show (_ : Nat) = _; first | (rw [labelF_no (by omega)]; rfl) | (rw [labelF_yes (by omega)])) | (show (_ : List UInt8) = _; first | (rw [labelF_no (by omega)]; done) | (rw [labelF_yes (by omega)])) | rfl), rfl⟩, trivial⟩, ⟨⟨_, rfl, .inl (ob_bs (by first | rfl | ((try dsimp only); (first | (show (_ : Nat) = _; first | (rw [labelF_no (by omega)]; rfl) | (rw [labelF_yes (by omega)])) | (show (_ : List UInt8) = _; first | (rw [labelF_no (by omega)]; done) | (rw [labelF_yes (by omega)])) | rfl))) (by first | rfl | ((try dsimp only); (first | (show (_ : Nat) = _; first | (rw [labelF_no (by omega)]; rfl) | (rw [labelF_yes (by omega)])) | (show (_ : List UInt8) = _; first | (rw [labelF_no (by omega)]; done) | (rw [labelF_yes (by omega)])) | rfl)))), trivial⟩, trivial⟩⟩
      · have h3 := of_decide_eq_true h3
        refine So.gn (b := true) rfl rfl rfl (Nat.le_of_ble_eq_true rfl) (Nat.le_of_ble_eq_true rfl) ?_
        refine So.gn (b := true) rfl rfl rfl (Nat.le_of_ble_eq_true rfl) (Nat.le_of_ble_eq_true rfl) ?_
        refine So.n (Nat.le_of_ble_eq_true rfl) (A.v rfl (V.pkTrue (u := .p (.v (.bool true))) rfl rfl ?_))
        refine So.e ?_
        show HT _ _ _ _ _
        refine R.condT rfl ?_
        refine HT.seq ?_
        refine HT.region S_hlabel_ok ?_
        refine So.n (Nat.le_of_ble_eq_true rfl) (A.v rfl (V.as (v := .p (.v (.slice none 0 0))) rfl ?_))
        refine So.e ?_
        show HT _ _ _ _ _
        refine R.phan 8 1 5 1 (.bs []) rfl rfl rfl ⟨rfl, rfl⟩ ?_
        refine HT.ret ?_
        exact ret_ok (sg [(2, 1)]) h rfl rfl rfl ⟨trivial, trivial⟩ ⟨rfl, trivial⟩ rfl ⟨⟨⟨le_own2 (by first | rfl | omega) (by first | (show (_ : Nat) = _; first | (rw [labelF_no (by omega)]; rfl) | (rw [labelF_yes (by omega)])) | (show (_ : List UInt8) = _; first | (rw [labelF_no (by omega)]; done) | (rw [labelF_yes (by omega)])) | rfl), rfl⟩, trivial⟩, ⟨⟨_, rfl, .inl (ob_bs (by first | rfl | ((try dsimp only); (first | (show (_ : Nat) = _; first | (rw [labelF_no (by omega)]; rfl) | (rw [labelF_yes (by omega)])) | (show (_ : List UInt8) = _; first | (rw [labelF_no (by omega)]; done) | (rw [labelF_yes (by omega)])) | rfl))) (by first | rfl | ((try dsimp only); (first | (show (_ : Nat) = _; first | (rw [labelF_no (by omega)]; rfl) | (rw [labelF_yes (by omega)])) | (show (_ : List UInt8) = _; first | (rw [labelF_no (by omega)]; done) | (rw [labelF_yes (by omega)])) | rfl)))), trivial⟩, trivial⟩⟩
    · have h2 := of_decide_eq_true h2
      refine So.gn (b := true) rfl rfl rfl (Nat.le_of_ble_eq_true rfl) (Nat.le_of_ble_eq_true rfl) ?_
      refine So.gn (b := true) rfl rfl rfl (Nat.le_of_ble_eq_true rfl) (Nat.le_of_ble_eq_true rfl) ?_
      refine So.n (Nat.le_of_ble_eq_true rfl) (A.v rfl (V.pkTrue (u := .p (.v (.bool true))) rfl rfl ?_))
      refine So.n (Nat.le_of_ble_eq_true rfl) (A.v rfl (V.mv (v := .p (.v (.bool true))) rfl ?_))
      refine So.gn (b := true) rfl rfl rfl (Nat.le_of_ble_eq_true rfl) (Nat.le_of_ble_eq_true rfl) ?_
      refine So.gn (b := true) rfl rfl rfl (Nat.le_of_ble_eq_true rfl) (Nat.le_of_ble_eq_true rfl) ?_
      refine So.gn (b := true) rfl rfl rfl (Nat.le_of_ble_eq_true rfl) (Nat.le_of_ble_eq_true rfl) ?_
      refine So.n (Nat.le_of_ble_eq_true rfl) (A.v rfl (V.pkTrue (u := .p (.v (.bool true))) rfl rfl ?_))
      refine So.e ?_
      show HT _ _ _ _ _
      refine R.condT rfl ?_
      refine HT.seq ?_
      refine HT.region S_hlabel_ok ?_
      refine So.n (Nat.le_of_ble_eq_true rfl) (A.v rfl (V.as (v := .p (.v (.slice none 0 0))) rfl ?_))
      refine So.e ?_
      show HT _ _ _ _ _
      refine R.phan 8 1 5 1 (.bs []) rfl rfl rfl ⟨rfl, rfl⟩ ?_
      refine HT.ret ?_
      exact ret_ok (sg [(2, 1)]) h rfl rfl rfl ⟨trivial, trivial⟩ ⟨rfl, trivial⟩ rfl ⟨⟨⟨le_own2 (by first | rfl | omega) (by first | (show (_ : Nat) = _; first | (rw [labelF_no (by omega)]; rfl) | (rw [labelF_yes (by omega)])) | (show (_ : List UInt8) = _; first | (rw [labelF_no (by omega)]; done) | (rw [labelF_yes (by omega)])) | rfl), rfl⟩, trivial⟩, ⟨⟨_, rfl, .inl (ob_bs (by first | rfl | ((try dsimp only); (first | (show (_ : Nat) = _; first | (rw [labelF_no (by omega)]; rfl) | (rw [labelF_yes (by omega)])) | (show (_ : List UInt8) = _; first | (rw [labelF_no (by omega)]; done) | (rw [labelF_yes (by omega)])) | rfl))) (by first | rfl | ((try dsimp only); (first | (show (_ : Nat) = _; first | (rw [labelF_no (by omega)]; rfl) | (rw [labelF_yes (by omega)])) | (show (_ : List UInt8) = _; first | (rw [labelF_no (by omega)]; done) | (rw [labelF_yes (by omega)])) | rfl)))), trivial⟩, trivial⟩⟩
  · have h1 := of_decide_eq_true h1
    refine So.gn (b := true) rfl rfl rfl (Nat.le_of_ble_eq_true rfl) (Nat.le_of_ble_eq_true rfl) ?_
    refine So.n (Nat.le_of_ble_eq_true rfl) (A.v rfl (V.pkTrue (u := .p (.v (.bool true))) rfl rfl ?_))
    refine So.n (Nat.le_of_ble_eq_true rfl) (A.v rfl (V.mv (v := .p (.v (.bool true))) rfl ?_))
    refine So.gn (b := true) rfl rfl rfl (Nat.le_of_ble_eq_true rfl) (Nat.le_of_ble_eq_true rfl) ?_
    refine So.gn (b := true) rfl rfl rfl (Nat.le_of_ble_eq_true rfl) (Nat.le_of_ble_eq_true rfl) ?_
    refine So.gn (b := true) rfl rfl rfl (Nat.le_of_ble_eq_true rfl) (Nat.le_of_ble_eq_true rfl) ?_
    refine So.n (Nat.le_of_ble_eq_true rfl) (A.v rfl (V.pkTrue (u := .p (.v (.bool true))) rfl rfl ?_))
    refine So.n (Nat.le_of_ble_eq_true rfl) (A.v rfl (V.mv (v := .p (.v (.bool true))) rfl ?_))
    refine So.gn (b := true) rfl rfl rfl (Nat.le_of_ble_eq_true rfl) (Nat.le_of_ble_eq_true rfl) ?_
    refine So.gn (b := true) rfl rfl rfl (Nat.le_of_ble_eq_true rfl) (Nat.le_of_ble_eq_true rfl) ?_
    refine So.gn (b := true) rfl rfl rfl (Nat.le_of_ble_eq_true rfl) (Nat.le_of_ble_eq_true rfl) ?_
    refine So.n (Nat.le_of_ble_eq_true rfl) (A.v rfl (V.pkTrue (u := .p (.v (.bool true))) rfl rfl ?_))
    refine So.e ?_
    show HT _ _ _ _ _
    refine R.condT rfl ?_
    refine HT.seq ?_
    refine HT.region S_hlabel_ok ?_
    refine So.n (Nat.le_of_ble_eq_true rfl) (A.v rfl (V.as (v := .p (.v (.slice none 0 0))) rfl ?_))
    refine So.e ?_
    show HT _ _ _ _ _
    refine R.phan 8 1 5 1 (.bs []) rfl rfl rfl ⟨rfl, rfl⟩ ?_
    refine HT.ret ?_
    exact ret_ok (sg [(2, 1)]) h rfl rfl rfl ⟨trivial, trivial⟩ ⟨rfl, trivial⟩ rfl ⟨⟨⟨le_own2 (by first | rfl | omega) (by first | (show (_ : Nat) = _; first | (rw [labelF_no (by omega)]; rfl) | (rw [labelF_yes (by omega)])) | (show (_ : List UInt8) = _; first | (rw [labelF_no (by omega)]; done) | (rw [labelF_yes (by omega)])) | rfl), rfl⟩, trivial⟩, ⟨⟨_, rfl, .inl (ob_bs (by first | rfl | ((try dsimp only); (first | (show (_ : Nat) = _; first | (rw [labelF_no (by omega)]; rfl) | (rw [labelF_yes (by omega)])) | (show (_ : List UInt8) = _; first | (rw [labelF_no (by omega)]; done) | (rw [labelF_yes (by omega)])) | rfl))) (by first | rfl | ((try dsimp only); (first | (show (_ : Nat) = _; first | (rw [labelF_no (by omega)]; rfl) | (rw [labelF_yes (by omega)])) | (show (_ : List UInt8) = _; first | (rw [labelF_no (by omega)]; done) | (rw [labelF_yes (by omega)])) | rfl)))), trivial⟩, trivial⟩⟩

end Go.Vh

set_option linter.unusedVariables false
set_option linter.unusedSimpArgs false
namespace Go.Vh
open Go Go.Vc Go.Proofs

/-! ### sodality/sodalitylaw03.great -/
def greatSp : Sp := ⟨[], mkE (α := (List UInt8)) (fun b => [.p (.bs (b))]) (fun b => []) (fun b => True) (fun b => [.p (.v (.bool (decide (17000 < (b.length : Int)))))]) (fun b => [])⟩
def S_great : FuncId → Option Sp := fun _ => none
theorem S_great_ok : ∀ f s, S_great f = some s → FOK Tryd.prog gl f s := fun f s h => by cases h
theorem S_great_det : ∀ f s, S_great f = some s → SpDet s.sp := fun f s h => by cases h
set_option maxHeartbeats 1000000 in
set_option maxRecDepth 1000 in
theorem great_ok : FOK Tryd.prog gl 11 greatSp := by
  refine FOK.ofE (tyOf_ok Tryd.prog) (slots := [2]) (nt := 6) Tryd.func11 rfl rfl rfl rfl (by decide) 1 (fun _ => rfl) (by decide) (fun _ => ⟨trivial, trivial⟩) ?_
  rintro b kk hlen hpre h
  have hl0 : (b).length ≤ 9223372036854775807 := hlen.1
  replace hpre : True := hpre
  show HT (cx Tryd.prog 6 (tyOf Tryd.prog) gl []) _ [(0, .p (.bs (b)))] [] _
  refine HT.seq ?_
  refine HT.region S_great_ok ?_
  refine So.n (Nat.le_of_ble_eq_true rfl) (A.v rfl (V.as (v := .p (.v (.bool false))) rfl ?_))
  refine So.e ?_
  show HT _ _ _ _ _
  refine HT.seq ?_
  refine HT.region S_great_ok ?_
  refine So.n (Nat.le_of_ble_eq_true rfl) (A.v rfl (V.mv (v := .p (.bs _)) rfl ?_))
  refine So.n (Nat.le_of_ble_eq_true rfl) (A.v rfl (V.len ty22 (v := .p (.bs _)) rfl rfl ?_))
  refine So.n (Nat.le_of_ble_eq_true rfl) (A.v rfl (V.bin (a := (.v (.int .i64 _))) (b := (.v (.int .i64 (17000)))) (r := .v (.bool _)) rfl rfl rfl trivial ?_))
  refine So.n (Nat.le_of_ble_eq_true rfl) (A.v rfl (V.as (v := .p (.v (.bool _))) rfl ?_))
  refine So.e ?_
  show HT _ _ _ _ _
  refine HT.ret ?_
  exact ret_ok (sg []) h rfl rfl rfl trivial ⟨trivial, trivial⟩ rfl ⟨⟨⟨le_bool (by first | rfl | omega | (simp; done) | (simp; omega)), trivial⟩, trivial⟩, trivial⟩

/-! ### sodality/sodalitylaw03.head -/
def headSp : Sp := ⟨[], mkE (α := Unit) (fun _ => []) (fun _ => []) (fun _ => True) (fun _ => [.p (.v (.bool true))]) (fun _ => [])⟩
def S_head : FuncId → Option Sp := fun f => if f = 15 then some hmacSp else if f = 10 then some equalSp else if f = 12 then some hexpandSp else if f = 14 then some hlabelSp else none
theorem S_head_ok : ∀ f s, S_head f = some s → FOK Tryd.prog gl f s := fun f s h => by
  unfold S_head at h
  split at h
  · rename_i e; cases h; subst e; exact hmac_ok
  split at h
  · rename_i e; cases h; subst e; exact equal_ok
  split at h
  · rename_i e; cases h; subst e; exact hexpand_ok
  split at h
  · rename_i e; cases h; subst e; exact hlabel_ok
  cases h
theorem S_head_det : ∀ f s, S_head f = some s → SpDet s.sp := fun f s h => by
  unfold S_head at h
  split at h
  · cases h; exact mkE_det _ _ _ _ _
  split at h
  · cases h; exact mkE_det _ _ _ _ _
  split at h
  · cases h; exact mkE_det _ _ _ _ _
  split at h
  · cases h; exact mkE_det _ _ _ _ _
  cases h
set_option maxHeartbeats 1000000 in
set_option maxRecDepth 20000 in
theorem head_ok : FOK Tryd.prog gl 9 headSp := by
  refine FOK.ofE (tyOf_ok Tryd.prog) (slots := [0]) (nt := 33) Tryd.func9 rfl rfl rfl rfl (by decide) 0 (fun _ => rfl) (by decide) (fun _ => trivial) ?_
  rintro _ kk hlen hpre h
  replace hpre : True := hpre
  show HT (cx Tryd.prog 33 (tyOf Tryd.prog) gl []) _ [] [] _
  have hen := expandN_len (k := nl) (i := nl) (n := 33) (by omega) (by omega)
  have hlb := labelF_no (k := nl) (nm := [120]) (c := nl) (n := 8161) (by omega)
  refine HT.seq ?_
  refine HT.region S_head_ok ?_
  refine So.n (Nat.le_of_ble_eq_true rfl) (A.v rfl (V.as (v := .p (.v (.bool false))) rfl ?_))
  refine So.e ?_
  show HT _ _ _ _ _
  refine HT.seq ?_
  refine HT.region S_head_ok ?_
  refine So.n (Nat.le_of_ble_eq_true rfl) (A.bsl 1 ty22 ty5 rfl (Nat.le_of_ble_eq_true rfl) (Nat.le_of_ble_eq_true rfl) (fun _ => rfl) rfl rfl trivial ⟨trivial, trivial, trivial, trivial⟩ rfl (N := 3) rfl (c := .bs [_, _, _]) rfl ?_)
  refine So.n (Nat.le_of_ble_eq_true rfl) (A.cvM ty22 ty5 rfl (by first | rfl | omega | (simp; done)) rfl rfl ?_)
  refine So.n (Nat.le_of_ble_eq_true rfl) (A.bsl 2 ty22 ty5 rfl (Nat.le_of_ble_eq_true rfl) (Nat.le_of_ble_eq_true rfl) (fun _ => rfl) rfl rfl trivial ⟨trivial, trivial, trivial, trivial, trivial, trivial, trivial, trivial, trivial, trivial, trivial, trivial, trivial, trivial, trivial, trivial, trivial, trivial, trivial, trivial, trivial, trivial, trivial, trivial, trivial, trivial, trivial, trivial, trivial, trivial, trivial, trivial, trivial, trivial, trivial, trivial, trivial, trivial, trivial, trivial, trivial, trivial, trivial, trivial⟩ rfl (N := 43) rfl (c := .bs [_, _, _, _, _, _, _, _, _, _, _, _, _, _, _, _, _, _, _, _, _, _, _, _, _, _, _, _, _, _, _, _, _, _, _, _, _, _, _, _, _, _, _]) rfl ?_)
  refine So.n (Nat.le_of_ble_eq_true rfl) (A.cvM ty22 ty5 rfl (by first | rfl | omega | (simp; done)) rfl rfl ?_)
  refine So.n (Nat.le_of_ble_eq_true rfl) (A.call0 [.p (.bs _), .p (.bs _)] 3 rfl rfl rfl rfl ⟨trivial, trivial, trivial⟩ trivial (_, _) ⟨.refl _, .refl _, trivial⟩ trivial (by first | omega | (simp only [List.drop_zero, List.take_length]; omega) | (simp; done) | (simp; omega)) (Φ := fun _ => True) (fun _ _ => trivial) (.inr ⟨trivial, by simp [Hp.scal, OC.scal, PV.scal, BV.scal]⟩) (v := .own 5 0 _) rfl (O' := (5, ⟨5, 1, _, true, .bs _⟩) :: _) rfl (fun h1 => ?_))
  refine So.n (Nat.le_of_ble_eq_true rfl) (A.v rfl (V.as (v := .own 5 0 _) rfl ?_))
  refine So.e ?_
  show HT _ _ _ _ _
  refine HT.seq ?_
  refine HT.region S_head_ok ?_
  refine So.n (Nat.le_of_ble_eq_true rfl) (A.v rfl (V.mv (v := .own 5 0 _) rfl ?_))
  refine So.n (Nat.le_of_ble_eq_true rfl) (A.v rfl (V.len ty22 (v := .own 5 0 _) rfl rfl ?_))
  refine So.n (Nat.le_of_ble_eq_true rfl) (A.v rfl (V.bin (a := (.v (.int .i64 _))) (b := (.v (.int .i64 (32)))) (r := .v (.bool _)) rfl rfl rfl trivial ?_))
  refine So.n (Nat.le_of_ble_eq_true rfl) (A.v rfl (V.mv (v := .p (.v (.bool _))) rfl ?_))
  refine So.gd rfl rfl (Nat.le_of_ble_eq_true rfl) (Nat.le_of_ble_eq_true rfl) (fun h2 => ?_) (fun h2 => ?_)
  · have h2 := of_decide_eq_true h2
    refine A.v rfl (V.mv (v := .own 5 0 _) rfl ?_)
    refine So.gy rfl rfl (Nat.le_of_ble_eq_true rfl) (Nat.le_of_ble_eq_true rfl) ?_
    refine A.v rfl (V.cutOwnH ty22 ty5 rfl rfl rfl rfl (by omega) (.inl rfl) rfl ?_)
    refine So.gy rfl rfl (Nat.le_of_ble_eq_true rfl) (Nat.le_of_ble_eq_true rfl) ?_
    refine A.v rfl (V.cvOwn ty9 rfl rfl rfl rfl ?_)
    refine So.gy rfl rfl (Nat.le_of_ble_eq_true rfl) (Nat.le_of_ble_eq_true rfl) ?_
    refine A.v rfl (V.bin (a := (.str _)) (b := (.str [247, 188, 131, 244])) (r := .v (.bool _)) rfl rfl rfl trivial ?_)
    refine So.n (Nat.le_of_ble_eq_true rfl) (A.v rfl (V.pkTrue (u := .p (.v (.bool _))) rfl rfl ?_))
    refine So.n (Nat.le_of_ble_eq_true rfl) (A.v rfl (V.mv (v := .p (.v (.bool _))) rfl ?_))
    refine So.gd rfl rfl (Nat.le_of_ble_eq_true rfl) (Nat.le_of_ble_eq_true rfl) (fun h3 => ?_) (fun h3 => ?_)
    · have h3 := of_decide_eq_true h3
      refine A.bsl 6 ty22 ty5 rfl (Nat.le_of_ble_eq_true rfl) (Nat.le_of_ble_eq_true rfl) (fun _ => rfl) rfl rfl trivial ⟨trivial, trivial⟩ rfl (N := 1) rfl (c := .bs [_]) rfl ?_
      refine So.gy rfl rfl (Nat.le_of_ble_eq_true rfl) (Nat.le_of_ble_eq_true rfl) ?_
      refine A.cvM ty22 ty5 rfl (by first | rfl | omega | (simp; done)) rfl rfl ?_
      refine So.gy rfl rfl (Nat.le_of_ble_eq_true rfl) (Nat.le_of_ble_eq_true rfl) ?_
      refine A.bsl 7 ty22 ty5 rfl (Nat.le_of_ble_eq_true rfl) (Nat.le_of_ble_eq_true rfl) (fun _ => rfl) rfl rfl trivial ⟨trivial, trivial⟩ rfl (N := 1) rfl (c := .bs [_]) rfl ?_
      refine So.gy rfl rfl (Nat.le_of_ble_eq_true rfl) (Nat.le_of_ble_eq_true rfl) ?_
      refine A.cvM ty22 ty5 rfl (by first | rfl | omega | (simp; done)) rfl rfl ?_
      refine So.gy rfl rfl (Nat.le_of_ble_eq_true rfl) (Nat.le_of_ble_eq_true rfl) ?_
      refine A.call0 [.p (.bs _), .p (.bs _)] 8 rfl rfl rfl rfl ⟨trivial, trivial, trivial⟩ trivial (_, _) ⟨.refl _, .refl _, trivial⟩ trivial (by trivial) (Φ := fun _ => True) (fun _ _ => trivial) (.inr ⟨trivial, by simp [Hp.scal, OC.scal, PV.scal, BV.scal]⟩) (v := .p (.v (.bool _))) rfl (O' := _) rfl (fun h4 => ?_)
      refine So.n (Nat.le_of_ble_eq_true rfl) (A.v rfl (V.pkTrue (u := .p (.v (.bool _))) rfl rfl ?_))
      refine So.n (Nat.le_of_ble_eq_true rfl) (A.v rfl (V.mv (v := .p (.v (.bool _))) rfl ?_))
      refine So.gd rfl rfl (Nat.le_of_ble_eq_true rfl) (Nat.le_of_ble_eq_true rfl) (fun h5 => ?_) (fun h5 => ?_)
      · have h5 := of_decide_eq_true h5
        refine A.call0 [.p (.v (.slice none 0 0)), .p (.v (.slice none 0 0)), .p (.v (.int .i64 _))] 8 rfl rfl rfl rfl ⟨trivial, trivial, trivial, trivial⟩ trivial (_, _, _) ⟨le_nil rfl, le_nil rfl, .refl _, trivial⟩ trivial (by first | omega | (simp; done) | (simp; omega)) (Φ := fun _ => True) (fun _ _ => trivial) (.inl rfl) (v := .own 10 0 _) rfl (O' := (10, ⟨5, 1, _, true, .bs _⟩) :: _) rfl (fun h6 => ?_)
        refine So.gy rfl rfl (Nat.le_of_ble_eq_true rfl) (Nat.le_of_ble_eq_true rfl) ?_
        refine A.v rfl (V.len ty22 (v := .own 10 0 _) rfl rfl ?_)
        refine So.gy rfl rfl (Nat.le_of_ble_eq_true rfl) (Nat.le_of_ble_eq_true rfl) ?_
        refine A.v rfl (V.bin (a := (.v (.int .i64 _))) (b := (.v (.int .i64 (33)))) (r := .v (.bool _)) rfl rfl rfl trivial ?_)
        refine So.n (Nat.le_of_ble_eq_true rfl) (A.v rfl (V.pkTrue (u := .p (.v (.bool _))) rfl rfl ?_))
        refine So.n (Nat.le_of_ble_eq_true rfl) (A.v rfl (V.mv (v := .p (.v (.bool _))) rfl ?_))
        refine So.gd rfl rfl (Nat.le_of_ble_eq_true rfl) (Nat.le_of_ble_eq_true rfl) (fun h7 => ?_) (fun h7 => ?_)
        · have h7 := of_decide_eq_true h7
          refine A.call0 [.p (.v (.slice none 0 0)), .p (.str _), .p (.v (.slice none 0 0)), .p (.v (.int .i64 _))] 11 rfl rfl rfl rfl ⟨trivial, trivial, trivial, trivial, trivial⟩ trivial (_, _, _, _) ⟨le_nil rfl, .refl _, le_nil rfl, .refl _, trivial⟩ trivial (by first | omega | (simp; done) | (simp; omega)) (Φ := fun _ => True) (fun _ _ => trivial) (.inl rfl) (v := .own 13 0 _) rfl (O' := (13, ⟨5, 1, _, true, .bs _⟩) :: _) rfl (fun h8 => ?_)
          refine So.gy rfl rfl (Nat.le_of_ble_eq_true rfl) (Nat.le_of_ble_eq_true rfl) ?_
          refine A.v rfl (V.len ty22 (v := .own 13 0 _) rfl rfl ?_)
          refine So.gy rfl rfl (Nat.le_of_ble_eq_true rfl) (Nat.le_of_ble_eq_true rfl) ?_
          refine A.v rfl (V.bin (a := (.v (.int .i64 _))) (b := (.v (.int .i64 (0)))) (r := .v (.bool _)) rfl rfl rfl trivial ?_)
          refine So.n (Nat.le_of_ble_eq_true rfl) (A.v rfl (V.pkTrue (u := .p (.v (.bool _))) rfl rfl ?_))
          refine So.n (Nat.le_of_ble_eq_true rfl) (A.v rfl (V.as (v := .p (.v (.bool _))) rfl ?_))
          refine So.e ?_
          show HT _ _ _ _ _
          refine HT.ret ?_
          exact ret_ok (sg []) h rfl rfl rfl trivial ⟨trivial, trivial⟩ rfl ⟨⟨⟨le_bool (by first | rfl), trivial⟩, trivial⟩, trivial⟩
        · have h7 := of_decide_eq_false h7
          first | exact absurd (by first | rfl | exact head_mac | (rw [hen]; rfl) | (rw [hlb]; rfl) | (simp; done)) h7 | exact absurd h7 (by first | rfl | exact head_mac | (rw [hen]; rfl) | (rw [hlb]; rfl) | (simp; done))
      · have h5 := of_decide_eq_false h5
        first | exact absurd (by first | rfl | exact head_mac | (rw [hen]; rfl) | (rw [hlb]; rfl) | (simp; done)) h5 | exact absurd h5 (by first | rfl | exact head_mac | (rw [hen]; rfl) | (rw [hlb]; rfl) | (simp; done))
    · have h3 := of_decide_eq_false h3
      first | exact absurd (by first | rfl | exact head_mac | (rw [hen]; rfl) | (rw [hlb]; rfl) | (simp; done)) h3 | exact absurd h3 (by first | rfl | exact head_mac | (rw [hen]; rfl) | (rw [hlb]; rfl) | (simp; done))
  · have h2 := of_decide_eq_false h2
    first | exact absurd (by first | rfl | exact head_mac | (rw [hen]; rfl) | (rw [hlb]; rfl) | (simp; done)) h2 | exact absurd h2 (by first | rfl | exact head_mac | (rw [hen]; rfl) | (rw [hlb]; rfl) | (simp; done))

end Go.Vh

set_option linter.unusedVariables false
set_option linter.unusedSimpArgs false
namespace Go.Vh
open Go Go.Vc Go.Proofs

/-! ### sodality/hkdf.Extract -/
def extractSp : Sp := ⟨[], mkE (α := (List UInt8) × (List UInt8)) (fun (k, t) => [.p (.bs (k)), .p (.bs (t))]) (fun (k, t) => []) (fun (k, t) => k.length ≤ 1000000000 ∧ t.length ≤ 1000000000) (fun (k, t) => [.own 2 (0) (32)]) (fun (k, t) => [(2, ⟨5, 1, 32, true, .bs (mac k t)⟩)])⟩
def S_extract : FuncId → Option Sp := fun f => if f = 15 then some hmacSp else none
theorem S_extract_ok : ∀ f s, S_extract f = some s → FOK Tryd.prog gl f s := fun f s h => by
  unfold S_extract at h
  split at h
  · rename_i e; cases h; subst e; exact hmac_ok
  cases h
theorem S_extract_det : ∀ f s, S_extract f = some s → SpDet s.sp := fun f s h => by
  unfold S_extract at h
  split at h
  · cases h; exact mkE_det _ _ _ _ _
  cases h
set_option maxHeartbeats 1000000 in
set_option maxRecDepth 1000 in
theorem extract_ok : FOK Tryd.prog gl 16 extractSp := by
  refine FOK.ofE (tyOf_ok Tryd.prog) (slots := [4]) (nt := 8) Tryd.func16 rfl rfl rfl rfl (by decide) 2 (fun ⟨_, _⟩ => rfl) (by decide) (fun ⟨_, _⟩ => ⟨trivial, trivial, trivial⟩) ?_
  rintro ⟨k, t⟩ kk hlen hpre h
  have hl0 : (k).length ≤ 9223372036854775807 := hlen.1
  have hl1 : (t).length ≤ 9223372036854775807 := hlen.2.1
  replace hpre : k.length ≤ 1000000000 ∧ t.length ≤ 1000000000 := hpre
  show HT (cx Tryd.prog 8 (tyOf Tryd.prog) gl []) _ [(0, .p (.bs (k))), (1, .p (.bs (t)))] [] _
  refine HT.seq ?_
  refine HT.region S_extract_ok ?_
  refine So.n (Nat.le_of_ble_eq_true rfl) (A.v rfl (V.as (v := .p (.v (.slice none 0 0))) rfl ?_))
  refine So.e ?_
  show HT _ _ _ _ _
  refine HT.seq ?_
  refine HT.region S_extract_ok ?_
  refine So.n (Nat.le_of_ble_eq_true rfl) (A.v rfl (V.mv (v := .p (.bs _)) rfl ?_))
  refine So.n (Nat.le_of_ble_eq_true rfl) (A.v rfl (V.mv (v := .p (.bs _)) rfl ?_))
  refine So.n (Nat.le_of_ble_eq_true rfl) (A.call0 [.p (.bs _), .p (.bs _)] 1 rfl rfl rfl rfl ⟨trivial, trivial, trivial⟩ trivial (_, _) ⟨.refl _, .refl _, trivial⟩ trivial (by first | omega | (simp only [List.drop_zero, List.take_length]; omega) | (simp; done) | (simp; omega)) (Φ := fun _ => True) (fun _ _ => trivial) (.inl rfl) (v := .own 3 0 _) rfl (O' := (3, ⟨5, 1, _, true, .bs _⟩) :: _) rfl (fun h1 => ?_))
  refine So.n (Nat.le_of_ble_eq_true rfl) (A.v rfl (V.as (v := .own 3 0 _) rfl ?_))
  refine So.e ?_
  show HT _ _ _ _ _
  refine HT.ret ?_
  exact ret_ok (sg [(2, 3)]) h rfl rfl rfl ⟨trivial, trivial⟩ ⟨rfl, trivial⟩ rfl ⟨⟨⟨le_own2 (by first | rfl | omega) (by first | rfl | omega | (simp; done) | (simp; omega)), rfl⟩, trivial⟩, ⟨⟨_, rfl, .inl (ob_bs (by first | rfl | ((try dsimp only); (first | rfl | omega | (simp; done) | (simp; omega)))) (by first | rfl | ((try dsimp only); (first | rfl | omega | (simp; done) | (simp; omega))))), trivial⟩, trivial⟩⟩

end Go.Vh

set_option linter.unusedVariables false
set_option linter.unusedSimpArgs false
namespace Go.Vh
open Go Go.Vc Go.Proofs

/-! ### sodality/sodalitylaw03.HkdfParts -/
def lawPartsSp : Sp := ⟨[], mkE (α := (List UInt8) × (List UInt8)) (fun (k, i) => [.p (.bs (k)), .p (.bs (i))]) (fun (k, i) => []) (fun (k, i) => True) (fun (k, i) => [.p (.v (.bool true))]) (fun (k, i) => [])⟩
def S_lawParts : FuncId → Option Sp := fun f => if f = 9 then some headSp else if f = 11 then some greatSp else if f = 12 then some hexpandSp else if f = 15 then some hmacSp else if f = 16 then some extractSp else none
theorem S_lawParts_ok : ∀ f s, S_lawParts f = some s → FOK Tryd.prog gl f s := fun f s h => by
  unfold S_lawParts at h
  split at h
  · rename_i e; cases h; subst e; exact head_ok
  split at h
  · rename_i e; cases h; subst e; exact great_ok
  split at h
  · rename_i e; cases h; subst e; exact hexpand_ok
  split at h
  · rename_i e; cases h; subst e; exact hmac_ok
  split at h
  · rename_i e; cases h; subst e; exact extract_ok
  cases h
theorem S_lawParts_det : ∀ f s, S_lawParts f = some s → SpDet s.sp := fun f s h => by
  unfold S_lawParts at h
  split at h
  · cases h; exact mkE_det _ _ _ _ _
  split at h
  · cases h; exact mkE_det _ _ _ _ _
  split at h
  · cases h; exact mkE_det _ _ _ _ _
  split at h
  · cases h; exact mkE_det _ _ _ _ _
  split at h
  · cases h; exact mkE_det _ _ _ _ _
  cases h
set_option maxHeartbeats 1000000 in
set_option maxRecDepth 1000 in
theorem lawParts_ok : FOK Tryd.prog gl 8 lawPartsSp := by
  refine FOK.ofE (tyOf_ok Tryd.prog) (slots := [4]) (nt := 59) Tryd.func8 rfl rfl rfl rfl (by decide) 2 (fun ⟨_, _⟩ => rfl) (by decide) (fun ⟨_, _⟩ => ⟨trivial, trivial, trivial⟩) ?_
  rintro ⟨k, i⟩ kk hlen hpre h
  have hl0 : (k).length ≤ 9223372036854775807 := hlen.1
  have hl1 : (i).length ≤ 9223372036854775807 := hlen.2.1
  replace hpre : True := hpre
  show HT (cx Tryd.prog 59 (tyOf Tryd.prog) gl []) _ [(0, .p (.bs (k))), (1, .p (.bs (i)))] [] _
  obtain ⟨N, hN⟩ : ∃ N : Int, N = 64 := ⟨64, rfl⟩
  refine HT.seq ?_
  refine HT.region S_lawParts_ok ?_
  refine So.n (Nat.le_of_ble_eq_true rfl) (A.v rfl (V.as (v := .p (.v (.bool false))) rfl ?_))
  refine So.e ?_
  show HT _ _ _ _ _
  refine HT.seq ?_
  refine HT.region S_lawParts_ok ?_
  refine So.n (Nat.le_of_ble_eq_true rfl) (A.call0 [] 1 rfl rfl rfl rfl trivial trivial () trivial trivial (by trivial) (Φ := fun _ => True) (fun _ _ => trivial) (.inl rfl) (v := .p (.v (.bool true))) rfl (O' := _) rfl (fun h1 => ?_))
  refine So.n (Nat.le_of_ble_eq_true rfl) (A.v rfl (V.as (v := .p (.v (.bool true))) rfl ?_))
  refine So.e ?_
  show HT _ _ _ _ _
  refine HT.seq ?_
  refine HT.seq ?_
  refine HT.region S_lawParts_ok ?_
  refine So.n (Nat.le_of_ble_eq_true rfl) (A.v rfl (V.mv (v := .p (.bs _)) rfl ?_))
  refine So.n (Nat.le_of_ble_eq_true rfl) (A.call0 [.p (.bs _)] 1 rfl rfl rfl rfl ⟨trivial, trivial⟩ trivial _ ⟨.refl _, trivial⟩ trivial (by trivial) (Φ := fun _ => True) (fun _ _ => trivial) (.inl rfl) (v := .p (.v (.bool _))) rfl (O' := _) rfl (fun h2 => ?_))
  refine So.n (Nat.le_of_ble_eq_true rfl) (A.v rfl (V.mv (v := .p (.v (.bool _))) rfl ?_))
  refine So.gd rfl rfl (Nat.le_of_ble_eq_true rfl) (Nat.le_of_ble_eq_true rfl) (fun h3 => ?_) (fun h3 => ?_)
  · have h3 := of_decide_eq_false h3
    refine A.v rfl (V.mv (v := .p (.bs _)) rfl ?_)
    refine So.gy rfl rfl (Nat.le_of_ble_eq_true rfl) (Nat.le_of_ble_eq_true rfl) ?_
    refine A.call0 [.p (.bs _)] 1 rfl rfl rfl rfl ⟨trivial, trivial⟩ trivial _ ⟨.refl _, trivial⟩ trivial (by trivial) (Φ := fun _ => True) (fun _ _ => trivial) (.inl rfl) (v := .p (.v (.bool _))) rfl (O' := _) rfl (fun h4 => ?_)
    refine So.n (Nat.le_of_ble_eq_true rfl) (A.v rfl (V.pkFalse (u := .p (.v (.bool _))) rfl rfl ?_))
    refine So.e ?_
    show HT _ _ _ _ _
    refine R.cond rfl rfl (fun h5 => ?_) (fun h5 => ?_)
    · have h5 := of_decide_eq_true h5
      refine HT.seq ?_
      refine HT.region S_lawParts_ok ?_
      refine So.n (Nat.le_of_ble_eq_true rfl) (A.v rfl (V.mv (v := .p (.v (.bool true))) rfl ?_))
      refine So.n (Nat.le_of_ble_eq_true rfl) (A.v rfl (V.as (v := .p (.v (.bool true))) rfl ?_))
      refine So.e ?_
      show HT _ _ _ _ _
      refine HT.ret ?_
      exact ret_ok (sg []) h rfl rfl rfl trivial ⟨trivial, trivial⟩ rfl ⟨⟨⟨le_bool (by first | with_reducible rfl | exact decide_eq_true rfl), trivial⟩, trivial⟩, trivial⟩
    · have h5 := of_decide_eq_false h5
      refine HT.skip ?_
      show HT _ _ _ _ _
      refine HT.seq ?_
      refine HT.region S_lawParts_ok ?_
      refine So.n (Nat.le_of_ble_eq_true rfl) (A.v rfl (V.mv (v := .p (.bs _)) rfl ?_))
      refine So.n (Nat.le_of_ble_eq_true rfl) (A.v rfl (V.mv (v := .p (.bs _)) rfl ?_))
      refine So.n (Nat.le_of_ble_eq_true rfl) (A.call0 [.p (.bs _), .p (.bs _), .p (.v (.int .i64 _))] 1 rfl rfl rfl rfl ⟨trivial, trivial, trivial, trivial⟩ trivial (k, i, N) ⟨.refl _, .refl _, le_int hN.symm, trivial⟩ trivial (by first | omega | (simp; done) | (simp; omega)) (Φ := fun _ => True) (fun _ _ => trivial) (.inl rfl) (v := .own 3 0 _) rfl (O' := (3, ⟨5, 1, _, true, .bs _⟩) :: _) rfl (fun h6 => ?_))
      refine So.n (Nat.le_of_ble_eq_true rfl) (A.v rfl (V.as (v := .own 3 0 _) rfl ?_))
      refine So.e ?_
      show HT _ _ _ _ _
      refine HT.seq ?_
      refine HT.region S_lawParts_ok ?_
      have hm1 := mac_len k (i ++ [1])
      refine So.n (Nat.le_of_ble_eq_true rfl) (A.v rfl (V.mv (v := .p (.bs _)) rfl ?_))
      refine So.n (Nat.le_of_ble_eq_true rfl) (A.bsl 4 ty22 ty5 rfl (Nat.le_of_ble_eq_true rfl) (Nat.le_of_ble_eq_true rfl) (fun _ => rfl) rfl rfl trivial trivial rfl (N := 0) rfl (c := .bs []) rfl ?_)
      refine So.n (Nat.le_of_ble_eq_true rfl) (A.v rfl (V.mv (v := .p (.bs _)) rfl ?_))
      refine So.n (Nat.le_of_ble_eq_true rfl) (A.apOwn ty22 ty5 rfl rfl rfl rfl (u := .p (.bs _)) rfl rfl (l' := i) (by simp) (mn := i.length) (by simp) (by first | rfl | omega | (simp; done) | (simp; omega)) rfl rfl rfl ?_)
      refine So.n (Nat.le_of_ble_eq_true rfl) (A.bsl 5 ty22 ty5 rfl (Nat.le_of_ble_eq_true rfl) (Nat.le_of_ble_eq_true rfl) (fun _ => rfl) rfl rfl trivial ⟨trivial, trivial⟩ rfl (N := 1) rfl (c := .bs [_]) rfl ?_)
      refine So.n (Nat.le_of_ble_eq_true rfl) (A.apOwn ty22 ty5 rfl rfl rfl rfl (u := .own 5 0 _) rfl rfl (l' := i ++ [1]) (by rw [ap_full (by simp)]; rfl) (mn := i.length + 1) (by rfl) (by first | rfl | omega | (simp; done) | (simp; omega)) rfl rfl rfl ?_)
      refine So.n (Nat.le_of_ble_eq_true rfl) (A.call0 [.p (.bs _), .p (.bs _)] 6 rfl rfl rfl rfl ⟨trivial, trivial, trivial⟩ trivial (k, i ++ [1]) ⟨.refl _, le_bs (by rw [List.drop_zero, List.take_of_length_le (by simp)]), trivial⟩ trivial (by first | omega | (simp only [List.drop_zero, List.take_length]; omega) | (simp; done) | (simp; omega)) (Φ := fun _ => True) (fun _ _ => trivial) (.inr ⟨trivial, by simp [Hp.scal, OC.scal, PV.scal, BV.scal]⟩) (v := .own 8 0 _) rfl (O' := (8, ⟨5, 1, _, true, .bs _⟩) :: _) rfl (fun h7 => ?_))
      refine So.n (Nat.le_of_ble_eq_true rfl) (A.v rfl (V.as (v := .own 8 0 _) rfl ?_))
      refine So.e ?_
      show HT _ _ _ _ _
      refine HT.seq ?_
      refine HT.region S_lawParts_ok ?_
      have hm2 := mac_len k (mac k (i ++ [1]) ++ i ++ [2])
      refine So.n (Nat.le_of_ble_eq_true rfl) (A.v rfl (V.mv (v := .p (.bs _)) rfl ?_))
      refine So.n (Nat.le_of_ble_eq_true rfl) (A.bsl 9 ty22 ty5 rfl (Nat.le_of_ble_eq_true rfl) (Nat.le_of_ble_eq_true rfl) (fun _ => rfl) rfl rfl trivial trivial rfl (N := 0) rfl (c := .bs []) rfl ?_)
      refine So.n (Nat.le_of_ble_eq_true rfl) (A.v rfl (V.mv (v := .own 8 0 _) rfl ?_))
      refine So.n (Nat.le_of_ble_eq_true rfl) (A.apOwn ty22 ty5 rfl rfl rfl rfl (u := .own 8 0 _) rfl rfl (l' := mac k (i ++ [1])) (by rw [List.take_zero, List.nil_append, List.drop_zero, List.take_of_length_le (by omega)]) (mn := 32) (by rfl) (by first | rfl | omega | (simp; done) | (simp; omega)) rfl rfl rfl ?_)
      refine So.n (Nat.le_of_ble_eq_true rfl) (A.v rfl (V.mv (v := .p (.bs _)) rfl ?_))
      refine So.n (Nat.le_of_ble_eq_true rfl) (A.apOwn ty22 ty5 rfl rfl rfl rfl (u := .p (.bs _)) rfl rfl (l' := mac k (i ++ [1]) ++ i) (by rw [ap_full (by omega)]) (mn := 32 + i.length) (by rfl) (by first | rfl | omega | (simp; done) | (simp; omega)) rfl rfl rfl ?_)
      refine So.n (Nat.le_of_ble_eq_true rfl) (A.bsl 10 ty22 ty5 rfl (Nat.le_of_ble_eq_true rfl) (Nat.le_of_ble_eq_true rfl) (fun _ => rfl) rfl rfl trivial ⟨trivial, trivial⟩ rfl (N := 1) rfl (c := .bs [_]) rfl ?_)
      refine So.n (Nat.le_of_ble_eq_true rfl) (A.apOwn ty22 ty5 rfl rfl rfl rfl (u := .own 10 0 _) rfl rfl (l' := mac k (i ++ [1]) ++ i ++ [2]) (by rw [ap_full (by simp; omega)]; rfl) (mn := 32 + i.length + 1) (by rfl) (by first | rfl | omega | (simp; done) | (simp; omega)) rfl rfl rfl ?_)
      refine So.n (Nat.le_of_ble_eq_true rfl) (A.call0 [.p (.bs _), .p (.bs _)] 11 rfl rfl rfl rfl ⟨trivial, trivial, trivial⟩ trivial (k, mac k (i ++ [1]) ++ i ++ [2]) ⟨.refl _, le_bs (by rw [List.drop_zero, List.take_of_length_le (by simp; omega)]), trivial⟩ trivial (by first | omega | (simp only [List.drop_zero, List.take_length]; omega) | (simp; done) | (simp; omega)) (Φ := fun _ => True) (fun _ _ => trivial) (.inr ⟨trivial, by simp [Hp.scal, OC.scal, PV.scal, BV.scal]⟩) (v := .own 13 0 _) rfl (O' := (13, ⟨5, 1, _, true, .bs _⟩) :: _) rfl (fun h8 => ?_))
      refine So.n (Nat.le_of_ble_eq_true rfl) (A.v rfl (V.as (v := .own 13 0 _) rfl ?_))
      refine So.e ?_
      show HT _ _ _ _ _
      refine HT.seq ?_
      refine HT.planS S_lawParts_ok S_lawParts_det mixed [2, 3, 9, 10, 11, 12, 13, 14, 15, 16, 17, 18, 19, 20, 21, 22, 23] [⟨[0, 1, 2, 3, 5, 7], 4, [2, 3, 5, 7]⟩, ⟨[2, 3, 5, 7], 6, [2, 3, 7]⟩, ⟨[2, 3, 7], 8, [2, 3]⟩] (by kernel_rfl) ?_
      refine Pl.lk ?_
      refine Si.n rfl (Nat.le_of_ble_eq_true rfl) (V.mv (v := .p (.v (.bool true))) rfl ?_)
      refine Si.n rfl (Nat.le_of_ble_eq_true rfl) (V.mv (v := .p (.v (.bool true))) rfl ?_)
      refine Si.gy rfl rfl rfl (Nat.le_of_ble_eq_true rfl) (Nat.le_of_ble_eq_true rfl) ?_
      refine V.mv (v := .own 3 0 _) rfl ?_
      refine Si.gy rfl rfl rfl (Nat.le_of_ble_eq_true rfl) (Nat.le_of_ble_eq_true rfl) ?_
      refine V.cvOwn ty9 rfl rfl rfl List.take_length ?_
      refine Si.gy rfl rfl rfl (Nat.le_of_ble_eq_true rfl) (Nat.le_of_ble_eq_true rfl) ?_
      refine V.mv (v := .own 8 0 _) rfl ?_
      refine Si.gy rfl rfl rfl (Nat.le_of_ble_eq_true rfl) (Nat.le_of_ble_eq_true rfl) ?_
      refine V.mv (v := .own 13 0 _) rfl ?_
      refine Si.e ?_
      refine ⟨flEq_nil, fun ff => ?_⟩
      refine Lo.gy rfl rfl rfl (Nat.le_of_ble_eq_true rfl) (Nat.le_of_ble_eq_true rfl) ?_
      refine A.bsl 14 ty22 ty5 rfl (Nat.le_of_ble_eq_true rfl) (Nat.le_of_ble_eq_true rfl) (fun _ => rfl) rfl rfl trivial trivial rfl (N := 0) rfl (c := .bs []) rfl ?_
      refine ⟨_, fun ff => ff, ap0dg, rfl, FG.id, ?_⟩
      show planA _ _ _ _ _ [(2, .own 3 0 _), (3, .p (.str _)), (5, .own 8 0 _), (7, .own 13 0 _)] _ _ _
      refine Pl.lk ?_
      refine Si.gy rfl rfl rfl (Nat.le_of_ble_eq_true rfl) (Nat.le_of_ble_eq_true rfl) ?_
      refine V.mv (v := .own 3 0 _) rfl ?_
      refine Si.gy rfl rfl rfl (Nat.le_of_ble_eq_true rfl) (Nat.le_of_ble_eq_true rfl) ?_
      refine V.cvOwn ty9 rfl rfl rfl List.take_length ?_
      refine Si.gy rfl rfl rfl (Nat.le_of_ble_eq_true rfl) (Nat.le_of_ble_eq_true rfl) ?_
      refine V.mv (v := .own 8 0 _) rfl ?_
      refine Si.gy rfl rfl rfl (Nat.le_of_ble_eq_true rfl) (Nat.le_of_ble_eq_true rfl) ?_
      refine V.mv (v := .own 13 0 _) rfl ?_
      refine Si.e ?_
      refine ⟨(flEq_cons rfl (flEq_cons rfl (flEq_cons rfl (flEq_cons rfl flEq_nil)))), fun ff => ?_⟩
      refine Lo.gy rfl rfl rfl (Nat.le_of_ble_eq_true rfl) (Nat.le_of_ble_eq_true rfl) ?_
      refine A.apOwn ty22 ty5 rfl rfl rfl rfl (u := .own 8 0 _) rfl rfl (l' := mac k (i ++ [1])) (by rw [List.take_zero, List.nil_append, List.drop_zero, List.take_of_length_le (by omega)]) (mn := 32) (by rfl) (by first | rfl | omega | (simp; done) | (simp; omega)) rfl rfl rfl ?_
      refine ⟨_, fun ff => Fr.kill 14 (ff), ap1dg, rfl, (FG.kill 14 (flP_cons rfl (flP_cons rfl (flP_cons rfl flP_nil)))), ?_⟩
      show planA _ _ _ _ _ [(2, .own 3 0 _), (3, .p (.str _)), (7, .own 13 0 _)] _ _ _
      refine Pl.lk ?_
      refine Si.gy rfl rfl rfl (Nat.le_of_ble_eq_true rfl) (Nat.le_of_ble_eq_true rfl) ?_
      refine V.mv (v := .own 3 0 _) rfl ?_
      refine Si.gy rfl rfl rfl (Nat.le_of_ble_eq_true rfl) (Nat.le_of_ble_eq_true rfl) ?_
      refine V.cvOwn ty9 rfl rfl rfl List.take_length ?_
      refine Si.gy rfl rfl rfl (Nat.le_of_ble_eq_true rfl) (Nat.le_of_ble_eq_true rfl) ?_
      refine V.mv (v := .own 13 0 _) rfl ?_
      refine Si.e ?_
      refine ⟨(flEq_cons rfl (flEq_cons rfl (flEq_cons rfl flEq_nil))), fun ff => ?_⟩
      refine Lo.gy rfl rfl rfl (Nat.le_of_ble_eq_true rfl) (Nat.le_of_ble_eq_true rfl) ?_
      refine A.apOwn ty22 ty5 rfl rfl rfl rfl (u := .own 13 0 _) rfl rfl (l' := mac k (i ++ [1]) ++ mac k (mac k (i ++ [1]) ++ i ++ [2])) (by rw [ap_full (by omega), List.drop_zero, List.take_of_length_le (by omega)]) (mn := 64) (by rfl) (by first | rfl | omega | (simp; done) | (simp; omega)) rfl rfl rfl ?_
      refine ⟨_, fun ff => Fr.kill 14 (ff), ap1dg, rfl, (FG.kill 14 (flP_cons rfl (flP_cons rfl flP_nil))), ?_⟩
      show planA _ _ _ _ _ [(2, .own 3 0 _), (3, .p (.str _))] _ _ _
      refine Pl.e ?_
      refine Si.gy rfl rfl rfl (Nat.le_of_ble_eq_true rfl) (Nat.le_of_ble_eq_true rfl) ?_
      refine V.mv (v := .own 3 0 _) rfl ?_
      refine Si.gy rfl rfl rfl (Nat.le_of_ble_eq_true rfl) (Nat.le_of_ble_eq_true rfl) ?_
      refine V.cvOwn ty9 rfl rfl rfl List.take_length ?_
      refine Si.gy rfl rfl rfl (Nat.le_of_ble_eq_true rfl) (Nat.le_of_ble_eq_true rfl) ?_
      refine V.cvOwn ty9 rfl rfl rfl rfl ?_
      refine Si.gy rfl rfl rfl (Nat.le_of_ble_eq_true rfl) (Nat.le_of_ble_eq_true rfl) ?_
      refine V.bin (a := (.str _)) (b := (.str _)) (r := .v (.bool _)) rfl rfl rfl trivial ?_
      refine Si.n rfl (Nat.le_of_ble_eq_true rfl) (V.pkTrue (u := .p (.v (.bool _))) rfl rfl ?_)
      refine Si.n rfl (Nat.le_of_ble_eq_true rfl) (V.mv (v := .p (.v (.bool _))) rfl ?_)
      refine Si.gd rfl rfl rfl (Nat.le_of_ble_eq_true rfl) (Nat.le_of_ble_eq_true rfl) (fun h9 => ?_) (fun h9 => ?_)
      · have h9 := of_decide_eq_true h9
        refine V.mv (v := .p (.bs _)) rfl ?_
        refine Si.gy rfl rfl rfl (Nat.le_of_ble_eq_true rfl) (Nat.le_of_ble_eq_true rfl) ?_
        refine V.mv (v := .p (.bs _)) rfl ?_
        refine Si.gy rfl rfl rfl (Nat.le_of_ble_eq_true rfl) (Nat.le_of_ble_eq_true rfl) ?_
        refine V.call [.p (.bs _), .p (.bs _)] 15 rfl rfl rfl rfl ⟨trivial, trivial, trivial⟩ trivial (_, _) ⟨.refl _, .refl _, trivial⟩ trivial (by first | omega | (simp only [List.drop_zero, List.take_length]; omega) | (simp; done) | (simp; omega)) (Φ := fun _ => True) (fun _ _ => trivial) (.inl ⟨trivial, trivial, trivial⟩) (v := .p (.bs _)) rfl (fun h10 => ?_)
        refine Si.gy rfl rfl rfl (Nat.le_of_ble_eq_true rfl) (Nat.le_of_ble_eq_true rfl) ?_
        refine V.cvBs ty9 rfl rfl ?_
        refine Si.gy rfl rfl rfl (Nat.le_of_ble_eq_true rfl) (Nat.le_of_ble_eq_true rfl) ?_
        refine V.mv (v := .p (.bs _)) rfl ?_
        refine Si.gy rfl rfl rfl (Nat.le_of_ble_eq_true rfl) (Nat.le_of_ble_eq_true rfl) ?_
        refine V.mv (v := .p (.bs _)) rfl ?_
        refine Si.gy rfl rfl rfl (Nat.le_of_ble_eq_true rfl) (Nat.le_of_ble_eq_true rfl) ?_
        refine V.call [.p (.bs _), .p (.bs _)] 15 rfl rfl rfl rfl ⟨trivial, trivial, trivial⟩ trivial (_, _) ⟨.refl _, .refl _, trivial⟩ trivial (by first | omega | (simp only [List.drop_zero, List.take_length]; omega) | (simp; done) | (simp; omega)) (Φ := fun _ => True) (fun _ _ => trivial) (.inl ⟨trivial, trivial, trivial⟩) (v := .p (.bs _)) rfl (fun h11 => ?_)
        refine Si.gy rfl rfl rfl (Nat.le_of_ble_eq_true rfl) (Nat.le_of_ble_eq_true rfl) ?_
        refine V.cvBs ty9 rfl rfl ?_
        refine Si.gy rfl rfl rfl (Nat.le_of_ble_eq_true rfl) (Nat.le_of_ble_eq_true rfl) ?_
        refine V.bin (a := (.str _)) (b := (.str _)) (r := .v (.bool _)) rfl rfl rfl trivial ?_
        refine Si.n rfl (Nat.le_of_ble_eq_true rfl) (V.pkTrue (u := .p (.v (.bool _))) rfl rfl ?_)
        refine Si.n rfl (Nat.le_of_ble_eq_true rfl) (V.as (v := .p (.v (.bool _))) rfl ?_)
        refine Si.e ?_
        refine ⟨(flEq_cons rfl (flEq_cons rfl flEq_nil)), ?_⟩
        show HT _ _ _ _ _
        refine HT.ret ?_
        exact ret_ok (sg []) h rfl rfl rfl trivial ⟨trivial, trivial⟩ rfl ⟨⟨⟨le_bool (by first | with_reducible rfl | exact decide_eq_true rfl), trivial⟩, trivial⟩, trivial⟩
      · have h9 := of_decide_eq_false h9
        first | exact absurd (by first | (rw [List.drop_zero, List.take_of_length_le (by rw [List.length_append]; omega)]; exact parts_eqN hN k i) | with_reducible rfl) h9 | exact absurd h9 (by first | (rw [List.drop_zero, List.take_of_length_le (by rw [List.length_append]; omega)]; exact parts_eqN hN k i) | with_reducible rfl)
  · have h3 := of_decide_eq_true h3
    refine So.gn (b := true) rfl rfl rfl (Nat.le_of_ble_eq_true rfl) (Nat.le_of_ble_eq_true rfl) ?_
    refine So.n (Nat.le_of_ble_eq_true rfl) (A.v rfl (V.pkTrue (u := .p (.v (.bool true))) rfl rfl ?_))
    refine So.e ?_
    show HT _ _ _ _ _
    refine R.condT rfl ?_
    refine HT.seq ?_
    refine HT.region S_lawParts_ok ?_
    refine So.n (Nat.le_of_ble_eq_true rfl) (A.v rfl (V.mv (v := .p (.v (.bool true))) rfl ?_))
    refine So.n (Nat.le_of_ble_eq_true rfl) (A.v rfl (V.as (v := .p (.v (.bool true))) rfl ?_))
    refine So.e ?_
    show HT _ _ _ _ _
    refine HT.ret ?_
    exact ret_ok (sg []) h rfl rfl rfl trivial ⟨trivial, trivial⟩ rfl ⟨⟨⟨le_bool (by first | with_reducible rfl | exact decide_eq_true rfl), trivial⟩, trivial⟩, trivial⟩

end Go.Vh
